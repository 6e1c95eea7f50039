/- Texts of the proof, joined. Conditions: none. -/
import Derived.Test.YtncgbaokgniphaaGreatO6
import Derived.KernelRfl
section
namespace Go.Proofs.YtncgbaokgniphaaGreat
open Go Go.E
set_option maxRecDepth 100000
variable {e w : World} {L Q R : List HP} {K : KV} {S S2 : HP} {wd : Wd} {k : KS} {M : KM} {p n f s : Nat}
def inN (wd : Wd) (a : Int) : Prop := 0 ≤ a ∧ a < wd.Feds.length
instance (wd : Wd) (a : Int) : Decidable (inN wd a) := by unfold inN; infer_instance
def ZuO (wd : Wd) (o : Zbs) : Prop := o.Kind < 0 ∨ 6 < o.Kind ∨ (o.Kind ≠ 4 ∧ ¬ inN wd o.A) ∨ (o.Kind = 2 ∧ ¬ inN wd o.B)
instance (wd : Wd) (o : Zbs) : Decidable (ZuO wd o) := by unfold ZuO; infer_instance
def doK (wd : Wd) (k : KS) (o : Zbs) : Int × KS := if ZuO wd o then (1, k) else k.do' wd o.Kind.toNat o.A.toNat o.B.toNat
theorem Ze1.doK {k : KS} {s : Nat} (h : Ze1 wd k s) (o : Zbs) : Ze1 wd (doK wd k o).2 (s + 1) := by
 unfold Go.Proofs.YtncgbaokgniphaaGreat.doK
 split
 ·exact h.mono (Nat.le_succ _)
 ·rename_i hb
  refine h.do' _ _ _ (fun h4 => ?_) fun h2 => ?_
  ·have : inN wd o.A := Classical.byContradiction fun hn => hb (.inr (.inr (.inl ⟨fun h => h4 (by rw [h]; rfl), hn⟩)))
   unfold inN at this
   omega
  ·have : inN wd o.B := Classical.byContradiction fun hn => hb (.inr (.inr (.inr ⟨by
    have h1 : ¬ o.Kind < 0 := fun h => hb (.inl h)
    omega, hn⟩)))
   unfold inN at this
   omega
abbrev Zdq (n : Nat) (o : Zbs) : Nat := if o.Kind = 0 then n + 1 else n
theorem ZrZ {o : Zbs} (hs : s ≤ 1000000) (hn : n ≤ 1000) (hS : Sat e w (Zby p wd k n s :: Q)) (hk : ∀ w', Sat e w' (Zby p wd (doK wd k o).2 (Zdq n o) (s + 1) :: Q) → K (.int .i64 (doK wd k o).1) w') :
  Cl prog 17 #[pt p, .agg o.cs.toArray] w K := by
 refine ZhK ?_
 unfold Zij
 obtain ⟨M, hI, h0⟩ := ZpC hS
 have hI' := hI.doK o
 refine Yp (cs := o.cs) h0 rfl fun t3 w1 h1 => ?_
 have h2 : Sat e w1 (KP p wd n k M ++ blk t3 37 o.cs :: Q) := h1.selR [_, _, _, _, _, _, _, _] [_, _, _, _, _, _, _, _] [1, 2, 3, 4, 5, 6, 7, 0] (by decide) rfl
 have fin : ∀ {w : World} {M' : KM} {er : Int} {k' : KS}, doK wd k o = (er, k') → Sat e w (KP p wd (Zdq n o) k' M' ++ blk t3 37 o.cs :: Q) → K (.int .i64 er) w := by
  intro w M' er k' he h
  rw [he] at hk hI'
  exact hk _ (ZkQ (M := M') hI' (h.selR [_, _, _, _, _, _, _, _] [_, _, _, _, _, _, _] [0, 1, 2, 3, 4, 5, 6] (by decide) rfl))
 have hle : n ≤ Zdq n o := by unfold Zdq; split <;> omega
 have bad : ZuO wd o → ∀ {w : World}, Sat e w (KP p wd n k M ++ blk t3 37 o.cs :: Q) → K (.int .i64 1) w := fun hb _ h => fin (if_pos hb) (Zrf hle h)
 have good : ¬ ZuO wd o → doK wd k o = k.do' wd o.Kind.toNat o.A.toNat o.B.toNat := fun hb => if_neg hb
 by_cases c1 : o.Kind < 0
 ·refine Za (Zb h1 0 rfl rfl (Ztt (by omega) (Zd (Zd (Zd (Yv (Zd (Zd (Zd (Zd (Zrb (Zd (Zd (Zd (Zd (Zd (Yv (Zd (Zd (Zd (Zd (Zrb (Zd (Zd (Zd (Zd (Zd (Yv (Zi ?_)))))))))))))))))))))))))))))
  exact bad (.inl c1) h2
 by_cases c2 : 6 < o.Kind
 ·refine Za (Zb h1 0 rfl rfl (Ze7 (by omega) (Ze (Za (Ze (Zb h1 0 rfl rfl (Ze (ZtF (by omega) (Yd (Zd (Zd (Zd (Zd (Zrb (Zd (Zd (Zd (Zd (Zd (Yv (Zd (Zd (Zd (Zd (Zrb (Zd (Zd (Zd (Zd (Zd (Yv (Zi ?_))))))))))))))))))))))))))))))))
  exact bad (.inr (.inl c2)) h2
 by_cases c4 : o.Kind = 4
 ·have hg := good (by rintro (h | h | h | h) <;> omega)
  rw [show o.Kind.toNat = 4 from by omega] at hg
  have hst : Zdq n o = n := if_neg (by omega)
  rw [hst] at fin
  refine Za (Zb h1 0 rfl rfl (Ze7 (by omega) (Ze (Za (Ze (Zb h1 0 rfl rfl (Ze (Zle (by omega) (Yd (Ze (Za (Ze (Zb h1 0 rfl rfl (Ze (ZoP (by omega) (Zj (Zu (Zd (Zd (Zd (Zd (Ze (Yd (Yd (Ze (Za (Ze (Zb h1 0 rfl rfl (Ze (Zd8 (by omega) (Zj (Zu (Zd (Zd (Zd (Zd (Ze (Yd (Yd (Zf (Za (Zb h1 0 rfl rfl (Zd8 (by omega) (Zf (Zd8 (by omega) (Zf (Zd8 (by omega) (Zf (Zd8 (by omega) (Zf (Znq (by omega) (Zi (Zh (Za ?_))))))))))))))))))))))))))))))))))))))))))))))))))))))
  cases hc : k.cut with
  | none =>
   have hcv : (kcs wd k M)[4]? = some (.pointer none) := by unfold kcs; rw [hc]; rfl
   refine Zb h1 3 rfl hcv (Ztj (Zi (fin (hg.trans ?_) h2)))
   show k.begin' = _
   unfold KS.begin'
   rw [hc]
  | some c =>
   obtain ⟨_, hco⟩ := hI.cutIs hc
   have hcv : (kcs wd k M)[4]? = some (pt M.c) := by unfold kcs; rw [hc]; rfl
   refine Zb h1 3 rfl hcv (ZmP _ (Zf (Zh (Za (Zb h1 3 rfl hcv ?_)))))
   refine Zqy (by have := hco.begun; show 0 ≤ c.begun ∧ c.begun ≤ 1000000; omega) (ZhH hc h2) fun w3 h3 => ?_
   by_cases hu : c.over < c.begun
   ·rw [if_pos (show (Zcg (Zai wd) c).over < (Zcg (Zai wd) c).begun from hu)] at h3 ⊢
    have h4 := Zf8 (k := k) c c hc h3
    rw [ZoM hc] at h4
    refine fin (hg.trans ?_) h4
    show k.begin' = _
    unfold KS.begin'
    rw [hc]
    exact if_pos hu
   ·rw [if_neg (show ¬ (Zcg (Zai wd) c).over < (Zcg (Zai wd) c).begun from hu)] at h3 ⊢
    have h4 := Zf8 (k := k) { c with begun := c.begun + 1, least := Inf } c hc h3
    refine fin (hg.trans ?_) h4
    show k.begin' = _
    unfold KS.begin'
    rw [hc]
    exact if_neg hu
 ·by_cases ca : inN wd o.A
  ·obtain ⟨a, hA⟩ : ∃ a : Nat, o.A = a := ⟨o.A.toNat, by unfold inN at ca; omega⟩
   have hal : a < wd.Feds.length := by unfold inN at ca; omega
   have hat : o.A.toNat = a := by omega
   by_cases c2' : o.Kind = 2
   ·by_cases cb : inN wd o.B
    ·obtain ⟨b, hB⟩ : ∃ b : Nat, o.B = b := ⟨o.B.toNat, by unfold inN at cb; omega⟩
     have hbl : b < wd.Feds.length := by unfold inN at cb; omega
     have hg := good (by rintro (h | h | h | h); omega; omega; exact h.2 ca; exact h.2 cb)
     rw [show o.Kind.toNat = 2 from by omega, hat, show o.B.toNat = b from by omega] at hg
     have hst : Zdq n o = n := if_neg (by omega)
     rw [hst] at fin
     refine Za (Zb h1 0 rfl rfl (Ze7 (by omega) (Ze (Za (Ze (Zb h1 0 rfl rfl (Ze (Zle (by omega) (Yd (Ze (Za (Ze (Zb h1 0 rfl rfl (Ze (Zng (by omega) (Zj (Ze (Ze (Za (Ze (Zb h1 0 rfl rfl (Ze ?_))))))))))))))))))))))
     refine Zdx h2 ?_
     rw [decide_eq_true (show 0 ≤ o.A ∧ o.A < (wd.Feds.length : Int) from ca)]
     refine Ze (ZaJ (Ze (Yv (Yd (Ze (Za (Ze (Zb h1 0 rfl rfl (Ze (Znq (by omega) (Zj (Ze (Ze (Za (Ze (Zb h1 0 rfl rfl (Ze ?_)))))))))))))))))
     refine Zdx h2 ?_
     rw [decide_eq_true (show 0 ≤ o.B ∧ o.B < (wd.Feds.length : Int) from cb)]
     refine Ze (ZaJ (Ze (Yv (Yd (Zf (Za (Zb h1 0 rfl rfl (Zd8 (by omega) (Zf (Zd8 (by omega) (Zf (Znq (by omega) (Zi (Za (Zb h1 0 rfl rfl (Za (Zb h1 0 rfl rfl ?_)))))))))))))))))
     rw [hA, hB]
     exact Zoi hal hbl hI hs h2 fun M' w3 h3 => fin hg h3
    ·refine Za (Zb h1 0 rfl rfl (Ze7 (by omega) (Ze (Za (Ze (Zb h1 0 rfl rfl (Ze (Zle (by omega) (Yd (Ze (Za (Ze (Zb h1 0 rfl rfl (Ze (Zng (by omega) (Zj (Ze (Ze (Za (Ze (Zb h1 0 rfl rfl (Ze ?_))))))))))))))))))))))
     refine Zdx h2 ?_
     rw [decide_eq_true (show 0 ≤ o.A ∧ o.A < (wd.Feds.length : Int) from ca)]
     refine Ze (ZaJ (Ze (Yv (Yd (Ze (Za (Ze (Zb h1 0 rfl rfl (Ze (Znq (by omega) (Zj (Ze (Ze (Za (Ze (Zb h1 0 rfl rfl (Ze ?_)))))))))))))))))
     refine Zdx h2 ?_
     rw [decide_eq_false (show ¬ (0 ≤ o.B ∧ o.B < (wd.Feds.length : Int)) from cb)]
     refine Ze (Zch (Ze (Yv (Yd (Zi ?_)))))
     exact bad (.inr (.inr (.inr ⟨c2', cb⟩))) h2
   ·have hg := good (by rintro (h | h | h | h); omega; omega; exact h.2 ca; exact c2' h.1)
    rw [hat] at hg
    have front : ∀ {K : KV}, K (.bool true) w1 → Cl prog 51 #[pt p, .int .i64 o.A] w1 K := fun h => Zdx h2 (by
     rw [decide_eq_true (show 0 ≤ o.A ∧ o.A < (wd.Feds.length : Int) from ca)]
     exact h)
    rcases (show o.Kind = 0 ∨ o.Kind = 1 ∨ o.Kind = 3 ∨ o.Kind = 5 ∨ o.Kind = 6 from by omega) with c | c | c | c | c
    ·rw [show o.Kind.toNat = 0 from by omega] at hg
     have hst : Zdq n o = n + 1 := if_pos c
     rw [hst] at fin
     refine Za (Zb h1 0 rfl rfl (Ze7 (by omega) (Ze (Za (Ze (Zb h1 0 rfl rfl (Ze (Zle (by omega) (Yd (Ze (Za (Ze (Zb h1 0 rfl rfl (Ze (Zng (by omega) (Zj (Ze (Ze (Za (Ze (Zb h1 0 rfl rfl (Ze ?_))))))))))))))))))))))
     refine front ?_
     refine Ze (ZaJ (Ze (Yv (Yd (Ze (Za (Ze (Zb h1 0 rfl rfl (Ze (Zd8 (by omega) (Zj (Zu (Zd (Zd (Zd (Zd (Ze (Yd (Yd (Zf (Za (Zb h1 0 rfl rfl (Znq (by omega) (Zi (Za (Zb h1 0 rfl rfl ?_))))))))))))))))))))))))))
     rw [hA]
     exact Zti hal hI hs hn h2 fun M' w3 h3 => fin hg h3
    ·rw [show o.Kind.toNat = 1 from by omega] at hg
     have hst : Zdq n o = n := if_neg (by omega)
     rw [hst] at fin
     refine Za (Zb h1 0 rfl rfl (Ze7 (by omega) (Ze (Za (Ze (Zb h1 0 rfl rfl (Ze (Zle (by omega) (Yd (Ze (Za (Ze (Zb h1 0 rfl rfl (Ze (Zng (by omega) (Zj (Ze (Ze (Za (Ze (Zb h1 0 rfl rfl (Ze ?_))))))))))))))))))))))
     refine front ?_
     refine Ze (ZaJ (Ze (Yv (Yd (Ze (Za (Ze (Zb h1 0 rfl rfl (Ze (Zd8 (by omega) (Zj (Zu (Zd (Zd (Zd (Zd (Ze (Yd (Yd (Zf (Za (Zb h1 0 rfl rfl (Zd8 (by omega) (Zf (Znq (by omega) (Zi (Za (Zb h1 0 rfl rfl ?_))))))))))))))))))))))))))))
     rw [hA]
     exact ZqM hal hI hs h2 fun M' w3 h3 => fin hg h3
    ·rw [show o.Kind.toNat = 3 from by omega] at hg
     have hst : Zdq n o = n := if_neg (by omega)
     rw [hst] at fin
     refine Za (Zb h1 0 rfl rfl (Ze7 (by omega) (Ze (Za (Ze (Zb h1 0 rfl rfl (Ze (Zle (by omega) (Yd (Ze (Za (Ze (Zb h1 0 rfl rfl (Ze (Zng (by omega) (Zj (Ze (Ze (Za (Ze (Zb h1 0 rfl rfl (Ze ?_))))))))))))))))))))))
     refine front ?_
     refine Ze (ZaJ (Ze (Yv (Yd (Ze (Za (Ze (Zb h1 0 rfl rfl (Ze (Zd8 (by omega) (Zj (Zu (Zd (Zd (Zd (Zd (Ze (Yd (Yd (Zf (Za (Zb h1 0 rfl rfl (Zd8 (by omega) (Zf (Zd8 (by omega) (Zf (Zd8 (by omega) (Zf (Znq (by omega) (Zi (Za (Zb h1 0 rfl rfl ?_))))))))))))))))))))))))))))))))
     rw [hA]
     exact ZsQ hal hI h2 fun M' w3 h3 => fin hg h3
    ·rw [show o.Kind.toNat = 5 from by omega] at hg
     have hst : Zdq n o = n := if_neg (by omega)
     rw [hst] at fin
     refine Za (Zb h1 0 rfl rfl (Ze7 (by omega) (Ze (Za (Ze (Zb h1 0 rfl rfl (Ze (Zle (by omega) (Yd (Ze (Za (Ze (Zb h1 0 rfl rfl (Ze (Zng (by omega) (Zj (Ze (Ze (Za (Ze (Zb h1 0 rfl rfl (Ze ?_))))))))))))))))))))))
     refine front ?_
     refine Ze (ZaJ (Ze (Yv (Yd (Ze (Za (Ze (Zb h1 0 rfl rfl (Ze (Zd8 (by omega) (Zj (Zu (Zd (Zd (Zd (Zd (Ze (Yd (Yd (Zf (Za (Zb h1 0 rfl rfl (Zd8 (by omega) (Zf (Zd8 (by omega) (Zf (Zd8 (by omega) (Zf (Zd8 (by omega) (Zf (Zd8 (by omega) (Zf (Za (Zb h1 0 rfl rfl ?_))))))))))))))))))))))))))))))))))
     rw [hA]
     refine ZbX hal h2 ?_
     cases hN : k.node a with
     | slow N =>
      refine Ztj (Zi (fin (hg.trans ?_) h2))
      show k.turn a = _
      unfold KS.turn
      rw [hN]
     | bold N rk tl =>
      refine ZmP _ (Zf ?_)
      refine Za (Zb h1 0 rfl rfl (Znq (by omega) (Zi (Zh (Za ?_)))))
      have hbf : (k.node a).isBold = true := by rw [hN]; rfl
      obtain ⟨c', hc, hco⟩ := Zll hI hal hbf
      have hrk : rk < Zai wd := by have := hI.rank a hal hbf; rw [hN] at this; exact this
      have hb8 := Zk9 hI.may
      have hcv : (kcs wd k M)[4]? = some (pt M.c) := by unfold kcs; rw [hc]; rfl
      refine Zb h2.drew 2 rfl hcv ?_
      refine Zh (Zbd (Zfy hal hN) fun a' ha' => Yt h2.drew 0 rfl ha' (v := .int .i64 (rk : Int)) rfl ?_)
      refine Ztb (by omega) (by show (rk : Int) < (Zai wd : Int); omega) (ZhH hc h2.drew) fun w3 h3 => ?_
      rw [Zvu (by rw [hco.t]; exact hrk)] at h3
      have h4 := Zf8 (k := k) _ c' hc h3
      by_cases hu : ¬ c'.over < c'.begun ∨ c'.t rk = c'.begun
      ·rw [if_pos hu, ZoM hc] at h4
       have e1 : (Zcg (Zai wd) c').turnE rk = 130 := if_pos hu
       rw [e1]
       refine fin (hg.trans ?_) h4
       show k.turn a = _
       unfold KS.turn
       rw [hN, hc]
       exact if_pos hu
      ·rw [if_neg hu] at h4
       have e1 : (Zcg (Zai wd) c').turnE rk = 0 := if_neg hu
       rw [e1]
       refine fin (hg.trans ?_) h4
       show k.turn a = _
       unfold KS.turn
       rw [hN, hc]
       exact if_neg hu
    ·rw [show o.Kind.toNat = 6 from by omega] at hg
     have hst : Zdq n o = n := if_neg (by omega)
     rw [hst] at fin
     refine Za (Zb h1 0 rfl rfl (Ze7 (by omega) (Ze (Za (Ze (Zb h1 0 rfl rfl (Ze (Zle (by omega) (Yd (Ze (Za (Ze (Zb h1 0 rfl rfl (Ze (Zng (by omega) (Zj (Ze (Ze (Za (Ze (Zb h1 0 rfl rfl (Ze ?_))))))))))))))))))))))
     refine front ?_
     refine Ze (ZaJ (Ze (Yv (Yd (Ze (Za (Ze (Zb h1 0 rfl rfl (Ze (Zd8 (by omega) (Zj (Zu (Zd (Zd (Zd (Zd (Ze (Yd (Yd (Zf (Za (Zb h1 0 rfl rfl (Zd8 (by omega) (Zf (Zd8 (by omega) (Zf (Zd8 (by omega) (Zf (Zd8 (by omega) (Zf (Zd8 (by omega) (Zf (Za (Zb h1 0 rfl rfl ?_))))))))))))))))))))))))))))))))))
     rw [hA]
     refine ZbX hal h2 ?_
     cases hN : k.node a with
     | slow N =>
      refine Ztj (Zi (fin (hg.trans ?_) h2))
      show k.report wd a = _
      unfold KS.report
      rw [hN]
     | bold N rk tl =>
      refine ZmP _ (Zf ?_)
      refine Za (Zb h1 0 rfl rfl (Zd8 (by omega) (Zf (Za (Zb h1 0 rfl rfl ?_)))))
      rw [hA]
      exact Zo5 hal hN hI hs hn h2 fun M' w3 h3 => fin hg h3
  ·refine Za (Zb h1 0 rfl rfl (Ze7 (by omega) (Ze (Za (Ze (Zb h1 0 rfl rfl (Ze (Zle (by omega) (Yd (Ze (Za (Ze (Zb h1 0 rfl rfl (Ze (Zng (by omega) (Zj (Ze (Ze (Za (Ze (Zb h1 0 rfl rfl (Ze ?_))))))))))))))))))))))
   refine Zdx h2 ?_
   rw [decide_eq_false (show ¬ (0 ≤ o.A ∧ o.A < (wd.Feds.length : Int)) from ca)]
   refine Ze (Zch (Ze (Yv (Yd (Zd (Zd (Zd (Zd (Zrb (Zd (Zd (Zd (Zd (Zd (Yv (Zi ?_))))))))))))))))
   exact bad (.inr (.inr (.inl ⟨c4, ca⟩))) h2
theorem ZKN (hS : Sat e w (Zby p wd k n s :: Q)) (hk : K (.int .i64 k.value) w) : Cl prog 19 #[pt p] w K := by
 refine ZKq ?_
 unfold ZKn
 obtain ⟨M, hI, h1⟩ := ZpC hS
 refine Zh (Za ?_)
 cases hc : k.cut with
 | none =>
  have hcv : (kcs wd k M)[4]? = some (.pointer none) := by unfold kcs; rw [hc]; rfl
  refine Zb h1 2 rfl hcv (Ztj (Zi ?_))
  unfold KS.value at hk
  rwa [hc] at hk
 | some c =>
  have hcv : (kcs wd k M)[4]? = some (pt M.c) := by unfold kcs; rw [hc]; rfl
  refine Zb h1 2 rfl hcv (ZmP _ (Zf (Zh (Za (Zb h1 2 rfl hcv ?_)))))
  refine Zrc (ZhH hc h1) ?_
  unfold KS.value at hk
  rwa [hc] at hk
def ZBN (wd : Wd) (k : KS) (a : Int) : List Zak := if inN wd a then (k.node a.toNat).log wd a.toNat else []
def ZDK (wd : Wd) (k : KS) (a : Int) : List Zn := if inN wd a then k.box a.toNat else []
theorem Zxy {a : Int} (ha : inN wd a) : ∃ b : Nat, a = b ∧ b < wd.Feds.length := ⟨a.toNat, by unfold inN at ha; omega, by unfold inN at ha; omega⟩
theorem ZdZ {a : Int} (hn : n ≤ 1000) (hS : Sat e w (Zby p wd k n s :: Q)) (hk : ∀ v w', Sat e w' (DD v (ZBN wd k a) :: Zby p wd k n s :: Q) → K v w') : Cl prog 16 #[pt p, .int .i64 a] w K := by
 refine Zgr ?_
 unfold Zhc
 obtain ⟨M, hI, h1⟩ := ZpC hS
 refine Zdx h1 ?_
 by_cases ha : inN wd a
 ·rw [decide_eq_true (show 0 ≤ a ∧ a < (wd.Feds.length : Int) from ha)]
  obtain ⟨b, rfl, hb⟩ := Zxy ha
  refine ZaJ (Zf (Zh (Za (Zml hb h1 ?_))))
  refine Zxr hn (Sat.focus h1 b (Yk (F := fun j => ndH wd n j (k.node j) (M.ms j)) hb)) fun v w2 h2 => ?_
  have h3 := Sat.unfocus b (Yk (F := fun j => ndH wd n j (k.node j) (M.ms j)) hb) (Sat.selR [_, _, _, _, _, _, _, _, _] [ndH wd n b (k.node b) (M.ms b), Yh ((Zat wd n k M).eraseIdx b), Yh (Zar wd k M), BK p wd k M, NK wd k M, XK wd M, GK wd k M, CK wd k M, DD v ((k.node b).log wd b)] h2 [1, 2, 3, 4, 5, 6, 7, 8, 0] (by decide) rfl)
  rw [Zcy hI.nl, ZcV (by rw [hI.nl]; exact hb)] at h3
  have e1 : ZBN wd k b = (k.node b).log wd b := if_pos ha
  rw [e1] at hk
  exact hk _ _ (ZkQ hI h3).swap
 ·rw [decide_eq_false (show ¬ (0 ≤ a ∧ a < (wd.Feds.length : Int)) from ha)]
  have e1 : ZBN wd k a = [] := if_neg ha
  rw [e1] at hk
  exact Zch (Zi (hk _ _ (hS.own_nil 49 7 Zak.cs)))
theorem Zp2 {a : Int} (hs : s ≤ 1000000) (hS : Sat e w (Zby p wd k n s :: Q)) (hk : ∀ v w', Sat e w' (DI v (ZDK wd k a) :: Zby p wd k n s :: Q) → K v w') : Cl prog 24 #[pt p, .int .i64 a] w K := by
 refine ZgI ?_
 unfold Zg4
 obtain ⟨M, hI, h1⟩ := ZpC hS
 refine Zdx h1 ?_
 by_cases ha : inN wd a
 ·rw [decide_eq_true (show 0 ≤ a ∧ a < (wd.Feds.length : Int) from ha)]
  obtain ⟨b, rfl, hb⟩ := Zxy ha
  refine ZaJ (Zf (Zh (Za (Zjt hb h1 ?_))))
  have hlen := Znn hI hs b
  refine Zje (l := k.box b) (by omega) (h1.pick 1 rfl) (ZiZ hb) fun v w2 h2 => ?_
  have e1 : ZDK wd k b = k.box b := if_pos ha
  rw [e1] at hk
  exact hk _ _ (ZkQ hI (Sat.selR [_, _, _, _, _, _, _, _] [Yh (Zat wd n k M), Yh (Zar wd k M), BK p wd k M, NK wd k M, XK wd M, GK wd k M, CK wd k M, DI v (k.box b)] h2 [2, 1, 3, 4, 5, 6, 7, 0] (by decide) rfl)).swap
 ·rw [decide_eq_false (show ¬ (0 ≤ a ∧ a < (wd.Feds.length : Int)) from ha)]
  have e1 : ZDK wd k a = [] := if_neg ha
  rw [e1] at hk
  exact Zch (Zi (hk _ _ (Ziz hS)))
theorem Zq1 {v fv : Value} {l : List Zn} {q : Zn → Bool} (i : Nat) (hi : L[i]? = some S) (hS : Sat e w L) (hr : ∀ g, S g → rdS 8 Zn.cs v l g) (hl : l.length ≤ 1000000000000)
  (hp : ∀ o ∈ l, ∀ (w : World) (K : KV), Sat e w L → (∀ w', Sat e w' L → K (.bool (q o)) w') → clV prog fv #[.agg o.cs.toArray] w K)
  (hk : ∀ w', Sat e w' L → K (.bool (l.any q)) w') : Cl prog 62 #[v, fv] w K := by
 refine Za8 ?_
 unfold Zas
 refine Zbn ?_
 unfold ZaH
 refine Zt hS i hi hr ?_
 refine Zdk (fun z t8 w => ∃ j : Nat, j ≤ l.length ∧ t8 = .int .i64 j ∧ z = l.length - j ∧ (∀ o ∈ l.take j, q o = false) ∧ Sat e w L) l.length ⟨0, Nat.zero_le _, rfl, rfl, by simp, hS⟩ ?_
 rintro z _ w g ⟨j, hj, rfl, rfl, hno, h1⟩ hg
 refine Za7 (fun c => Zi ?_) (fun c => Zf ?_)
 ·obtain ⟨o, ho⟩ := Zk (l := l) (j := j) (by omega)
  refine Zw h1 i hi hr (fun _ => rfl) ho fun a ha => ?_
  refine Ym h1 i hi ha rfl ?_
  refine hp o (List.mem_of_getElem? ho) _ _ h1 fun w2 h2 => ?_
  cases hb : q o with
  | true =>
   have := hk _ h2
   rw [List.any_eq_true.2 ⟨o, List.mem_of_getElem? ho, hb⟩] at this
   exact Zi (Zqv (by omega) this)
  | false =>
   refine Zf (Yr (by omega) ?_)
   refine hg _ _ _ (by omega) ⟨j + 1, by omega, rfl, rfl, fun y hy => ?_, h2⟩
   rw [Zx ho] at hy
   rcases List.mem_append.1 hy with h | h
   ·exact hno y h
   ·rw [List.mem_singleton.1 h]; exact hb
 ·have ej : j = l.length := by omega
  rw [ej, List.take_length] at hno
  have := hk _ h1
  rw [List.any_eq_false.2 fun x hx => by rw [hno x hx]; decide] at this
  exact ZnR (by omega) this
def ZsV (i : Zn) : Bool := !decide (i.Kind = 2)
theorem Zla {l : List Zn} {c : Int} : Zpr c l = 0 ↔ ∀ x ∈ l, x.Colour = c → x.Kind = 2 := by
 unfold Zpr
 rw [List.countP_eq_zero]
 constructor
 ·intro h x hx hc
  have := h x hx
  rw [Bool.and_eq_true, decide_eq_true_iff, decide_eq_true_iff] at this
  exact Classical.byContradiction fun hk => this ⟨hk, hc⟩
 ·intro h x hx
  rw [Bool.and_eq_true, decide_eq_true_iff, decide_eq_true_iff]
  rintro ⟨h1, h2⟩
  exact h1 (h x hx h2)
theorem Zug {α : Type} {F : Nat → List α} {n : Nat} {x : α} : x ∈ fl F n ↔ ∃ a, a < n ∧ x ∈ F a := by
 unfold fl
 rw [List.mem_flatMap]
 constructor
 ·rintro ⟨a, ha, hx⟩
  exact ⟨a, List.mem_range.1 ha, hx⟩
 ·rintro ⟨a, ha, hx⟩
  exact ⟨a, List.mem_range.2 ha, hx⟩
theorem Zuj (hI : Ze1 wd k s) : (k.net.all fun r => r.all fun l => l.all fun i => decide (i.Kind = 2)) = decide (¬ 0 < Zpr 0 (ZpJ wd.Feds.length fun a b => k.q a b) + Zpr 1 (ZpJ wd.Feds.length fun a b => k.q a b)) := by
 rw [Bool.eq_iff_iff, decide_eq_true_iff, List.all_eq_true]
 have hmem : ∀ x, x ∈ ZpJ wd.Feds.length (fun a b => k.q a b) ↔ ∃ a b, a < wd.Feds.length ∧ b < wd.Feds.length ∧ x ∈ k.q a b := by
  intro x
  unfold ZpJ
  rw [Zug]
  constructor
  ·rintro ⟨a, ha, hx⟩
   unfold ZrF at hx
   obtain ⟨b, hb, hx⟩ := Zug.1 hx
   exact ⟨a, b, ha, hb, hx⟩
  ·rintro ⟨a, b, ha, hb, hx⟩
   exact ⟨a, ha, Zug.2 ⟨b, hb, hx⟩⟩
 constructor
 ·intro h
  have h0 : ∀ x ∈ ZpJ wd.Feds.length (fun a b => k.q a b), x.Kind = 2 := by
   intro x hx
   obtain ⟨a, b, ha, hb, hx⟩ := (hmem x).1 hx
   have h1 : k.net[a]? = some (k.net.getD a []) := by rw [List.getD_eq_getElem?_getD, List.getElem?_eq_getElem (by rw [hI.netl]; exact ha)]; rfl
   have h2 : (k.net.getD a [])[b]? = some (k.q a b) := by
    show _ = some ((k.net.getD a []).getD b [])
    rw [List.getD_eq_getElem?_getD (l := k.net.getD a []), List.getElem?_eq_getElem (by rw [hI.rowl a ha]; exact hb)]
    rfl
   have h3 := List.all_eq_true.1 (h _ (List.mem_of_getElem? h1)) _ (List.mem_of_getElem? h2)
   exact of_decide_eq_true (List.all_eq_true.1 h3 x hx)
  have e0 := Zla (c := 0).2 fun x hx _ => h0 x hx
  have e1 := Zla (c := 1).2 fun x hx _ => h0 x hx
  omega
 ·intro h r hr
  rw [List.all_eq_true]
  intro l hl
  rw [List.all_eq_true]
  intro i hi
  obtain ⟨a, ha⟩ := List.getElem?_of_mem hr
  obtain ⟨b, hb⟩ := List.getElem?_of_mem hl
  have hal := (List.getElem?_eq_some_iff.1 ha).1
  have hbl := (List.getElem?_eq_some_iff.1 hb).1
  rw [hI.netl] at hal
  have e1 : k.net.getD a [] = r := by rw [List.getD_eq_getElem?_getD, ha]; rfl
  have hr2 := hI.rowl a hal
  rw [e1] at hr2
  have e2 : k.q a b = l := by
   show (k.net.getD a []).getD b [] = l
   rw [e1, List.getD_eq_getElem?_getD, hb]
   rfl
  have hx : i ∈ ZpJ wd.Feds.length (fun a b => k.q a b) := (hmem i).2 ⟨a, b, hal, by omega, by rw [e2]; exact hi⟩
  have hc := (hI.q a b i (by rw [e2]; exact hi)).col
  rw [decide_eq_true_iff]
  rcases (show i.Colour = 0 ∨ i.Colour = 1 from by omega) with h0 | h0
  ·exact Zla.1 (show Zpr 0 _ = 0 from by omega) i hx h0
  ·exact Zla.1 (show Zpr 1 _ = 0 from by omega) i hx h0
def ZiF (wd : Wd) (k : KS) (f : Nat) : Bool := ((k.box f).all fun i => decide (i.Kind = 2)) && match k.node f with
  | .slow N => !(ZjD N.q && decide ((hdM N.q).key.T < wd.End))
  | .bold N _ _ => !(ZjD N.q && decide ((hdM N.q).key.T < wd.End)) && N.ms.isEmpty
theorem Zwh (wd : Wd) (k : KS) : k.quiet wd = ((k.net.all fun r => r.all fun l => l.all fun i => decide (i.Kind = 2)) && (List.range k.nodes.length).all (ZiF wd k)) := rfl
theorem ZtY {n j : Nat} {q : Nat → Bool} (hj : j < n) (h : q j = false) : (List.range n).all q = false := by
 rw [List.all_eq_false]
 exact ⟨j, List.mem_range.2 hj, by rw [h]; decide⟩
theorem Zc0 (hs : s ≤ 1000000) (hS : Sat e w (Zby p wd k n s :: Q)) (hk : ∀ w', Sat e w' (Zby p wd k n s :: Q) → K (.bool (k.quiet wd)) w') : Cl prog 21 #[pt p] w K := by
 refine ZeO ?_
 unfold ZeG
 obtain ⟨M, hI, h0⟩ := ZpC hS
 have hn8 := hI.may.n
 refine ZaY h0 fun w1 h1 => ?_
 refine Zh (Za (Zb h1 2 rfl (v := pt M.g) rfl ?_))
 refine Zh (Za (Zb h1 2 rfl (v := pt M.g) rfl ?_))
 have back : ∀ {w' : World}, Sat e w' (GK wd k M :: ([Yh (Zat wd n k M), Yh (Zar wd k M), BK p wd k M, NK wd k M, XK wd M, CK wd k M] ++ Q)) → Sat e w' (KP p wd n k M ++ Q) := fun h => h.selR [_, _, _, _, _, _, _] [_, _, _, _, _, _, _] [1, 2, 3, 4, 5, 0, 6] (by decide) rfl
 refine Zg9 (h1.pick 5 rfl) fun w2 h2 => ?_
 have h2 := back h2
 refine ⟨Zb h2 2 rfl (v := pt M.g) rfl ⟨rfl, rfl⟩, ?_⟩
 refine Zg9 (h2.pick 5 rfl) fun w3 h3 => ?_
 have h3 := back h3
 have hall : (ZpJ wd.Feds.length fun a b => k.q a b).length ≤ 1024 := by
  obtain ⟨D, hD, _⟩ := Yx.open (h3.pick 5 rfl)
  exact hD.all_len
 have l0 := ZqW 0 (ZpJ wd.Feds.length fun a b => k.q a b)
 have l1 := ZqW 1 (ZpJ wd.Feds.length fun a b => k.q a b)
 have hnq := Zuj hI
 rw [Zwh, hnq, hI.nl] at hk
 generalize hc0 : Zpr 0 (ZpJ wd.Feds.length fun a b => k.q a b) = n0 at *
 generalize hc1 : Zpr 1 (ZpJ wd.Feds.length fun a b => k.q a b) = n1 at *
 refine ZcD (by omega) (by omega) ?_
 refine Ztu (fun c => Zi ?_) (fun c => Zf ?_)
 ·rw [decide_eq_false (by omega), Bool.false_and] at hk
  exact hk _ (ZkQ hI h3)
 rw [decide_eq_true (by omega), Bool.true_and] at hk
 refine Zh (Za (Zb h3 2 rfl (v := M.nv) rfl (Zt h3 3 rfl (fun _ => Zp) ?_)))
 rw [List.length_map, List.length_range]
 refine Zdk (fun z t w => ∃ j : Nat, j ≤ wd.Feds.length ∧ t = .int .i64 j ∧ z = wd.Feds.length - j ∧ (∀ i, i < j → ZiF wd k i = true) ∧ Sat e w (KP p wd n k M ++ Q)) wd.Feds.length ⟨0, Nat.zero_le _, rfl, rfl, fun i hi => by omega, h3⟩ ?_
 rintro z _ w4 g1 ⟨j, hj, rfl, rfl, hq, h4⟩ hg
 refine Za7 (fun c => Zi ?_) (fun c => Zf ?_)
 ·have hjl : j < wd.Feds.length := by omega
  have no : ZiF wd k j = false → ∀ {w : World}, Sat e w (KP p wd n k M ++ Q) → K (.bool false) w := fun h _ hS => by
   rw [ZtY hjl h] at hk
   exact hk _ (ZkQ hI hS)
  have hlen := Znn hI hs j
  refine Zw h4 3 rfl (fun _ => Zp) (fun _ => rfl) (Yk hjl) fun a ha => Yt h4 3 rfl ha (v := ndV (k.node j) (M.ms j)) rfl ?_
  refine Zh (Za (Zjt hjl h4 ?_))
  refine Zq1 (q := ZsV) (l := k.box j) 1 rfl h4 (ZiZ hjl) (by omega) (fun o _ w K h hK => ?_) fun w5 h5 => ?_
  ·refine ⟨_, _, _, rfl, ?_⟩
   refine ZdX (t0 := .agg o.cs.toArray) ?_
   unfold Zds
   refine Yp (cs := o.cs) h rfl fun b w6 h6 => ?_
   refine Za (Zb h6 0 rfl (v := .int .i64 o.Kind) rfl (ZF7 ?_))
   have e1 : decide (¬ o.Kind = 2) = ZsV o := by
    unfold ZsV
    by_cases h : o.Kind = 2
    ·rw [decide_eq_true h, decide_eq_false (fun h' => h' h)]; rfl
    ·rw [decide_eq_false h, decide_eq_true h]; rfl
   rw [e1]
   exact hK _ h6.drop
  ·have hbx : ((k.box j).all fun i => decide (i.Kind = 2)) = !(k.box j).any ZsV := by
    rw [List.not_any_eq_all_not]
    congr 1
    funext i
    unfold ZsV
    rw [Bool.not_not]
   cases hany : (k.box j).any ZsV with
   | true =>
    refine Zi (no ?_ h5)
    unfold ZiF
    rw [hbx, hany]
    rfl
   | false =>
    rw [hany] at hbx
    refine Zf ?_
    refine Zva (Sat.focus h5 j (Yk (F := fun i => ndH wd n i (k.node i) (M.ms i)) hjl)) fun v w6 h6 => ?_
    have h7 := Sat.unfocus j (Yk (F := fun i => ndH wd n i (k.node i) (M.ms i)) hjl) (Sat.selR [_, _, _, _, _, _, _, _, _] [ndH wd n j (k.node j) (M.ms j), Yh ((Zat wd n k M).eraseIdx j), Yh (Zar wd k M), BK p wd k M, NK wd k M, XK wd M, GK wd k M, CK wd k M, Zz 47 6 Msg.cs v (k.node j).q] h6 [1, 2, 3, 4, 5, 6, 7, 8, 0] (by decide) rfl)
    rw [Zcy hI.nl, ZcV (by rw [hI.nl]; exact hjl)] at h7
    have h8 : Sat e w6 (KP p wd n k M ++ Zz 47 6 Msg.cs v (k.node j).q :: Q) := h7
    refine ZaY h8 fun w9 h9 => ?_
    have h10 : Sat e w9 (KP p wd n k M ++ Q) := h9.selR [_, _, _, _, _, _, _, _] [_, _, _, _, _, _, _] [0, 1, 2, 3, 4, 5, 6] (by decide) rfl
    refine Zt h9 7 rfl (fun _ => Zp) ?_
    have step2 : (ZjD (k.node j).q && decide ((hdM (k.node j).q).key.T < wd.End)) = false → Cl prog 57 #[pt p, .int .i64 (j : Int)] w9 fun t56 w =>
      bn .neq t56 w fun t58 w => gd t58 true (fun k => k t56 w) w fun t60 w => gd t58 true (fun k => nc t60 w k) w fun t61 w => gd t58 true (fun k => fld 0 t61 w k) w fun t62 w => gd t58 true (fun k => ld1 t62 w k) w fun t63 w =>
      gd t58 true (fun k => Cl prog 64 #[t63] w k) w fun t64 w => gd t58 true (fun k => bi .gtr .i64 t64 (Value.int IntKind.i64 0) w k) w fun t65 w => pk t58 t65 (Value.bool false) w fun t66 w =>
      Zr t66 (K (Value.bool false) w) (bi .add .i64 (.int .i64 (j : Int)) (Value.int IntKind.i64 1) w fun t67 w => g1 [t67] w) := by
     intro hh
     refine ZbX hjl h10 ?_
     have fin : ZiF wd k j = true → ∀ {w : World}, Sat e w (KP p wd n k M ++ Q) → bi .add .i64 (.int .i64 (j : Int)) (Value.int IntKind.i64 1) w fun t67 w => g1 [t67] w := by
      intro hqj w h
      refine Yr (by omega) ?_
      refine hg _ _ _ (by omega) ⟨j + 1, by omega, rfl, rfl, fun i hi => ?_, h⟩
      by_cases hij : i = j
      ·rw [hij]; exact hqj
      ·exact hq i (by omega)
     cases hN : k.node j with
     | slow N =>
      refine ZtL (Zu (Zu (Zu (Zu (Zu (Zu (Yd (Zf (fin ?_ h10)))))))))
      rw [hN] at hh
      unfold ZiF
      rw [hbx, hN]
      exact congrArg (fun b => !b) hh
     | bold N rk tl =>
      refine ZtQ _ (Ze (Ze (Zwz (Ze (Zbd (Zfy hjl hN) fun a ha => Ze (Yt h10 0 rfl ha (v := pt (M.ms j).1) rfl ?_))))))
      have h11 := Sat.focus h10 j (Yk (F := fun i => ndH wd n i (k.node i) (M.ms i)) hjl)
      rw [hN] at h11
      have h12 : Sat e w9 (ZfN (M.ms j) rk tl :: Ya (M.ms j).1 wd j (Zs wd j) N n :: Yh ((Zat wd n k M).eraseIdx j) :: ([Yh (Zar wd k M), BK p wd k M, NK wd k M, XK wd M, GK wd k M, CK wd k M] ++ Q)) := Sat.split (l' := [_, _]) h11
      refine Ze (ZpL h12.swap (Ze ?_))
      rw [hN] at hh
      have hqn : ZiF wd k j = N.ms.isEmpty := by
       unfold ZiF
       rw [hbx, hN]
       show (true && (!_ && _)) = _
       rw [show (ZjD N.q && decide ((hdM N.q).key.T < wd.End)) = false from hh]
       rfl
      refine Ztu (fun c5 => Yv (Zi (no ?_ h10))) (fun c5 => Yv (Zf (fin ?_ h10)))
      ·rw [hqn]
       cases hms : N.ms with
       | nil => rw [hms] at c5; exact absurd c5 (by decide)
       | cons _ _ => rfl
      ·rw [hqn]
       cases hms : N.ms with
       | nil => rfl
       | cons _ _ => rw [hms, List.length_cons] at c5; omega
    cases hw : (k.node j).q with
    | nil =>
     rw [hw] at step2
     refine Zle (by decide) (Zu (Zu (Zu (Zu (Zu (Zu (Zu (Zu (Zu (Zu (Yd (Zf (step2 rfl)))))))))))))
    | cons m r =>
     rw [hw] at step2 h9
     refine ZtF (by rw [List.length_cons]; omega) (Ze (Ze ?_))
     refine Zw (j := 0) h9 7 rfl (fun _ => Zp) (fun _ => rfl) (x := m) rfl fun a ha => ?_
     refine Ze (Zbd ha fun a1 ha1 => Ze (Zbd ha1 fun a2 ha2 => Ze (Yt h9 7 rfl ha2 (v := .int .i64 m.key.T) rfl ?_)))
     refine Ze (Ze (Zwz (Ze (Za (Ze (Zb h9 2 rfl (v := .int .i64 wd.End) rfl (Ze ?_)))))))
     refine Za7 (fun c5 => Yv (Zi (no ?_ h10))) (fun c5 => Yv (Zf (step2 ?_)))
     ·have hh : (ZjD (k.node j).q && decide ((hdM (k.node j).q).key.T < wd.End)) = true := by
       rw [hw]
       show (true && decide (m.key.T < wd.End)) = true
       rw [decide_eq_true c5]
       rfl
      unfold ZiF
      rw [hbx]
      cases hN : k.node j with
      | slow N =>
       rw [hN] at hh
       exact congrArg (fun b => !b) hh
      | bold N _ _ =>
       rw [hN] at hh
       show (true && (!_ && _)) = false
       rw [show (ZjD N.q && decide ((hdM N.q).key.T < wd.End)) = true from hh]
       rfl
     ·show (true && decide (m.key.T < wd.End)) = false
      rw [decide_eq_false c5]
      rfl
 ·have ej : j = wd.Feds.length := by omega
  rw [ej] at hq
  rw [List.all_eq_true.2 fun i hi => hq i (List.mem_range.1 hi)] at hk
  exact hk _ (ZkQ hI h4)
theorem Zjv {x : WdX} (i : Nat) (hi : L[i]? = some S) (hS : Sat e w L) (hr : ∀ g, S g → ZtG x g) (hs : x.short)
  (hk : ∀ (X : WdX) w', X.w = x.w → Sat e w' (Zag X :: L) → K (.agg X.cs.toArray) w') : Cl prog 91 #[.agg x.cs.toArray] w K := by
 refine Zj5 ?_
 unfold ZlG
 have hflat := ZoI i hi hS hr
 refine Yp (cs := x.cs) hS rfl fun b w1 h1 => ?_
 rw [ZqI]
 refine Yp (cs := [.slice none 0 0, .slice none 0 0, .int .i64 0]) h1 rfl fun b2 w2 h2 => ?_
 refine Za (Zb h2 1 rfl (v := x.pv) rfl ?_)
 refine ZbR (i + 2) (by simpa using hi) (by have := hs.par; omega) (fun _ _ v h => by simp [Ye] at h; subst h; rfl) h2 (fun g hg => (hr g hg).par) fun v1 w3 h3 => ?_
 have f1 := h3.own_cells 0 rfl
 refine Za (Zq h3 2 rfl (vs := [v1]) f1.1 rfl (Nat.le_of_ble_eq_true rfl) (fun c hc => by rw [List.mem_singleton.1 hc]; exact f1.2) (cs' := [v1, x.fv, .int .i64 x.End]) (by rfl) fun w4 h4 => ?_)
 refine Za (Zb h4 2 rfl (v := x.fv) rfl ?_)
 refine ZkD (i + 3) (by simpa using hi) (by have := hs.feds; omega) (fun f hf => Zc1 i hi hS fun g hg => (hr g hg).fed f hf) h4 (fun g hg => (hr g hg).feds) fun v2 w5 h5 => ?_
 have f2 := h5.own_cells 0 rfl
 refine Za (Zq h5 3 rfl (vs := [v2]) f2.1 rfl (Nat.le_of_ble_eq_true rfl) (fun c hc => by rw [List.mem_singleton.1 hc]; exact f2.2) (cs' := [v1, v2, .int .i64 x.End]) (by rfl) fun w6 h6 => ?_)
 refine Za (Zb h6 3 rfl (v := v2) rfl ?_)
 refine Zt h6 0 rfl (fun _ => Zp) ?_
 have hfl := hs.feds
 refine Zdk (fun q t17 w => ∃ (j : Nat) (dn : List Zao), j ≤ x.Feds.length ∧ t17 = .int .i64 j ∧ q = x.Feds.length - j ∧ dn.length = j ∧ dn.map Zao.f = (x.Feds.take j).map Zao.f ∧
   Sat e w (Zz 76 7 Zao.cs v2 (dn ++ x.Feds.drop j) :: Yh (dn.map Zea) :: Zz 3 1 (Ye .i64) v1 x.Parents :: blk b2 25 [.slice none 0 0, .slice none 0 0, .int .i64 0] :: blk b 25 [v1, v2, .int .i64 x.End] :: L)) x.Feds.length
  ⟨0, [], Nat.zero_le _, rfl, rfl, rfl, rfl, ?_⟩ ?_
 ·have h7 : Sat e w6 (Yh [] :: Zz 76 7 Zao.cs v2 x.Feds :: Zz 3 1 (Ye .i64) v1 x.Parents :: blk b2 25 [.slice none 0 0, .slice none 0 0, .int .i64 0] :: blk b 25 [v1, v2, .int .i64 x.End] :: L) := Sat.join (l' := []) (h6.selR [_, _, _, _] [_, _, _, _] [0, 1, 2, 3] (by decide) rfl)
  exact h7.swap
 rintro q _ w g1 ⟨j, dn, hj, rfl, rfl, hdl, hdm, h7⟩ hg1
 refine Za7 (fun c0 => Zi ?_) (fun c0 => Zf ?_)
 case refine_2 =>
  have ej : j = x.Feds.length := by omega
  rw [ej, List.drop_length, List.append_nil] at h7
  rw [ej, List.take_length] at hdm
  refine Zo h7 4 (vs := [v1, v2, .int .i64 x.End]) rfl (by rfl) rfl ?_
  refine Zq h7 3 rfl (vs := [v1, v2, .int .i64 x.End]) rfl rfl (Nat.le_of_ble_eq_true rfl) (fun c hc => by
   simp only [List.mem_cons, List.not_mem_nil, or_false] at hc
   rcases hc with rfl | rfl | rfl
   ·exact f1.2
   ·exact f2.2
   ·rfl) (cs' := [v1, v2, .int .i64 x.End]) (by rfl) fun w8 h8 => ?_
  refine Zo h8 3 (vs := [v1, v2, .int .i64 x.End]) rfl (by rfl) rfl ?_
  refine hk ⟨v1, x.Parents, v2, dn, x.End⟩ _ (by simp only [WdX.w, hdm]) (Sat.join (l' := [_, _, _]) ?_)
  exact h8.selR [_, _, _, _, _] [_, _, _] [2, 0, 1] (by decide) rfl
 obtain ⟨fd, hf⟩ := Zk (l := x.Feds) (j := j) (by omega)
 have hfm := List.mem_of_getElem? hf
 have hsf := hs.fed fd hfm
 have hdr : x.Feds.drop j = fd :: x.Feds.drop (j + 1) := Zaq hf
 have hget : (dn ++ x.Feds.drop j)[j]? = some fd := by rw [hdr, List.getElem?_append_right (by omega), hdl, Nat.sub_self]; rfl
 have hi7 : (Zz 76 7 Zao.cs v2 (dn ++ x.Feds.drop j) :: Yh (dn.map Zea) :: Zz 3 1 (Ye .i64) v1 x.Parents :: blk b2 25 [.slice none 0 0, .slice none 0 0, .int .i64 0] :: blk b 25 [v1, v2, .int .i64 x.End] :: L)[i + 5]? = some S := by simpa using hi
 refine Za (Zb h7 4 rfl (v := v2) rfl ?_)
 refine ZjI h7 0 rfl hget fun bb cc hv2 => ?_
 refine ZaY h7 fun w8 h8 => ?_
 refine Zh (Za (Zaa h8 0 rfl (fun _ => rfl) hv2 hget (u := fd.pv) rfl ?_))
 refine Zh (Za (Zaa h8 0 rfl (fun _ => rfl) hv2 hget (u := fd.sv) rfl ?_))
 refine Zh (Za (Zaa h8 0 rfl (fun _ => rfl) hv2 hget (u := fd.iv) rfl ?_))
 refine Zh (Za (Zaa h8 0 rfl (fun _ => rfl) hv2 hget (u := fd.rv) rfl ?_))
 have hintf : ∀ (l : List Int), ∀ x ∈ l, ∀ v ∈ Ye .i64 x, flat v = true := fun _ _ _ v h => by simp [Ye] at h; subst h; rfl
 refine ZbR (i + 5) hi7 (by have := hsf.pubs; omega) (hintf _) h8 (fun g hg => ((hr g hg).fed fd hfm).pubs) fun a1 w9 h9 => ?_
 refine ⟨Zaa h9 1 rfl (fun _ => rfl) hv2 hget (u := fd.rv) rfl ⟨rfl, rfl⟩, Zaa h9 1 rfl (fun _ => rfl) hv2 hget (u := fd.iv) rfl ⟨rfl, rfl⟩, Zaa h9 1 rfl (fun _ => rfl) hv2 hget (u := fd.sv) rfl ⟨rfl, rfl⟩, ?_⟩
 refine ZbR (i + 6) (by simpa using hi) (by have := hsf.subs; omega) (hintf _) h9 (fun g hg => ((hr g hg).fed fd hfm).subs) fun a2 w10 h10 => ?_
 refine ⟨Zaa h10 2 rfl (fun _ => rfl) hv2 hget (u := fd.rv) rfl ⟨rfl, rfl⟩, Zaa h10 2 rfl (fun _ => rfl) hv2 hget (u := fd.iv) rfl ⟨rfl, rfl⟩, ?_⟩
 refine Zde (i + 7) (by simpa using hi) (by have := hsf.init; omega) (fun _ _ => Zg _) h10 (fun g hg => ((hr g hg).fed fd hfm).init) fun a3 w11 h11 => ?_
 refine ⟨Zaa h11 3 rfl (fun _ => rfl) hv2 hget (u := fd.rv) rfl ⟨rfl, rfl⟩, ?_⟩
 refine Zjh (i + 8) (by simpa using hi) (by have := hsf.rules; omega) (Znr i hi hS fun g hg => ((hr g hg).fed fd hfm).rules) h11 (fun g hg => ((hr g hg).fed fd hfm).rules.s) fun a4 w12 h12 => ?_
 have q4 := h12.own_cells 0 rfl
 have q3 := h12.own_cells 1 rfl
 have q2 := h12.own_cells 2 rfl
 have q1 := h12.own_cells 3 rfl
 have hset : ∀ (a c : Zao), ((dn ++ x.Feds.drop j).set j a).set j c = (dn ++ x.Feds.drop j).set j c := fun a c => List.set_set _
 have hjl : j < (dn ++ x.Feds.drop j).length := (List.getElem?_eq_some_iff.1 hget).1
 have hg1' : ∀ a : Zao, ((dn ++ x.Feds.drop j).set j a)[j]? = some a := fun a => List.getElem?_set_self hjl
 have hln : ∀ a : Zao, ((dn ++ x.Feds.drop j).set j a).length = (dn ++ x.Feds.drop j).length := fun a => List.length_set
 refine Zh (Za (Zdz h12 4 rfl (fun _ => rfl) hv2 hget (x' := { fd with pv := a1 }) q1.1 rfl (by decide) (fun c hc => by rw [List.mem_singleton.1 hc]; exact q1.2) rfl fun w13 h13 => ?_))
 refine Zh (Za (Zdz h13 4 rfl (fun _ => rfl) (by rw [hln]; exact hv2) (hg1' _) (x' := { fd with pv := a1, sv := a2 }) q2.1 rfl (by decide) (fun c hc => by rw [List.mem_singleton.1 hc]; exact q2.2) rfl fun w14 h14 => ?_))
 rw [hset] at h14
 refine Zh (Za (Zdz h14 4 rfl (fun _ => rfl) (by rw [hln]; exact hv2) (hg1' _) (x' := { fd with pv := a1, sv := a2, iv := a3 }) q3.1 rfl (by decide) (fun c hc => by rw [List.mem_singleton.1 hc]; exact q3.2) rfl fun w15 h15 => ?_))
 rw [hset] at h15
 refine Zh (Za (Zdz h15 4 rfl (fun _ => rfl) (by rw [hln]; exact hv2) (hg1' _) (x' := { fd with pv := a1, sv := a2, iv := a3, rv := a4 }) q4.1 rfl (by decide) (fun c hc => by rw [List.mem_singleton.1 hc]; exact q4.2) rfl fun w16 h16 => ?_))
 rw [hset] at h16
 clear h8 h9 h10 h11 h12 h13 h14 h15
 generalize hfd' : ({ fd with pv := a1, sv := a2, iv := a3, rv := a4 } : Zao) = fd' at h16
 generalize hls : (dn ++ x.Feds.drop j).set j fd' = ls at h16
 have hlsj : ls[j]? = some fd' := by rw [← hls]; exact hg1' _
 have hlsl : v2 = .slice (some ⟨bb, 0, none⟩) ls.length cc := by rw [← hls, hln]; exact hv2
 have e4 : fd'.rv = a4 := by rw [← hfd']
 refine Zh (Za (Zaa h16 4 rfl (fun _ => rfl) hlsl hlsj (u := a4) (by rw [← hfd']; rfl) ?_))
 refine Zt h16 0 rfl (fun _ => Zp) ?_
 have hrl := hsf.rules
 refine Zdk (fun q t61 w => ∃ (n : Nat) (rd : List Yg), n ≤ fd.Rules.length ∧ t61 = .int .i64 n ∧ q = fd.Rules.length - n ∧ rd.length = n ∧ rd.map Yg.r = (fd.Rules.take n).map Yg.r ∧
   Sat e w (Zz 78 4 Yg.cs a4 (rd ++ fd.Rules.drop n) :: Yh (rd.map ZfY) :: Zz 147 3 Out.cs a3 fd.Init :: Zz 3 1 (Ye .i64) a2 fd.Subs :: Zz 3 1 (Ye .i64) a1 fd.Pubs :: Zz 76 7 Zao.cs v2 ls :: Yh (dn.map Zea) :: Zz 3 1 (Ye .i64) v1 x.Parents :: blk b2 25 [.slice none 0 0, .slice none 0 0, .int .i64 0] :: blk b 25 [v1, v2, .int .i64 x.End] :: L)) fd.Rules.length
  ⟨0, [], Nat.zero_le _, rfl, rfl, rfl, rfl, ?_⟩ ?_
 ·exact (Sat.join (l' := []) h16).swap
 rintro q _ w g2 ⟨n, rd, hn, rfl, rfl, hrdl, hrdm, h17⟩ hg2
 refine Za7 (fun c1 => Zi ?_) (fun c1 => Zf ?_)
 case refine_2 =>
  have en : n = fd.Rules.length := by omega
  rw [en, List.drop_length, List.append_nil] at h17
  rw [en, List.take_length] at hrdm
  refine Yr (by omega) ?_
  have h18 : Sat e w (Zea { fd' with Rules := rd } :: Zz 76 7 Zao.cs v2 ls :: Yh (dn.map Zea) :: Zz 3 1 (Ye .i64) v1 x.Parents :: blk b2 25 [.slice none 0 0, .slice none 0 0, .int .i64 0] :: blk b 25 [v1, v2, .int .i64 x.End] :: L) := by
   refine Sat.join (l' := [_, _, _, _, _]) ?_
   rw [← hfd']
   exact h17.selR [_, _, _, _, _] [_, _, _, _, _] [4, 3, 2, 0, 1] (by decide) rfl
  have h19 := ZiX (h18.selR [_, _, _] [_, _, _] [0, 2, 1] (by decide) rfl)
  refine hg1 _ _ _ (by omega) ⟨j + 1, dn ++ [{ fd' with Rules := rd }], by omega, rfl, rfl, by simp [hdl], ?_, ?_⟩
  ·rw [Zx hf, List.map_append, List.map_append, hdm, List.map_singleton, List.map_singleton]
   congr 2
   rw [← hfd']
   simp only [Zao.f, hrdm]
  ·have h20 := (h19.swap).imp (Q := Zz 76 7 Zao.cs v2 (dn ++ [{ fd' with Rules := rd }] ++ x.Feds.drop (j + 1))) fun g hg => ZoX (by
    rw [← hls, hdr, List.set_append_right _ _ (by omega), hdl, Nat.sub_self, List.set_cons_zero]
    simp only [List.map_append, List.map_cons, List.append_assoc, List.singleton_append]
    rfl) hg
   rw [List.map_append]
   exact h20
 obtain ⟨r, hrn⟩ := Zk (l := fd.Rules) (j := n) (by omega)
 have hrm := List.mem_of_getElem? hrn
 have hdr2 : fd.Rules.drop n = r :: fd.Rules.drop (n + 1) := Zaq hrn
 have hget2 : (rd ++ fd.Rules.drop n)[n]? = some r := by rw [hdr2, List.getElem?_append_right (by omega), hrdl, Nat.sub_self]; rfl
 refine ZaY h17 fun w18 h18 => ?_
 refine Zh (Za (Zaa h18 5 rfl (fun _ => rfl) hlsl hlsj (u := a4) (by rw [← hfd']; rfl) ?_))
 refine Zh (Za (Zaa h18 5 rfl (fun _ => rfl) hlsl hlsj (u := a4) (by rw [← hfd']; rfl) ?_))
 refine ZjI h18 0 rfl hget2 fun br cr ha4 => ?_
 refine Za (Zaa h18 0 rfl (fun _ => rfl) ha4 hget2 (u := r.sv) rfl ?_)
 refine Zde (i + 10) (by simpa using hi) (by have := hsf.sends r hrm; omega) (fun _ _ => Zg _) h18 (fun g hg => ((hr g hg).fed fd hfm).rules.e r hrm) fun a5 w19 h19 => ?_
 have q5 := h19.own_cells 0 rfl
 refine ⟨Zaa h19 6 rfl (fun _ => rfl) hlsl hlsj (u := a4) (by rw [← hfd']; rfl) ⟨rfl, rfl⟩, ?_⟩
 refine ZjI h19 1 rfl hget2 fun br' cr' ha4' => ?_
 refine Za (Zdz h19 1 rfl (fun _ => rfl) ha4' hget2 (x' := { r with sv := a5 }) q5.1 rfl (by decide) (fun c hc => by rw [List.mem_singleton.1 hc]; exact q5.2) rfl fun w20 h20 => ?_)
 refine Yr (by omega) ?_
 have h21 := ZiX (A := ZfY { r with sv := a5 }) (h20.selR [_, _, _] [_, _, _] [0, 2, 1] (by decide) rfl)
 refine hg2 _ _ _ (by omega) ⟨n + 1, rd ++ [{ r with sv := a5 }], by omega, rfl, rfl, by simp [hrdl], ?_, ?_⟩
 ·rw [Zx hrn, List.map_append, List.map_append, hrdm]
  rfl
 ·rw [hdr2, List.set_append_right _ _ (by omega), hrdl, Nat.sub_self, List.set_cons_zero] at h21
  rw [List.map_append, List.append_assoc]
  exact h21.swap
def Zhq (wd : Wd) (f : Int) : Option Fed := if 0 ≤ f then (wd.Feds[f.toNat]?).bind fun fd => if fd.Kind = 1 then some fd else none else none
def ZdE (l : List Fed) : List Int := l.map fun g => if g.Kind = 0 then 0 else -1
theorem Zt8 : Zr8 (ZdE []) [] := ⟨List.nodup_nil, fun j => by unfold Zc9 ZdE; simp [lkA], by simp⟩
theorem ZnN {l : List Int} {x : Int} (j : Int) : Zc9 (l ++ [x]) j = if j = l.length then x else Zc9 l j := by
 unfold Zc9
 by_cases h0 : 0 ≤ j
 ·rw [if_pos h0, if_pos h0, List.getD_eq_getElem?_getD, List.getD_eq_getElem?_getD]
  by_cases h1 : j = l.length
  ·rw [if_pos h1, h1, Int.toNat_natCast, List.getElem?_append_right (Nat.le_refl _), Nat.sub_self]
   rfl
  ·rw [if_neg h1]
   rcases Nat.lt_or_ge j.toNat l.length with h2 | h2
   ·rw [List.getElem?_append_left h2]
   ·rw [List.getElem?_append_right h2, List.getElem?_eq_none (l := l) h2, List.getElem?_eq_none (by simp; omega)]
 ·rw [if_neg h0, if_neg h0, if_neg (by omega)]
theorem ZvR {l : List Fed} {m : List (Int × Int)} {g : Fed} (h : Zr8 (ZdE l) m) (hg : g.Kind = 0) (hl : m.length ≤ 900) : Zr8 (ZdE (l ++ [g])) (upA m (l.length : Int) 0) := by
 have e1 : ZdE (l ++ [g]) = ZdE l ++ [0] := by unfold ZdE; rw [List.map_append, List.map_singleton, if_pos hg]
 have e2 : (ZdE l).length = l.length := by unfold ZdE; rw [List.length_map]
 have hn : lkA m (l.length : Int) = none := by
  rw [h.lk, ← e2]
  have : Zc9 (ZdE l) ((ZdE l).length : Int) = -1 := by
   unfold Zc9
   rw [if_pos (by omega), Int.toNat_natCast, List.getD_eq_getElem?_getD, List.getElem?_eq_none (Nat.le_refl _)]
   rfl
  rw [this]
  rfl
 refine ⟨h.u.up _ _, fun j => ?_, ?_⟩
 ·rw [ZiY h.u, e1, ZnN, e2]
  by_cases hj : j = l.length
  ·rw [if_pos hj, if_pos hj]; rfl
  ·rw [if_neg hj, if_neg hj, h.lk j]
 ·unfold upA
  rw [hn]
  simp
  omega
theorem Zxj {l : List Fed} {m : List (Int × Int)} {g : Fed} (h : Zr8 (ZdE l) m) (hg : g.Kind ≠ 0) : Zr8 (ZdE (l ++ [g])) m := by
 have e1 : ZdE (l ++ [g]) = ZdE l ++ [-1] := by unfold ZdE; rw [List.map_append, List.map_singleton, if_neg hg]
 refine ⟨h.u, fun j => ?_, h.len⟩
 rw [e1, ZnN, h.lk j]
 by_cases hj : j = (ZdE l).length
 ·rw [if_pos hj, hj]
  have : Zc9 (ZdE l) ((ZdE l).length : Int) = -1 := by
   unfold Zc9
   rw [if_pos (by omega), Int.toNat_natCast, List.getD_eq_getElem?_getD, List.getElem?_eq_none (Nat.le_refl _)]
   rfl
  rw [this]
 ·rw [if_neg hj]
theorem Zz4 {m : List (Int × Int)} {k x : Int} : (upA m k x).length ≤ m.length + 1 := by
 unfold upA
 split
 ·rw [List.length_map]; omega
 ·simp
theorem Ztr {x : WdX} {f : Int} (i : Nat) (hi : L[i]? = some S) (hS : Sat e w L) (hr : ∀ g, S g → ZtG x g) (hwf : x.wf) (hs : x.short)
  (hbad : (Za4 x.w).2 ≠ 0 → ∀ w', Sat e w' L → K (.tuple #[.pointer none, .int .i64 (Za4 x.w).2]) w')
  (harg : (Za4 x.w).2 = 0 → Zhq x.w f = none → ∀ w', Sat e w' L → K (.tuple #[.pointer none, .int .i64 1]) w')
  (hok : (Za4 x.w).2 = 0 → ∀ (n : Nat) fd, f = n → x.w.Feds[n]? = some fd → Zhq x.w f = some fd → ∀ r w', Sat e w' (Ya r x.w n fd (ZiQ x.w) 0 :: L) → K (.tuple #[.pointer (some ⟨r, 0, none⟩), .int .i64 0]) w') :
  Cl prog 41 #[.agg x.cs.toArray, .int .i64 f] w K := by
 refine Zm5 ?_
 unfold ZrQ
 refine Yp (cs := x.cs) hS rfl fun b w1 h1 => ?_
 refine Zo h1 0 (vs := x.cs) rfl (by rfl) rfl ?_
 refine ZdI (x := x) (i + 1) (by simpa using hi) h1 hr hwf hs fun w2 h2 => ?_
 refine Zam (Zal ?_)
 refine ZrP (fun c1 => Zi (hbad c1 _ h2.drop)) (fun c1 => Zf ?_)
 have hwd := ZfI c1
 have hi2 : (blk b 25 x.cs :: L)[i + 1]? = some S := by simpa using hi
 have hwl : x.w.Feds.length = x.Feds.length := by simp [WdX.w]
 by_cases d1 : f < 0
 ·refine Ztt d1 ?_
  refine Zd (Zd (Zd (Zd (Zd (Yv (Zd (Zd (Zd (Zd (Zd (Zd (Zd (Yv (Zi ?_))))))))))))))
  exact harg c1 (if_neg (by omega)) _ h2.drop
 refine Ze7 d1 (Zj (Zj (Za (Zj (Zb h2 0 rfl (v := x.fv) rfl (Zj ?_))))))
 refine Zt h2 (i + 1) hi2 (fun g hg => (hr g hg).feds) ?_
 by_cases d2 : (x.Feds.length : Int) ≤ f
 ·refine Ze (Zqv (by omega) (Yd (Zd (Zd (Zd (Zd (Zd (Zd (Zd (Yv (Zi ?_)))))))))))
  refine harg c1 ?_ _ h2.drop
  unfold Zhq
  rw [if_pos (by omega), List.getElem?_eq_none (by omega)]
  rfl
 refine Zj (ZnR (by omega) (Yd ?_))
 obtain ⟨n, rfl⟩ : ∃ n : Nat, f = n := ⟨f.toNat, by omega⟩
 obtain ⟨fd, hfd⟩ := Zk (l := x.Feds) (j := n) (by omega)
 have hfdm := List.mem_of_getElem? hfd
 have hwf' : x.w.Feds[n]? = some fd.f := by simp only [WdX.w]; rw [List.getElem?_map, hfd]; rfl
 have hmay : Zhq x.w n = if fd.Kind = 1 then some fd.f else none := by
  unfold Zhq
  rw [if_pos (by omega), Int.toNat_natCast, hwf']
  rfl
 refine Zj (Za (Zj (Zb h2 0 rfl (v := x.fv) rfl (Zj (Zj ?_)))))
 refine Zw h2 (i + 1) hi2 (fun g hg => (hr g hg).feds) (fun _ => rfl) hfd fun p hp => ?_
 refine Zj (Zbd hp fun p1 hp1 => Zj (Yt h2 (i + 1) hi2 hp1 (v := .int .i64 fd.Kind) rfl ?_))
 refine Zj (ZrP (fun d3 => Yd (Zi (harg c1 (by rw [hmay, if_neg d3]) _ h2.drop))) (fun d3 => Yd (Zf ?_)))
 rw [if_pos d3] at hmay
 refine ZaY h2 fun w4 h4 => ?_
 refine Zo h4 0 (vs := x.cs) rfl (by rfl) rfl ?_
 refine Za (Zb h4 0 rfl (v := x.fv) rfl ?_)
 refine Zw h4 (i + 1) hi2 (fun g hg => (hr g hg).feds) (fun _ => rfl) hfd fun p2 hp2 => ?_
 refine Zbd hp2 fun p3 hp3 => Yt h4 (i + 1) hi2 hp3 (v := .int .i64 fd.Start) rfl ?_
 refine Za (Zb h4 0 rfl (v := x.fv) rfl ?_)
 refine Zw h4 (i + 1) hi2 (fun g hg => (hr g hg).feds) (fun _ => rfl) hfd fun p4 hp4 => ?_
 refine Zbd hp4 fun p5 hp5 => Yt h4 (i + 1) hi2 hp5 (v := fd.iv) rfl ?_
 refine Zt h4 (i + 1) hi2 (fun g hg => ((hr g hg).fed fd hfdm).init) ?_
 have hn := hwd.n
 have fin : ∀ (X : WdX) (q p g mb : Nat) w', X.w = x.w → Sat e w' (Zag X :: IsQ q [] :: Yf p 0 [] :: Yo g 0 [] :: Zaj kI kI mb [] :: blk b 25 x.cs :: L) →
   bld (Zl prog 178) #[(0, 3), (3, 1), (4, 1), (5, 1), (6, 1), (7, 1), (8, 1), (9, 1), (10, 1)] [(0, .agg X.cs.toArray), (1, .int .i64 n), (2, .int .i64 fd.Start), (3, .int .i64 (fd.Init.length : Int)), (4, .pointer (some ⟨q, 0, none⟩)), (5, .pointer (some ⟨p, 0, none⟩)), (6, .pointer (some ⟨g, 0, none⟩)), (7, .map (some mb))] w' fun t57 w =>
    al (Value.cells t57) 178 w fun t58 w => fld 1 (.pointer (some ⟨b, 0, none⟩)) w fun t59 w => ld1 t59 w fun t60 w => lnS t60 w fun t61 w => lp [(Value.int IntKind.i64 0)] w (b1 fun t62 w g1 => bi .lss .i64 t62 t61 w fun t63 w => Zr t63
    (J0 (fun w => bi .add .i64 t62 (Value.int IntKind.i64 1) w fun t75 w => g1 [t75] w) fun k2 => ixS 7 t60 t62 w fun t65 w => ldN 7 t65 w fun t66 w => al (Zl prog 76) 76 w fun t10 w => stN 7 t10 t66 w fun _ w => fld 0 t10 w fun t67 w => ld1 t67 w fun t68 w => bi .eql .i64 t68 (Value.int IntKind.i64 0) w fun t69 w => Zr t69
     (ncP t58 <| fld 9 t58 w fun t72 w => ld1 t72 w fun t73 w => upM prog 176 t73 t62 (Value.int IntKind.i64 0) w fun _ w => k2 w) (k2 w))
    (K (Value.tuple #[t58, (Value.int IntKind.i64 0)]) w)) := by
  intro X q p g mb w' hX h'
  refine Zaf (wcs X n fd.Start fd.Init.length q p g mb (.slice none 0 0)) (by kernel_rfl) ?_
  refine Yp (cs := wcs X n fd.Start fd.Init.length q p g mb (.slice none 0 0)) h' rfl fun r w6 h6 => ?_
  refine Za (Zb h6 6 rfl (v := x.fv) rfl ?_)
  have hi6 : (blk r 178 (wcs X n fd.Start fd.Init.length q p g mb (.slice none 0 0)) :: Zag X :: IsQ q [] :: Yf p 0 [] :: Yo g 0 [] :: Zaj kI kI mb [] :: blk b 25 x.cs :: L)[i + 7]? = some S := by simpa using hi
  refine Zt h6 (i + 7) hi6 (fun g hg => (hr g hg).feds) ?_
  have hxl : x.Feds.length ≤ 8 := by have := hn.2; omega
  refine Zdk (fun mm t62 w => ∃ (j : Nat) (m : List (Int × Int)), j ≤ x.Feds.length ∧ t62 = .int .i64 j ∧ mm = x.Feds.length - j ∧ Zr8 (ZdE ((x.Feds.take j).map Zao.f)) m ∧ m.length ≤ j ∧ Sat e w (Zaj kI kI mb m :: BW r X n fd.Start fd.Init.length q p g mb (.slice none 0 0) :: Zag X :: IsQ q [] :: Yf p 0 [] :: Yo g 0 [] :: blk b 25 x.cs :: L)) x.Feds.length
   ⟨0, [], Nat.zero_le _, rfl, rfl, Zt8, Nat.le_refl _, h6.selR [_, _, _, _, _, _, _] [_, _, _, _, _, _, _] [5, 0, 1, 2, 3, 4, 6] (by decide) rfl⟩ ?_
  rintro mm _ w7 g1 ⟨j, m, hj, rfl, rfl, hm, hml, h7⟩ hg1
  have hi7 : (Zaj kI kI mb m :: BW r X n fd.Start fd.Init.length q p g mb (.slice none 0 0) :: Zag X :: IsQ q [] :: Yf p 0 [] :: Yo g 0 [] :: blk b 25 x.cs :: L)[i + 7]? = some S := by simpa using hi
  refine Za7 (fun c => Zi ?_) (fun c => Zf ?_)
  ·obtain ⟨fj, hfj⟩ := Zk (l := x.Feds) (j := j) (by omega)
   have hfjm := List.mem_of_getElem? hfj
   have htl : ((x.Feds.take j).map Zao.f).length = j := by rw [List.length_map, List.length_take]; omega
   have htk : (x.Feds.take (j + 1)).map Zao.f = (x.Feds.take j).map Zao.f ++ [fj.f] := by rw [Zx hfj, List.map_append]; rfl
   refine J0.cut (fun w => ∃ m', Zr8 (ZdE ((x.Feds.take (j + 1)).map Zao.f)) m' ∧ m'.length ≤ j + 1 ∧ Sat e w (Zaj kI kI mb m' :: BW r X n fd.Start fd.Init.length q p g mb (.slice none 0 0) :: Zag X :: IsQ q [] :: Yf p 0 [] :: Yo g 0 [] :: blk b 25 x.cs :: L)) (fun k2 hk2 => ?_) ?_
   ·refine Zw h7 (i + 7) hi7 (fun g hg => (hr g hg).feds) (fun _ => rfl) hfj fun a ha => Ym h7 (i + 7) hi7 ha rfl ?_
    rw [Zlz]
    refine Yp (cs := [.int .i64 0, .int .i64 0, .int .i64 0, .slice none 0 0, .slice none 0 0, .slice none 0 0, .slice none 0 0]) h7 rfl fun t10 w8 h8 => ?_
    refine Zq h8 0 rfl (vs := fj.cs) rfl rfl (by simp) (Zc1 i hi hS fun g hg => (hr g hg).fed fj hfjm) (cs' := fj.cs) (by rfl) fun w9 h9 => ?_
    refine Za (Zb h9 0 rfl (v := .int .i64 fj.Kind) rfl ?_)
    refine ZoR (fun c2 => Zi ?_) (fun c2 => Zf ?_)
    ·refine Zh (Za (Zb h9 2 rfl (v := .map (some mb)) rfl ?_))
     refine ZsG Zdt Zdd hm.u (h9.pick 1 rfl) (j : Int) 0 (vf := kI) rfl fun w10 h10 => ?_
     refine hk2 _ ⟨upA m (j : Int) 0, ?_, Nat.le_trans Zz4 (by omega), h10.selR [_, _, _, _, _, _, _, _] [_, _, _, _, _, _, _] [0, 2, 3, 4, 5, 6, 7] (by decide) rfl⟩
     rw [htk]
     have := ZvR (g := fj.f) hm c2 (by omega)
     rwa [htl] at this
    ·refine hk2 _ ⟨m, ?_, by omega, h9.drop⟩
     rw [htk]
     exact Zxj hm c2
   ·rintro w8 ⟨m', hm', hml', h8⟩
    refine Yr (by omega) ?_
    exact hg1 _ _ _ (by omega) ⟨j + 1, m', by omega, rfl, rfl, hm', hml', h8⟩
  ·have ej : j = x.Feds.length := by omega
   rw [ej, List.take_length] at hm
   have hms : Zr8 (ZiQ x.w).clk m := hm
   have h8 := h7.own_nil 49 7 Zak.cs
   refine hok c1 n fd.f rfl hwf' hmay r _ (ZbQ (N := ZiQ x.w) (X := X) (q := q) (p := p) (g := g) (b := mb) (m := m) (lv := .slice none 0 0) ⟨hX, ZxN hX hs, WOk.init hwd hwf' d3, hms⟩ ?_)
   exact h8.selR [_, _, _, _, _, _, _, _] [_, _, _, _, _, _, _] [2, 4, 5, 6, 3, 1, 0] (by decide) rfl
 have o4 : ∀ {l' : List HP} {w'} {A : Prop} (j jb : Nat), Sat e w' l' → l'[j]? = some S → l'[jb]? = some (blk b 25 x.cs) → A →
   ((ld1 (.pointer (some p5)) w' (fun v' w'' => v' = fd.iv ∧ w'' = w')) ∧ ((ld1 (.pointer (some ⟨b, 0 + 1, none⟩)) w' (fun v' w'' => v' = x.fv ∧ w'' = w')) ∧ ((ld1 (.pointer (some p3)) w' (fun v' w'' => v' = .int .i64 fd.Start ∧ w'' = w')) ∧ ((ld1 (.pointer (some ⟨b, 0 + 1, none⟩)) w' (fun v' w'' => v' = x.fv ∧ w'' = w')) ∧ A)))) := fun j jb h' hj hb hA =>
  ⟨Yt h' j hj hp5 (v := fd.iv) rfl ⟨rfl, rfl⟩, Zb h' jb hb (v := x.fv) rfl ⟨rfl, rfl⟩, Yt h' j hj hp3 (v := .int .i64 fd.Start) rfl ⟨rfl, rfl⟩, Zb h' jb hb (v := x.fv) rfl ⟨rfl, rfl⟩, hA⟩
 have oN : ∀ {l' : List HP} {w'} (jb : Nat), Sat e w' l' → l'[jb]? = some (blk b 25 x.cs) → ldN 3 (.pointer (some ⟨b, 0, none⟩)) w' (fun v' w'' => v' = .agg x.cs.toArray ∧ w'' = w') := fun jb h' hb => Zo h' jb hb (vs := x.cs) rfl (by rfl) ⟨rfl, rfl⟩
 refine ⟨?_, ?_⟩
 ·refine Zjv (x := x) (i + 1) hi2 h4 hr hs fun X w5 hX h5 => o4 (i + 2) 1 h5 (by simpa using hi) rfl ⟨?_, ?_⟩
  ·refine ZoH h5 fun q w6 h6 => o4 (i + 3) 2 h6 (by simpa using hi) rfl ⟨?_, ?_⟩
   ·refine Zgk h6 fun p w7 h7 => o4 (i + 4) 3 h7 (by simpa using hi) rfl ⟨?_, ?_⟩
    ·refine Zd9 h7 fun g w8 h8 => o4 (i + 5) 4 h8 (by simpa using hi) rfl ?_
     refine Zfx kI kI h8 fun mb w9 h9 => o4 (i + 6) 5 h9 (by simpa using hi) rfl ⟨oN 5 h9 rfl, ?_⟩
     exact fin X q p g mb _ hX (h9.selR [_, _, _, _, _, _] [_, _, _, _, _, _] [4, 3, 2, 1, 0, 5] (by decide) rfl)
    ·refine Zfx kI kI h7 fun mb w8 h8 => o4 (i + 5) 4 h8 (by simpa using hi) rfl ⟨oN 4 h8 rfl, ?_⟩
     refine Zd9 h8 fun g w9 h9 => o4 (i + 6) 5 h9 (by simpa using hi) rfl ?_
     exact fin X q p g mb _ hX (h9.selR [_, _, _, _, _, _] [_, _, _, _, _, _] [4, 3, 2, 0, 1, 5] (by decide) rfl)
   ·refine Zfx kI kI h6 fun mb w7 h7 => o4 (i + 4) 3 h7 (by simpa using hi) rfl ⟨oN 3 h7 rfl, ?_⟩
    refine Zgk h7 fun p w8 h8 => o4 (i + 5) 4 h8 (by simpa using hi) rfl ?_
    refine Zd9 h8 fun g w9 h9 => o4 (i + 6) 5 h9 (by simpa using hi) rfl ?_
    exact fin X q p g mb _ hX (h9.selR [_, _, _, _, _, _] [_, _, _, _, _, _] [4, 3, 1, 0, 2, 5] (by decide) rfl)
  ·refine Zfx kI kI h5 fun mb w6 h6 => o4 (i + 3) 2 h6 (by simpa using hi) rfl ⟨oN 2 h6 rfl, ?_⟩
   refine ZoH h6 fun q w7 h7 => o4 (i + 4) 3 h7 (by simpa using hi) rfl ?_
   refine Zgk h7 fun p w8 h8 => o4 (i + 5) 4 h8 (by simpa using hi) rfl ?_
   refine Zd9 h8 fun g w9 h9 => o4 (i + 6) 5 h9 (by simpa using hi) rfl ?_
   exact fin X q p g mb _ hX (h9.selR [_, _, _, _, _, _] [_, _, _, _, _, _] [4, 2, 1, 0, 3, 5] (by decide) rfl)
 ·refine Zfx kI kI h4 fun mb w5 h5 => o4 (i + 2) 1 h5 (by simpa using hi) rfl ⟨oN 1 h5 rfl, ?_⟩
  refine Zjv (x := x) (i + 2) (by simpa using hi) h5 hr hs fun X w6 hX h6 => o4 (i + 3) 2 h6 (by simpa using hi) rfl ?_
  refine ZoH h6 fun q w7 h7 => o4 (i + 4) 3 h7 (by simpa using hi) rfl ?_
  refine Zgk h7 fun p w8 h8 => o4 (i + 5) 4 h8 (by simpa using hi) rfl ?_
  refine Zd9 h8 fun g w9 h9 => o4 (i + 6) 5 h9 (by simpa using hi) rfl ?_
  exact fin X q p g mb _ hX (h9.selR [_, _, _, _, _, _] [_, _, _, _, _, _] [3, 2, 1, 0, 4, 5] (by decide) rfl)
noncomputable def ZtU (wd : Wd) (room : Int) : Int := if (Za4 wd).2 ≠ 0 then (Za4 wd).2 else if 1 ≤ room ∧ room ≤ 16 then 0 else 1
theorem Zq6 {n room : Int} (hn : 1 ≤ n ∧ n ≤ 8) (h : ¬ (1 ≤ room ∧ room ≤ 16)) (hk : K (.tuple #[.pointer none, .int .i64 1]) w) : Cl prog 39 #[.int .i64 n, .int .i64 room] w K := by
 refine Zhf ?_
 unfold Zn6
 by_cases c3 : room < 1
 ·refine Ze7 (by omega) (Zj (Ze (Zle (by omega) (Yd (Zj (Ze (Ztt (by omega) (Yd (Zd (Zd (Yv (Zi ?_))))))))))))
  exact hk
 ·refine Ze7 (by omega) (Zj (Ze (Zle (by omega) (Yd (Zj (Ze (Ze7 (by omega) (Yd (Zj (Ze (ZtF (by omega) (Yd (Zi ?_)))))))))))))
  exact hk
def ndK (wd : Wd) (f : Nat) : Nd := ZpY wd wd.Feds.length f (Zs wd f) (Zcz wd f)
theorem ZhV {j : Nat} (hj : j < wd.Feds.length) : Zcz wd (j + 1) = Zcz wd j + if (Zs wd j).Kind = 0 then 0 else 1 := by
 unfold Zcz
 rw [Zx (ZaN hj), List.filter_append, List.length_append]
 congr 1
 rw [List.filter_cons]
 by_cases h : (Zs wd j).Kind = 0
 ·rw [if_neg (by rw [decide_eq_true h]; decide), if_pos h]; rfl
 ·rw [if_pos (by rw [decide_eq_false h]; rfl), if_neg h]; rfl
theorem Zs7 : Zcz wd wd.Feds.length = Zai wd := by
 unfold Zcz Zai
 rw [List.take_length]
theorem ZuX : ∀ (l : List Nat), Sat e w Q → Sat e w (Yh (l.map fun _ => DI (.slice none 0 0) []) :: Q)
 | [], h => Sat.join (l' := []) h
 | _ :: l, h => by
  have h1 := Ziz (ZuX l h)
  have h2 : Sat e w ((DI (.slice none 0 0) [] :: l.map fun _ => DI (.slice none 0 0) []) ++ Q) := (h1.swap.split.perm List.perm_middle)
  exact Sat.join (l' := DI (.slice none 0 0) [] :: l.map fun _ => DI (.slice none 0 0) []) h2
theorem Zx5 {α : Type} {j : Nat} (F : Nat → α) (x : α) : ((List.range (j + 1)).map fun i => if i = j then x else F i) = (List.range j).map F ++ [x] := by
 rw [List.range_succ, List.map_append]
 congr 1
 ·refine List.map_congr_left fun i hi => ?_
  have := List.mem_range.1 hi
  rw [if_neg (by omega)]
 ·show [if j = j then x else F j] = [x]
  rw [if_pos rfl]
theorem ZuA (m : Nat) : Zan.zero m = Zcg m (CL.zero m) := by
 have : (fun i => (List.replicate m (0 : Int)).getD i 0) = fun _ => 0 := by
  funext i
  rw [List.getD_eq_getElem?_getD, List.getElem?_replicate]
  split <;> rfl
 unfold Zan.zero Zcg CL.zero
 dsimp only
 rw [this]
abbrev nkH (wd : Wd) (j : Nat) (ms : Nat → Nat × Nat) : List HP := (List.range j).map fun f => ndH wd 0 f (ndK wd f) (ms f)
abbrev nkV (wd : Wd) (j : Nat) (ms : Nat → Nat × Nat) : List Value := (List.range j).map fun f => ndV (ndK wd f) (ms f)
theorem ZtP {j : Nat} {ms : Nat → Nat × Nat} {m : Nat × Nat} {nv bv pv : Value} (hj : j < 1000) (hpv : pv = ndV (ndK wd j) m) (hS : Sat e w (ndH wd 0 j (ndK wd j) m :: Yh (nkH wd j ms) :: blk p 87 [.int .i64 wd.End, nv, bv, pt n, .pointer none] :: Zz 123 1 one nv (nkV wd j ms) :: Q))
  {K : World → Prop} (hk : ∀ nv' w', Sat e w' (Yh (nkH wd (j + 1) fun i => if i = j then m else ms i) :: blk p 87 [.int .i64 wd.End, nv', bv, pt n, .pointer none] :: Zz 123 1 one nv' (nkV wd (j + 1) fun i => if i = j then m else ms i) :: Q) → K w') :
  bsl 123 1 1 (Zl prog 123) [(0, pv)] w fun t73 w => apS prog #[84, 84] 84 nv t73 w fun t74 w => ncP (pt p) <| fld 1 (pt p) w fun t76 w => stN 1 t76 t74 w fun _ w => K w := by
 subst hpv
 have hflat : flat (ndV (ndK wd j) m) = true := by cases ndK wd j <;> rfl
 have hcells : (ndV (ndK wd j) m).cells.toList = one (ndV (ndK wd j) m) := by cases ndK wd j <;> rfl
 refine ZwC hcells rfl hS fun b w1 h1 => ?_
 refine Zcs ZFg ZFg.und (f := one) (l := nkV wd j ms) (m := [ndV (ndK wd j) m]) (fun _ => rfl) (fun x hx v hv => by
  rw [List.mem_singleton.1 hx] at hv
  rw [List.mem_singleton.1 hv]
  exact hflat) (h1.selR [_, _, _, _, _] [_, _, _, _, _] [4, 0, 1, 2, 3] (by decide) rfl) (Zfu (f := one) (Nat.le_refl _)) (by rw [List.length_map, List.length_range, List.length_singleton]; omega) fun nv' w2 h2 => ?_
 have q1 := h2.own_cells 0 rfl
 refine Zh (Za (Zpm h2 4 rfl q1 (Nat.le_of_ble_eq_true rfl) (cs' := [.int .i64 wd.End, nv', bv, pt n, .pointer none]) rfl fun w3 h3 => ?_))
 have h4 : Sat e w3 (ndH wd 0 j (ndK wd j) m :: Yh (nkH wd j ms) :: blk p 87 [.int .i64 wd.End, nv', bv, pt n, .pointer none] :: Zz 123 1 one nv' (nkV wd j ms ++ [ndV (ndK wd j) m]) :: Q) := h3.selR [_, _, _, _, _] [_, _, _, _] [2, 3, 4, 0] (by decide) rfl
 have h5 := ZiX h4
 have e1 : nkH wd (j + 1) (fun i => if i = j then m else ms i) = nkH wd j ms ++ [ndH wd 0 j (ndK wd j) m] := by
  rw [← Zx5]
  refine List.map_congr_left fun i _ => ?_
  by_cases h : i = j
  ·subst h; rw [if_pos rfl]; dsimp only; rw [if_pos rfl]
  ·rw [if_neg h]; dsimp only; rw [if_neg h]
 have e2 : nkV wd (j + 1) (fun i => if i = j then m else ms i) = nkV wd j ms ++ [ndV (ndK wd j) m] := by
  rw [← Zx5]
  refine List.map_congr_left fun i _ => ?_
  by_cases h : i = j
  ·subst h; rw [if_pos rfl]; dsimp only; rw [if_pos rfl]
  ·rw [if_neg h]; dsimp only; rw [if_neg h]
 refine hk nv' _ ?_
 rw [e1, e2]
 exact h5
theorem Zu2 {x : WdX} {room : Int} (i : Nat) (hi : L[i]? = some S) (hS : Sat e w L) (hr : ∀ g, S g → ZtG x g) (hwf : x.wf) (hs : x.short)
  (hbad : ZtU x.w room ≠ 0 → ∀ w', Sat e w' L → K (.tuple #[.pointer none, .int .i64 (ZtU x.w room)]) w')
  (hok : ZtU x.w room = 0 → ∀ p w', Sat e w' (Zby p x.w (KS.init x.w room.toNat) 0 0 :: L) → K (.tuple #[pt p, .int .i64 0]) w') : Cl prog 14 #[.agg x.cs.toArray, .int .i64 room] w K := by
 refine ZoN ?_
 unfold ZvL
 refine Yp (cs := x.cs) hS rfl fun b w1 h1 => ?_
 have hi1 : (blk b 25 x.cs :: L)[i + 1]? = some S := by simpa using hi
 refine Zo h1 0 (vs := x.cs) rfl (by rfl) rfl ?_
 refine ZdI (x := x) (i + 1) hi1 h1 hr hwf hs fun w2 h2 => ?_
 refine Zam (Zal ?_)
 have hxl : x.w.Feds.length = x.Feds.length := by simp [WdX.w]
 refine ZrP (fun c1 => Zi ?_) (fun c1 => Zf ?_)
 ·have e1 : ZtU x.w room = (Za4 x.w).2 := if_pos c1
  rw [e1] at hbad
  exact hbad c1 _ h2.drop
 have hwd := ZfI c1
 have hkd := ZlD c1
 have hn8 := hwd.n
 refine Za (Zb h2 0 rfl (v := x.fv) rfl (Zt h2 (i + 1) hi1 (fun g hg => (hr g hg).feds) ?_))
 by_cases hrm : 1 ≤ room ∧ room ≤ 16
 case neg =>
  have e1 : ZtU x.w room = 1 := by unfold ZtU; rw [if_neg (fun h => h c1), if_neg hrm]
  rw [e1] at hbad
  refine Zq6 (by omega) hrm ?_
  exact Zam (Zal (Zng (by decide) (Zi (hbad (by decide) _ h2.drop))))
 have e1 : ZtU x.w room = 0 := by unfold ZtU; rw [if_neg (fun h => h c1), if_pos hrm]
 have hok := hok e1
 obtain ⟨rm, hrm'⟩ : ∃ r : Nat, room = r := ⟨room.toNat, by omega⟩
 have hrt : room.toNat = rm := by omega
 rw [hrt] at hok
 refine ZsT (by omega) (by omega) hrm.1 hrm.2 h2 fun g w3 h3 => ?_
 refine Zam (Zal (ZoP rfl (Zf ?_)))
 refine ZaY h3 fun w4 h4 => ?_
 refine Za (Zb h4 1 rfl (v := .int .i64 x.End) rfl ?_)
 have hi4 : (Yx g x.Feds.length room (fun _ _ => []) :: blk b 25 x.cs :: L)[i + 2]? = some S := by simpa using hi
 refine Za (Zb h4 1 rfl (v := x.fv) rfl (Zt h4 (i + 2) hi4 (fun g hg => (hr g hg).feds) ?_))
 refine Zyg ZFX (by omega) h4 one (fun _ => rfl) (.slice none 0 0) (by kernel_rfl) fun bv w5 h5 => ?_
 refine ⟨Zb h5 2 rfl (v := .int .i64 x.End) rfl ⟨rfl, rfl⟩, ?_⟩
 have q1 := h5.own_cells 0 rfl
 have hEnd : x.End = x.w.End := rfl
 refine Zaf [.int .i64 x.End, .slice none 0 0, bv, pt g, .pointer none] ?_ ?_
 ·obtain ⟨A, cc, rfl, _⟩ := h5.shape 0 rfl (fun _ => Zp)
  kernel_rfl
 refine Yp (cs := [.int .i64 x.End, .slice none 0 0, bv, pt g, .pointer none]) h5 rfl fun p w6 h6 => ?_
 rw [Zlz, Zbj]
 generalize hwdx : x.w = wd at *
 have hEnd : x.End = wd.End := by rw [← hwdx]; rfl
 rw [hEnd, hxl.symm] at h6
 have hi6 : ∀ {A B C D : HP}, (A :: B :: C :: D :: blk b 25 x.cs :: L)[i + 5]? = some S := by simpa using hi
 have h7 : Sat e w6 (Yh (nkH wd 0 fun _ => (0, 0)) :: blk p 87 [.int .i64 wd.End, .slice none 0 0, bv, pt g, .pointer none] :: Zz 123 1 one (.slice none 0 0) (nkV wd 0 fun _ => (0, 0)) :: Zz 53 1 one bv (List.replicate wd.Feds.length (.slice none 0 0)) :: Yx g wd.Feds.length room (fun _ _ => []) :: blk b 25 x.cs :: L) := by
  have h8 := h6.own_nil 123 1 one
  exact Sat.join (l' := []) (h8.selR [_, _, _, _, _] [_, _, _, _, _] [1, 0, 2, 3, 4] (by decide) rfl)
 refine Za (Zb h7 5 rfl (v := x.fv) rfl (Zt h7 (i + 6) (by simpa using hi) (fun g hg => (hr g hg).feds) ?_))
 refine ZjF (fun z t11 t51 w => ∃ (j : Nat) (nv : Value) (ms : Nat → Nat × Nat), j ≤ x.Feds.length ∧ t51 = .int .i64 j ∧ t11 = .int .i64 (Zcz wd j : Nat) ∧ z = x.Feds.length - j ∧
   Sat e w (Yh (nkH wd j ms) :: blk p 87 [.int .i64 wd.End, nv, bv, pt g, .pointer none] :: Zz 123 1 one nv (nkV wd j ms) :: Zz 53 1 one bv (List.replicate wd.Feds.length (.slice none 0 0)) :: Yx g wd.Feds.length room (fun _ _ => []) :: blk b 25 x.cs :: L)) x.Feds.length
  ⟨0, .slice none 0 0, fun _ => (0, 0), Nat.zero_le _, rfl, rfl, rfl, h7⟩ ?_
 rintro z _ _ w8 g1 ⟨j, nv, ms, hj, rfl, rfl, rfl, h8⟩ hg1
 refine Za7 (fun c0 => Zi ?_) (fun c0 => Zf ?_)
 ·have hjl : j < x.Feds.length := by omega
  have hjw : j < wd.Feds.length := by omega
  obtain ⟨fx, hfx⟩ := Zk (l := x.Feds) (j := j) hjl
  have hfm := List.mem_of_getElem? hfx
  have hfa : Zs wd j = fx.f := by
   have h9 := ZaN hjw
   rw [← hwdx] at h9 ⊢
   have h10 : x.w.Feds[j]? = some fx.f := by simp only [WdX.w]; rw [List.getElem?_map, hfx]; rfl
   rw [h10] at h9
   exact (Option.some.inj h9).symm
  have hfk : (Zs wd j).Kind = fx.Kind := by rw [hfa]; rfl
  have hi8 : ∀ {A B C D E F : HP}, (A :: B :: C :: D :: E :: F :: L)[i + 6]? = some S := by simpa using hi
  refine J1.cut (fun t11 w => ∃ nv ms, t11 = .int .i64 (Zcz wd (j + 1) : Nat) ∧ Sat e w (Yh (nkH wd (j + 1) ms) :: blk p 87 [.int .i64 wd.End, nv, bv, pt g, .pointer none] :: Zz 123 1 one nv (nkV wd (j + 1) ms) :: Zz 53 1 one bv (List.replicate wd.Feds.length (.slice none 0 0)) :: Yx g wd.Feds.length room (fun _ _ => []) :: blk b 25 x.cs :: L)) (fun k2 hcut => ?_) ?_
  ·refine Zw h8 (i + 6) hi8 (fun g hg => (hr g hg).feds) (fun _ => rfl) hfx fun a ha => Ym h8 (i + 6) hi8 ha rfl ?_
   refine Yp (cs := (⟨0, 0, 0, .slice none 0 0, [], .slice none 0 0, [], .slice none 0 0, [], .slice none 0 0, []⟩ : Zao).cs) h8 rfl fun t13 w9 h9 => ?_
   refine Zq h9 0 rfl (vs := fx.cs) rfl rfl (Nat.le_of_ble_eq_true rfl) (Zc1 (i + 7) (by simpa using hi) h9 fun g hg => (hr g hg).fed fx hfm) (cs' := fx.cs) (by rfl) fun w10 h10 => ?_
   refine Za (Zb h10 0 rfl (v := .int .i64 fx.Kind) rfl ?_)
   have h11 : Sat e w10 (Yh (nkH wd j ms) :: blk p 87 [.int .i64 wd.End, nv, bv, pt g, .pointer none] :: Zz 123 1 one nv (nkV wd j ms) :: Zz 53 1 one bv (List.replicate wd.Feds.length (.slice none 0 0)) :: Yx g wd.Feds.length room (fun _ _ => []) :: blk b 25 x.cs :: L) := h10.drop
   have hfw : wd.Feds[j]? = some (Zs wd j) := ZaN hjw
   refine ZoR (fun ck => Zi ?_) (fun ck => Zf ?_)
   ·refine Zo h11 5 (vs := x.cs) rfl (by rfl) rfl ?_
    have hmay : Zh3 wd j = some (Zs wd j) := by
     unfold Zh3
     rw [if_pos (by omega), Int.toNat_natCast, hfw]
     show (if (Zs wd j).Kind = 0 then some (Zs wd j) else none) = _
     rw [if_pos (by rw [hfk]; exact ck)]
    refine ZsZ (x := x) (f := (j : Int)) (i + 6) hi8 h11 hr hwf hs (fun h => absurd c1 (by rw [hwdx] at h; exact h)) (fun _ h => by rw [hwdx, hmay] at h; cases h) fun _ m fd hm hfd' _ r w12 h12 => ?_
    have hmj : m = j := by omega
    subst hmj
    rw [hwdx] at hfd' h12
    rw [hfw] at hfd'
    obtain rfl := Option.some.inj hfd'
    refine Zam (Zal (Zh (Za (Zb h12 2 rfl (v := nv) rfl ?_))))
    refine Zaf [pt r] (by kernel_rfl) ?_
    have hndk : ndK wd m = .slow (ZoV wd.Feds.length m (Zs wd m)) := Zgj (by rw [hfk]; exact ck)
    refine ZtP (j := m) (m := (r, 0)) (by omega) (by rw [hndk]; rfl) (Q := Zz 53 1 one bv (List.replicate wd.Feds.length (.slice none 0 0)) :: Yx g wd.Feds.length room (fun _ _ => []) :: blk b 25 x.cs :: L) (ms := ms) (by rw [hndk]; exact h12) fun nv' w13 h13 => ?_
    refine hcut _ _ ⟨nv', _, ?_, h13⟩
    rw [ZhV hjw, if_pos (by rw [hfk]; exact ck)]
    rfl
   ·refine Zo h11 5 (vs := x.cs) rfl (by rfl) rfl ?_
    have hk1 : (Zs wd j).Kind = 1 := by
     rcases hkd _ (List.mem_of_getElem? hfw) with h | h
     ·rw [hfk] at h; exact absurd h ck
     ·exact h
    have hmay : Zhq wd j = some (Zs wd j) := by
     unfold Zhq
     rw [if_pos (by omega), Int.toNat_natCast, hfw]
     show (if (Zs wd j).Kind = 1 then some (Zs wd j) else none) = _
     rw [if_pos hk1]
    refine Ztr (x := x) (f := (j : Int)) (i + 6) hi8 h11 hr hwf hs (fun h => absurd c1 (by rw [hwdx] at h; exact h)) (fun _ h => by rw [hwdx, hmay] at h; cases h) fun _ m fd hm hfd' _ r w12 h12 => ?_
    have hmj : m = j := by omega
    subst hmj
    rw [hwdx] at hfd' h12
    rw [hfw] at hfd'
    obtain rfl := Option.some.inj hfd'
    refine Zam (Zal (Zh (Za (Zb h12 2 rfl (v := nv) rfl ?_))))
    refine Zaf [pt r, .int .i64 (Zcz wd m : Nat), .int .i64 0] (by kernel_rfl) ?_
    refine Yp (cs := [pt r, .int .i64 (Zcz wd m : Nat), .int .i64 0]) h12 rfl fun bb w13 h13 => ?_
    have hndk : ndK wd m = .bold (ZiQ wd) (Zcz wd m) 0 := Zgb (by rw [hfk]; exact ck)
    refine ZtP (j := m) (m := (r, bb)) (by omega) (by rw [hndk]; rfl) (Q := Zz 53 1 one bv (List.replicate wd.Feds.length (.slice none 0 0)) :: Yx g wd.Feds.length room (fun _ _ => []) :: blk b 25 x.cs :: L) (ms := ms) (by rw [hndk]; exact Sat.join (l' := [_, _]) h13) fun nv' w14 h14 => ?_
    refine Yr (by have := ZhV hjw; have : Zcz wd m ≤ wd.Feds.length := Nat.le_trans (List.length_filter_le _ _) (by rw [List.length_take]; omega); omega) ?_
    refine hcut _ _ ⟨nv', _, ?_, h14⟩
    rw [ZhV hjw, if_neg (by rw [hfk]; exact ck)]
  ·rintro _ w9 ⟨nv', ms', rfl, h9⟩
   refine Yr (by omega) ?_
   exact hg1 _ _ _ _ (by omega) ⟨j + 1, nv', ms', by omega, rfl, rfl, rfl, h9⟩
 ·have ej : j = wd.Feds.length := by omega
  subst ej
  rw [Zs7]
  have hb8 := Zk9 hwd
  generalize hk0 : KS.init0 wd rm = k0
  have hki := Zqp c1 rm
  rw [hk0] at hki
  have hnd : ∀ f, f < wd.Feds.length → k0.node f = ndK wd f := fun f hf => by rw [← hk0, Zgi hf]; rfl
  have hbx : ∀ f, k0.box f = [] := fun f => by rw [← hk0]; exact ZmC rm f
  have hcut0 : k0.cut = if Zai wd = 0 then none else some (CL.zero (Zai wd)) := by rw [← hk0]; rfl
  have parts : ∀ {w : World} (c : Nat) {Q : List HP}, Sat e w (Yh (nkH wd wd.Feds.length ms) :: blk p 87 [.int .i64 wd.End, nv, bv, pt g, ZG0 k0.cut c] :: Zz 123 1 one nv (nkV wd wd.Feds.length ms) :: Zz 53 1 one bv (List.replicate wd.Feds.length (.slice none 0 0)) :: Yx g wd.Feds.length room (fun _ _ => []) :: ZBC (Zai wd) k0.cut c :: Q) →
    Sat e w (KP p wd 0 k0 ⟨nv, bv, g, c, ms, fun _ => .slice none 0 0⟩ ++ Q) := by
   intro w c Q h
   have h9 := ZuX (List.range wd.Feds.length) h
   have e2 : Zat wd 0 k0 ⟨nv, bv, g, c, ms, fun _ => .slice none 0 0⟩ = nkH wd wd.Feds.length ms := List.map_congr_left fun f hf => by rw [hnd f (List.mem_range.1 hf)]
   have e3 : Zar wd k0 ⟨nv, bv, g, c, ms, fun _ => .slice none 0 0⟩ = (List.range wd.Feds.length).map fun _ => DI (.slice none 0 0) [] := List.map_congr_left fun f _ => by rw [hbx]
   have e4 : Zju wd k0 ⟨nv, bv, g, c, ms, fun _ => .slice none 0 0⟩ = nkV wd wd.Feds.length ms := List.map_congr_left fun f hf => by rw [hnd f (List.mem_range.1 hf)]
   have e5 : Zg7 wd ⟨nv, bv, g, c, ms, fun _ => .slice none 0 0⟩ = List.replicate wd.Feds.length (.slice none 0 0) := by
    show ((List.range wd.Feds.length).map fun _ => Value.slice none 0 0) = _
    rw [List.map_const', List.length_range]
   have e6 : (fun a b => k0.q a b) = fun _ _ => [] := by
    funext a b
    rw [← hk0]
    exact ZqT rm a b
   have e7 : (k0.room : Int) = room := by rw [← hk0, hrm']; rfl
   show Sat e w ([Yh (Zat wd 0 k0 _), Yh (Zar wd k0 _), blk p _ _, Zz _ 1 one _ (Zju wd k0 _), Zz _ 1 one _ (Zg7 wd _), Yx _ _ _ (fun a b => k0.q a b), ZBC (Zai wd) k0.cut _] ++ Q)
   rw [e2, e3, e4, e5, e6, e7]
   exact h9.selR [_, _, _, _, _, _, _] [_, _, _, _, _, _, _] [1, 0, 2, 3, 4, 5, 6] (by decide) rfl
  refine ZFJ ?_
  refine J0.cut (fun w => ∃ M', Sat e w (KP p wd 0 k0 M' ++ blk b 25 x.cs :: L)) (fun k3 hcut => ?_) ?_
  ·by_cases hb : Zai wd = 0
   ·have e2 : k0.cut = none := by rw [hcut0, if_pos hb]
    rw [decide_eq_false (by omega)]
    refine Zf (hcut _ ⟨_, parts 0 ?_⟩)
    rw [e2]
    have h9 := h8.mk_pure (p := True) trivial
    exact h9.selR [_, _, _, _, _, _, _] [_, _, _, _, _, _, _] [1, 2, 3, 4, 5, 0, 6] (by decide) rfl
   ·have e2 : k0.cut = some (CL.zero (Zai wd)) := by rw [hcut0, if_neg hb]
    rw [decide_eq_true (by omega)]
    refine Zi ?_
    refine ZuG (by omega) (by omega) h8 fun c w9 h9 => ?_
    refine Zam (Zal (Zh (Za (Zq h9 2 rfl (vs := [pt c]) rfl rfl (Nat.le_of_ble_eq_true rfl) (by simp [flat]) (cs' := [.int .i64 wd.End, nv, bv, pt g, pt c]) (by rfl) fun w10 h10 => ?_))))
    refine hcut _ ⟨_, parts c ?_⟩
    rw [e2]
    rw [ZuA] at h10
    exact h10.selR [_, _, _, _, _, _, _] [_, _, _, _, _, _, _] [1, 2, 3, 4, 5, 0, 6] (by decide) rfl
  ·rintro w9 ⟨M', h9⟩
   refine Zo h9 7 (vs := x.cs) rfl (by rfl) rfl ?_
   refine ZwB (x := x) (i + 8) (by simpa using hi) h9 hr hs (by have := hwd.tree; rw [← hwdx] at this; exact this) (by omega) (fun f hf => ?_) fun v w10 h10 hsl => ?_
   ·have hfm : f.f ∈ wd.Feds := by rw [← hwdx]; exact List.mem_map_of_mem hf
    have h := hwd.init f.f hfm
    have hp : wd.Parents = x.Parents := by rw [← hwdx]; rfl
    rw [hp] at h
    exact ⟨h.1, fun o ho => (h.2 o ho).1⟩
   ·rw [hwdx] at h10 hsl
    have hmem := fun m (h : m ∈ Zaz wd.Parents wd.Feds wd.Feds) => Znu h
    have hmok := fun m (h : m ∈ Zaz wd.Parents wd.Feds wd.Feds) => Zql (wd := wd) h
    have hfin : (Zaz wd.Parents wd.Feds wd.Feds).foldl ZxY k0 = KS.init wd rm := by rw [← hk0, ← ZuV]
    generalize Zaz wd.Parents wd.Feds wd.Feds = l at h10 hsl hmem hmok hfin
    refine Zt h10 0 rfl (fun _ => Zp) ?_
    refine Zdk (fun z t113 w => ∃ j : Nat, j ≤ l.length ∧ t113 = .int .i64 j ∧ z = l.length - j ∧ ∃ M', Sat e w (Zz 47 6 Msg.cs v l :: (KP p wd 0 ((l.take j).foldl ZxY k0) M' ++ blk b 25 x.cs :: L))) l.length ⟨0, Nat.zero_le _, rfl, rfl, M', h10⟩ ?_
    rintro z _ w11 g4 ⟨j, hj', rfl, rfl, M2, h11⟩ hg4
    refine Za7 (fun c5 => Zi ?_) (fun c5 => Zf ?_)
    ·obtain ⟨m, hm⟩ := Zk (l := l) (j := j) (by omega)
     have hml := List.mem_of_getElem? hm
     obtain ⟨fi, fd, hfi, hsp⟩ := hmem m hml
     have hfrom : m.key.From = (fi : Int) := (Zpu hsp).from'
     have hfil : fi < wd.Feds.length := (List.getElem?_eq_some_iff.1 hfi).1
     have hpre := Zof (wd := wd) (l.take j) k0 0 (fun y hy => hmok y (List.mem_of_mem_take hy)) hki
     rw [List.length_take] at hpre
     refine Zw h11 0 rfl (fun _ => Zp) (fun _ => rfl) hm fun a ha => Ym h11 0 rfl ha rfl ?_
     refine Yp (cs := Msg.zero.cs) h11 rfl fun t19 w12 h12 => ?_
     refine Zq h12 0 rfl (vs := m.cs) rfl rfl (by decide) (Zg _) (cs' := m.cs) (by rfl) fun w13 h13 => ?_
     refine Za (Za (Zb h13 0 rfl (v := .int .i64 m.key.From) rfl ?_))
     refine Zo h13 0 (vs := m.cs) rfl (by rfl) rfl ?_
     refine Zaf (Zae m).cs (by kernel_rfl) ?_
     refine ZwC (vs := (Zae m).cs) rfl rfl h13 fun bb w14 h14 => ?_
     rw [hfrom]
     have h15 : Sat e w14 (KP p wd 0 ((l.take j).foldl ZxY k0) M2 ++ blk bb 104 (Zae m).cs :: (Zz 47 6 Msg.cs v l :: blk b 25 x.cs :: L)) := h14.selR [_, _, _, _, _, _, _, _, _, _, _] [_, _, _, _, _, _, _, _, _, _] [3, 4, 5, 6, 7, 8, 9, 0, 2, 10] (by decide) rfl
     refine ZdQ (l := [Zae m]) (S := blk bb 104 (Zae m).cs) hfil hpre.bl (Nat.le_trans (hpre.len fi) (by omega)) (Nat.le_of_ble_eq_true rfl) h15 (Zfu (f := Zn.cs) (Nat.le_refl _)) fun M3 w16 _ h16 => ?_
     refine Yr (by omega) ?_
     refine hg4 _ _ _ (by omega) ⟨j + 1, by omega, rfl, rfl, M3, ?_⟩
     have e9 : (l.take (j + 1)).foldl ZxY k0 = ((l.take j).foldl ZxY k0).put fi [Zae m] := by
      rw [Zx hm, List.foldl_append]
      show KS.put _ m.key.From.toNat [Zae m] = _
      rw [hfrom, Int.toNat_natCast]
     rw [e9]
     exact h16.selR [_, _, _, _, _, _, _, _, _, _] [_, _, _, _, _, _, _, _, _] [8, 0, 1, 2, 3, 4, 5, 6, 9] (by decide) rfl
    ·have ej : j = l.length := by omega
     rw [ej, List.take_length, hfin] at h11
     have hki2 := Ze1.init c1 rm
     exact hok p _ (ZkQ hki2 (h11.selR [_, _, _, _, _, _, _, _, _] [_, _, _, _, _, _, _] [1, 2, 3, 4, 5, 6, 7] (by decide) rfl))
end Go.Proofs.YtncgbaokgniphaaGreat
end
section
namespace Go.Proofs.YtncgbaokgniphaaGreat
open Go Go.E
set_option maxRecDepth 100000
section
variable (wd : Wd)
def dl1 (a b : Nat) (p : Bool × KS) : Bool × KS := if p.1 = true then (!decide ((p.2.deliver wd a b).1 = 2), (p.2.deliver wd a b).2) else p
def fl1 (a : Nat) (k : KS) : KS := (k.flush a).2
def ZvX (n a : Nat) (p : Bool × KS) : Bool × KS := (List.range n).foldl (fun p b => rep (dl1 wd a b) 8 p) (p.1, rep (fl1 a) 24 p.2)
def ZBa (p : Bool × KS) (a : Nat) : Bool × KS := (p.1 && (!decide ((p.2.step wd a).1 = 2) || !(p.2.box a).isEmpty), ((p.2.step wd a).2.tell wd a).2)
def tr1 (k : KS) (a : Nat) : KS := (k.turn a).2
def rp1 (k : KS) (a : Nat) : KS := (k.report wd a).2
def ZkX (n : Nat) (k : KS) : Bool × KS :=
 let p1 := (List.range n).foldl (fun p a => ZvX wd n a p) (true, k)
 let p2 := (List.range n).foldl (ZBa wd) p1
 (p2.1, (List.range n).foldl (rp1 wd) ((List.range n).foldl tr1 p2.2.begin'.2))
def ZmK (n m : Nat) (k : KS) : KS := rep (fun k => (ZkX wd n k).2) m k
end
def Zpx (wd : Wd) (k : KS) : List (List (List Int)) := [((k.node 0).log wd 0).map Zak.ns, ((k.node 1).log wd 1).map Zak.ns]
def ZFM : RS := (Zul (Zb2 0 0) 150 (ZF4 (Zb2 0 0))).2
def Zlf : List (List (List Int)) := ZFM.feds.map fun a => a.log.map Zak.ns
def ZsX (n : Nat) (a b : Int) (room : Nat) : Bool := (ZmK (Zb2 a b) 2 n (KS.init (Zb2 a b) room)).quiet (Zb2 a b) && decide (Zpx (Zb2 a b) (ZmK (Zb2 a b) 2 n (KS.init (Zb2 a b) room)) = Zlf)
end Go.Proofs.YtncgbaokgniphaaGreat
end
section
namespace Go.Proofs.YtncgbaokgniphaaGreat
open Go Go.E
set_option maxRecDepth 100000
variable {wd : Wd}
theorem ZoO {α : Type} {P : α → Prop} {f : α → α} (hf : ∀ x, P x → P (f x)) : ∀ (n : Nat) (x : α), P x → P (rep f n x)
 | 0, _, h => h
 | n + 1, x, h => ZoO hf n (f x) (hf x h)
theorem Zig {α : Type} {P : α → Prop} {g : α → Nat → α} {N : Nat} (hg : ∀ x a, a < N → P x → P (g x a)) {x : α} (h : P x) : P ((List.range N).foldl g x) := by
 have key : ∀ (l : List Nat) (x : α), (∀ a ∈ l, a < N) → P x → P (l.foldl g x) := by
  intro l
  induction l with
  | nil => exact fun x _ h => h
  | cons a l ih => exact fun x hl h => ih _ (fun b hb => hl b (List.mem_cons_of_mem _ hb)) (hg x a (hl a (List.mem_cons_self ..)) h)
 exact key _ x (fun a ha => List.mem_range.1 ha) h
theorem Ztz {P : KS → Prop} {N : Nat} (hP : ∀ k kind a b, (kind ≠ 4 → a < N) → (kind = 2 → b < N) → P k → P (k.do' wd kind a b).2) {k : KS} (h : P k) : P (ZkX wd N k).2 := by
 unfold ZkX
 dsimp only
 have h1 : P ((List.range N).foldl (fun p a => ZvX wd N a p) (true, k)).2 := by
  refine Zig (P := fun p : Bool × KS => P p.2) (fun x a ha hx => ?_) h
  unfold ZvX
  have h24 : P (rep (fl1 a) 24 x.2) := ZoO (P := P) (f := fl1 a) (fun z hz => hP z 1 a 0 (fun _ => ha) (fun h => by cases h) hz) 24 x.2 hx
  generalize rep (fl1 a) 24 x.2 = kf at h24 ⊢
  refine Zig (P := fun p : Bool × KS => P p.2) (x := (x.1, kf)) (fun y b hb hy => ?_) h24
  refine ZoO (P := fun p : Bool × KS => P p.2) (f := dl1 wd a b) (fun z hz => ?_) 8 y hy
  unfold dl1
  split
  ·exact hP z.2 2 a b (fun _ => ha) (fun _ => hb) hz
  ·exact hz
 have h2 : P ((List.range N).foldl (ZBa wd) ((List.range N).foldl (fun p a => ZvX wd N a p) (true, k))).2 :=
  Zig (P := fun p : Bool × KS => P p.2) (fun x a ha hx => hP _ 3 a 0 (fun _ => ha) (fun h => by cases h) (hP _ 0 a 0 (fun _ => ha) (fun h => by cases h) hx)) h1
 have h3 := hP _ 4 0 0 (fun h => absurd rfl h) (fun h => by cases h) h2
 have h4 := Zig (P := P) (g := tr1) (N := N) (fun x a ha hx => hP x 5 a 0 (fun _ => ha) (fun h => by cases h) hx) h3
 exact Zig (P := P) (g := rp1 wd) (N := N) (fun x a ha hx => hP x 6 a 0 (fun _ => ha) (fun h => by cases h) hx) h4
theorem Zsm {P : KS → Prop} {N : Nat} (hP : ∀ k kind a b, (kind ≠ 4 → a < N) → (kind = 2 → b < N) → P k → P (k.do' wd kind a b).2) (m : Nat) {k : KS} (h : P k) : P (ZmK wd N m k) := ZoO (P := P) (f := fun k => (ZkX wd N k).2) (fun _ hx => Ztz hP hx) m k h
theorem Zn3 (N m j : Nat) (k : KS) : ZmK wd N (m + j) k = ZmK wd N j (ZmK wd N m k) := by
 unfold ZmK
 induction m generalizing k with
 | zero => rw [Nat.zero_add]; rfl
 | succ m ih => rw [Nat.succ_add]; exact ih _
theorem Zqk (N m : Nat) (k : KS) : ZmK wd N (m + 1) k = (ZkX wd N (ZmK wd N m k)).2 := Zn3 N m 1 k
def ZvV (wd : Wd) (k : KS) : Prop := ∃ s, Ze1 wd k s
theorem ZvV.do' {k : KS} (h : ZvV wd k) (kind a b : Nat) (ha : kind ≠ 4 → a < wd.Feds.length) (hb : kind = 2 → b < wd.Feds.length) : ZvV wd (k.do' wd kind a b).2 := by
 obtain ⟨s, hs⟩ := h
 exact ⟨s + 1, hs.do' kind a b ha hb⟩
theorem ZvV.run {k : KS} (h : ZvV wd k) {N : Nat} (hN : N ≤ wd.Feds.length) (m : Nat) : ZvV wd (ZmK wd N m k) :=
 Zsm (P := ZvV wd) (fun _ kind a b ha hb hk => hk.do' kind a b (fun h => Nat.lt_of_lt_of_le (ha h) hN) (fun h => Nat.lt_of_lt_of_le (hb h) hN)) m h
theorem Zkd {k : KS} (hI : ZvV wd k) (h : k.quiet wd = true) : ZgS wd k := by
 obtain ⟨s, hI⟩ := hI
 unfold KS.quiet at h
 rw [Bool.and_eq_true, List.all_eq_true, List.all_eq_true] at h
 obtain ⟨h1, h2⟩ := h
 refine ⟨fun f i hi => ?_, fun a b i hi => ?_, fun f => ?_⟩
 ·by_cases hf : f < wd.Feds.length
  ·have h3 := h2 f (List.mem_range.2 (by rw [hI.nl]; exact hf))
   rw [Bool.and_eq_true, List.all_eq_true] at h3
   exact of_decide_eq_true (h3.1 i hi)
  ·exfalso
   unfold KS.box at hi
   rw [List.getD_eq_getElem?_getD, List.getElem?_eq_none (by rw [hI.bl]; omega)] at hi
   cases hi
 ·unfold KS.q at hi
  by_cases ha : a < k.net.length
  ·by_cases hb : b < (k.net.getD a []).length
   ·have e1 : (k.net.getD a []) ∈ k.net := by
     rw [List.getD_eq_getElem?_getD, List.getElem?_eq_getElem ha]
     exact List.getElem_mem ha
    have e2 : ((k.net.getD a []).getD b []) ∈ k.net.getD a [] := by
     rw [List.getD_eq_getElem?_getD (l := k.net.getD a []), List.getElem?_eq_getElem hb]
     exact List.getElem_mem hb
    have h3 := List.all_eq_true.1 (h1 _ e1) _ e2
    exact of_decide_eq_true (List.all_eq_true.1 h3 i hi)
   ·rw [List.getD_eq_getElem?_getD (l := k.net.getD a []), List.getElem?_eq_none (by omega)] at hi
    cases hi
  ·rw [List.getD_eq_getElem?_getD (l := k.net), List.getElem?_eq_none (by omega)] at hi
   cases hi
 ·by_cases hf : f < wd.Feds.length
  ·have h3 := h2 f (List.mem_range.2 (by rw [hI.nl]; exact hf))
   rw [Bool.and_eq_true] at h3
   have idle : ∀ q : List Msg, (!(ZjD q && decide ((hdM q).key.T < wd.End))) = true → Zrm wd q := by
    rintro q h ⟨h4, h5⟩
    rw [h4, decide_eq_true h5] at h
    cases h
   cases hn : k.node f with
   | slow N =>
    rw [hn] at h3
    exact idle _ h3.2
   | bold N r t =>
    rw [hn] at h3
    have h4 := h3.2
    rw [Bool.and_eq_true] at h4
    exact ⟨idle _ h4.1, List.isEmpty_iff.1 h4.2⟩
  ·have : k.node f = .slow ⟨⟨[], 0, 0⟩, [], 0, 0, []⟩ := by
    unfold KS.node
    rw [List.getD_eq_getElem?_getD, List.getElem?_eq_none (by rw [hI.nl]; omega)]
    rfl
   rw [this]
   exact fun h => by cases h.1
theorem Zj4 {k : KS} (h : ZgS wd k) : k.quiet wd = true := by
 unfold KS.quiet
 rw [Bool.and_eq_true, List.all_eq_true, List.all_eq_true]
 refine ⟨fun r hr => ?_, fun f _ => ?_⟩
 ·rw [List.all_eq_true]
  intro l hl
  rw [List.all_eq_true]
  intro i hi
  obtain ⟨a, ha⟩ := List.getElem?_of_mem hr
  obtain ⟨b, hb⟩ := List.getElem?_of_mem hl
  have e1 : k.net.getD a [] = r := by rw [List.getD_eq_getElem?_getD, ha]; rfl
  have e2 : k.q a b = l := by
   show (k.net.getD a []).getD b [] = l
   rw [e1, List.getD_eq_getElem?_getD, hb]
   rfl
  exact decide_eq_true (h.net a b i (by rw [e2]; exact hi))
 ·have hn := h.node f
  have hb : ((k.box f).all fun i => decide (i.Kind = 2)) = true := List.all_eq_true.2 fun i hi => decide_eq_true (h.boxes f i hi)
  have idle : ∀ q : List Msg, Zrm wd q → (!(ZjD q && decide ((hdM q).key.T < wd.End))) = true := by
   intro q h
   cases h1 : ZjD q with
   | false => rfl
   | true =>
    rw [decide_eq_false (fun h2 => h ⟨h1, h2⟩)]
    rfl
  rw [hb, Bool.true_and]
  cases hnd : k.node f with
  | slow N =>
   rw [hnd] at hn
   exact idle _ hn
  | bold N r t =>
   rw [hnd] at hn
   show ((!_) && _) = true
   rw [idle _ hn.1, hn.2]
   rfl
theorem Zsn {k : KS} (h : ZgS wd k) (N m : Nat) : ZgS wd (ZmK wd N m k) ∧ Zb5 wd k (ZmK wd N m k) :=
 Zsm (P := fun x => ZgS wd x ∧ Zb5 wd k x) (fun _ kind a b _ _ hx => ⟨(hx.1.do' kind a b).1, fun f => ((hx.1.do' kind a b).2 f).trans (hx.2 f)⟩) m ⟨h, fun _ => rfl⟩
theorem ZFQ : ((List.range 16).all fun r => ZsX 17 0 0 (r + 1)) = true := by kernel_rfl
theorem ZGh : ((List.range 16).all fun r => ZsX 17 0 1 (r + 1)) = true := by kernel_rfl
theorem ZGm : ((List.range 16).all fun r => ZsX 17 1 0 (r + 1)) = true := by kernel_rfl
theorem ZGp : ((List.range 16).all fun r => ZsX 17 1 1 (r + 1)) = true := by kernel_rfl
theorem Zwa : Zlf.map List.length = [3, 4] := by kernel_rfl
theorem Zvw : ((KS.init (Zb2 0 1) 8).box 0).length = 1 ∧ (KS.init (Zb2 0 1) 8).quiet (Zb2 0 1) = false := ⟨by kernel_rfl, by kernel_rfl⟩
def bit (x : Int) : Prop := x = 0 ∨ x = 1
theorem ZCx {a b : Int} (ha : bit a) (hb : bit b) {room : Nat} (hr : 1 ≤ room ∧ room ≤ 16) : ZsX 17 a b room = true := by
 have hm : room - 1 ∈ List.range 16 := List.mem_range.2 (by omega)
 have e : room - 1 + 1 = room := by omega
 rcases ha with rfl | rfl <;> rcases hb with rfl | rfl
 ·have := List.all_eq_true.1 ZFQ _ hm; rwa [e] at this
 ·have := List.all_eq_true.1 ZGh _ hm; rwa [e] at this
 ·have := List.all_eq_true.1 ZGm _ hm; rwa [e] at this
 ·have := List.all_eq_true.1 ZGp _ hm; rwa [e] at this
theorem Zqg {a b : Int} (hok : (Za4 (Zb2 a b)).2 = 0) (ha : bit a) (hb : bit b) {room : Nat} (hr : 1 ≤ room ∧ room ≤ 16) {m : Nat} (hm : 17 ≤ m) :
  ZgS (Zb2 a b) (ZmK (Zb2 a b) 2 m (KS.init (Zb2 a b) room)) ∧ Zpx (Zb2 a b) (ZmK (Zb2 a b) 2 m (KS.init (Zb2 a b) room)) = Zlf := by
 have h1 := ZCx ha hb hr
 unfold ZsX at h1
 rw [Bool.and_eq_true] at h1
 have hI : ZvV (Zb2 a b) (KS.init (Zb2 a b) room) := ⟨0, Ze1.init hok room⟩
 have hR := Zkd (hI.run (N := 2) (Nat.le_refl _) 17) h1.1
 obtain ⟨h2, h3⟩ := Zsn hR 2 (m - 17)
 rw [← Zn3, show 17 + (m - 17) = m from by omega] at h2 h3
 refine ⟨h2, ?_⟩
 rw [← of_decide_eq_true h1.2]
 unfold Zpx
 rw [h3 0, h3 1]
theorem Zsv {wd : Wd} {k : KS} (h : Zpx wd k = Zlf) : ((k.node 0).log wd 0).length = 3 ∧ ((k.node 1).log wd 1).length = 4 := by
 have h1 := Zwa
 rw [← h] at h1
 unfold Zpx at h1
 simp only [List.map_cons, List.map_nil, List.length_map, List.cons.injEq, and_true] at h1
 exact h1
variable {e w : World} {L Q R : List HP} {K : KV} {S S2 : HP} {k : KS} {M : KM} {p n f s : Nat}
theorem ZLK {x : WdX} (i : Nat) (hi : L[i]? = some S) (hS : Sat e w L) (hr : ∀ g, S g → ZtG x g) (hk : ∀ w' (b : Bool), Sat e w' L → (b = true → x.short) → K (.bool b) w') : Cl prog 12 #[.agg x.cs.toArray] w K := by
 refine ZJ1 ?_
 unfold ZJJ
 refine Yp (cs := x.cs) hS rfl fun b w1 h1 => ?_
 have hno : ∀ w', Sat e w' (blk b 25 x.cs :: L) → K (.bool false) w' := fun w' h' => hk w' false h'.drop (fun h => by cases h)
 refine Za (Zb h1 0 rfl (v := x.pv) rfl ?_)
 refine Zt h1 (i + 1) (by simpa using hi) (fun g hg => (hr g hg).par) ?_
 by_cases c1 : (50 : Int) < x.Parents.length
 ·refine ZtF (by omega) (Zd (Zd (Zd (Zd (Yv (Zi ?_))))))
  exact hno _ h1
 refine Zle c1 (Zj (Za (Zj (Zb h1 0 rfl (v := x.fv) rfl (Zj ?_)))))
 refine Zt h1 (i + 1) (by simpa using hi) (fun g hg => (hr g hg).feds) ?_
 by_cases c2 : (20 : Int) < x.Feds.length
 ·refine Ze (ZtF (by omega) (Yd (Zi ?_)))
  exact hno _ h1
 refine Zj (Zle c2 (Yd (Zf ?_)))
 rw [Zlz]
 refine Zdk (fun q t w => ∃ j : Nat, j ≤ x.Feds.length ∧ t = .int .i64 j ∧ q = x.Feds.length - j ∧ (∀ f ∈ x.Feds.take j, f.short) ∧ Sat e w (blk b 25 x.cs :: L)) x.Feds.length ⟨0, Nat.zero_le _, rfl, rfl, by simp, h1⟩ ?_
 rintro q _ w g ⟨j, hj, rfl, rfl, hall, h2⟩ hg
 refine Za (Zb h2 0 rfl (v := x.fv) rfl ?_)
 refine Zt h2 (i + 1) (by simpa using hi) (fun g hg => (hr g hg).feds) (Za7 (fun c => Zi ?_) (fun c => Zf ?_))
 ·obtain ⟨fd, hf⟩ := Zk (l := x.Feds) (j := j) (by omega)
  have hfm := List.mem_of_getElem? hf
  refine Za (Zb h2 0 rfl (v := x.fv) rfl ?_)
  refine Zw h2 (i + 1) (by simpa using hi) (fun g hg => (hr g hg).feds) (fun _ => rfl) hf fun a ha => (Ym h2 (i + 1) (by simpa using hi) ha rfl ?_)
  refine Yp (cs := [.int .i64 0, .int .i64 0, .int .i64 0, .slice none 0 0, .slice none 0 0, .slice none 0 0, .slice none 0 0]) h2 rfl fun t w5 h5 => (Zq h5 0 rfl (vs := fd.cs) rfl rfl (by simp) (Zc1 i hi hS fun g hg => (hr g hg).fed fd hfm) (cs' := fd.cs) (by rfl) fun w6 h6 => ?_)
  have hi6 : (blk t 76 fd.cs :: blk b 25 x.cs :: L)[i + 2]? = some S := by simpa using hi
  refine Za (Zb h6 0 rfl (v := fd.rv) rfl ?_)
  refine Zt h6 (i + 2) hi6 (fun g hg => ((hr g hg).fed fd hfm).rules.s) ?_
  by_cases d1 : (60 : Int) < fd.Rules.length
  ·refine ZtF (by omega) (Zd (Zd (Zd (Zd (Yv (Zd (Zd (Zd (Zd (Yv (Zd (Zd (Zd (Zd (Yv (Zi ?_))))))))))))))))
   exact hno _ h6.drop
  refine Zle d1 (Zj (Za (Zj (Zb h6 0 rfl (v := fd.pv) rfl (Zj ?_)))))
  refine Zt h6 (i + 2) hi6 (fun g hg => ((hr g hg).fed fd hfm).pubs) ?_
  by_cases d2 : (50 : Int) < fd.Pubs.length
  ·refine Ze (ZtF (by omega) (Yd (Zd (Zd (Zd (Zd (Yv (Zd (Zd (Zd (Zd (Yv (Zi ?_)))))))))))))
   exact hno _ h6.drop
  refine Zj (Zle d2 (Yd (Zj (Za (Zj (Zb h6 0 rfl (v := fd.sv) rfl (Zj ?_)))))))
  refine Zt h6 (i + 2) hi6 (fun g hg => ((hr g hg).fed fd hfm).subs) ?_
  by_cases d3 : (50 : Int) < fd.Subs.length
  ·refine Ze (ZtF (by omega) (Yd (Zd (Zd (Zd (Zd (Yv (Zi ?_))))))))
   exact hno _ h6.drop
  refine Zj (Zle d3 (Yd (Zj (Za (Zj (Zb h6 0 rfl (v := fd.iv) rfl (Zj ?_)))))))
  refine Zt h6 (i + 2) hi6 (fun g hg => ((hr g hg).fed fd hfm).init) ?_
  by_cases d4 : (20 : Int) < fd.Init.length
  ·refine Ze (ZtF (by omega) (Yd (Zi ?_)))
   exact hno _ h6.drop
  refine Zj (Zle d4 (Yd (Zf ?_)))
  refine Zdk (fun q t' w => ∃ n : Nat, n ≤ fd.Rules.length ∧ t' = .int .i64 n ∧ q = fd.Rules.length - n ∧ (∀ r ∈ fd.Rules.take n, r.Sends.length ≤ 1000) ∧ Sat e w (blk t 76 fd.cs :: blk b 25 x.cs :: L)) fd.Rules.length ⟨0, Nat.zero_le _, rfl, rfl, by simp, h6⟩ ?_
  rintro q _ w g2 ⟨n, hn, rfl, rfl, hall2, h7⟩ hg2
  refine Za (Zb h7 0 rfl (v := fd.rv) rfl ?_)
  refine Zt h7 (i + 2) hi6 (fun g hg => ((hr g hg).fed fd hfm).rules.s) (Za7 (fun c3 => Zi ?_) (fun c3 => Zf ?_))
  ·obtain ⟨r, hrn⟩ := Zk (l := fd.Rules) (j := n) (by omega)
   have hrm := List.mem_of_getElem? hrn
   refine Za (Zb h7 0 rfl (v := fd.rv) rfl ?_)
   refine Zw h7 (i + 2) hi6 (fun g hg => ((hr g hg).fed fd hfm).rules.s) (fun _ => rfl) hrn fun a ha => (Zbd ha fun a1 ha1 => ?_)
   refine Yt h7 (i + 2) hi6 ha1 (v := r.sv) rfl (Zt h7 (i + 2) hi6 (fun g hg => ((hr g hg).fed fd hfm).rules.e r hrm) ?_)
   refine Ztu (fun c4 => Zi (hno _ h7.drop)) (fun c4 => Zf (Yr (by omega) ?_))
   refine hg2 _ _ _ (by omega) ⟨n + 1, by omega, rfl, rfl, fun y hy => ?_, h7⟩
   rw [Zx hrn] at hy
   rcases List.mem_append.1 hy with h | h
   ·exact hall2 y h
   ·rw [List.mem_singleton.1 h]; omega
  ·have en : n = fd.Rules.length := by omega
   rw [en, List.take_length] at hall2
   refine Yr (by omega) (hg _ _ _ (by omega) ⟨j + 1, by omega, rfl, rfl, fun y hy => ?_, h7.drop⟩)
   rw [Zx hf] at hy
   rcases List.mem_append.1 hy with h | h
   ·exact hall y h
   ·rw [List.mem_singleton.1 h]
    exact ⟨by omega, by omega, by omega, by omega, hall2⟩
 ·have ej : j = x.Feds.length := by omega
  rw [ej, List.take_length] at hall
  exact hk _ true h2.drop fun _ => ⟨by omega, by omega, hall⟩
theorem Zud {u v : Value} {l : List Zak} (i j : Nat) (hi : L[i]? = some S) (hj : L[j]? = some S2) (hS : Sat e w L) (hr : ∀ g, S g → rdS 7 Zak.cs u l g) (hr2 : ∀ g, S2 g → rdS 7 Zak.cs v l g) (hl : l.length ≤ 1000000)
  (hk : ∀ w', Sat e w' L → K (.bool true) w') : Cl prog 25 #[u, v] w K := by
 refine Zd2 ?_
 unfold Zdv
 refine Zt hS i hi hr (Zt hS j hj hr2 ?_)
 refine ZoP rfl (Zf ?_)
 refine Zdk (fun q t w => ∃ n : Nat, n ≤ l.length ∧ t = .int .i64 n ∧ q = l.length - n ∧ Sat e w L) l.length ⟨0, Nat.zero_le _, rfl, rfl, hS⟩ ?_
 rintro q _ w g ⟨n, hn, rfl, rfl, h1⟩ hg
 refine Zt h1 i hi hr (Za7 (fun c => Zi ?_) (fun c => Zf (hk _ h1)))
 obtain ⟨y, hy⟩ := Zk (l := l) (j := n) (by omega)
 refine ZaY h1 fun w2 h2 => (Zw h2 i hi hr (fun _ => rfl) hy fun p hp => Ym h2 i hi hp rfl ?_)
 refine Zw h2 j hj hr2 (fun _ => rfl) hy fun p hp => Ym h2 j hj hp rfl (ZDr (ns := y.ns) (ms := y.ns) ZBQ ZDn ZFp (by decide) rfl ?_)
 rw [beq_self_eq_true]
 refine Zf (Yr (by omega) ?_)
 exact hg _ _ _ (by omega) ⟨n + 1, by omega, rfl, rfl, h2⟩
theorem ZND {u v : Value} {l m : List Zak} (i j : Nat) (hi : L[i]? = some S) (hj : L[j]? = some S2) (hS : Sat e w L) (hr : ∀ g, S g → rdS 7 Zak.cs u l g) (hr2 : ∀ g, S2 g → rdS 7 Zak.cs v (l ++ m) g) (hl : l.length ≤ 1000000)
  (hk : ∀ w', Sat e w' L → K (.bool true) w') : Cl prog 18 #[u, v] w K := by
 refine ZNx ?_
 unfold ZNv
 refine Zt hS i hi hr (Zt hS j hj hr2 (ZCA (by rw [List.length_append]; omega) (Ze (Ze (Ze (Ze (Zt hS i hi hr ?_)))))))
 refine Ze (ZD8 (hi := l.length) hS j hj hr2 (fun _ => rfl) (by rw [List.length_append]; omega) fun v' hv' => ?_)
 rw [List.take_left] at hv'
 exact Ze (Zud i j hi hj hS hr hv' hl fun w2 h2 => Yv (hk _ h2))
theorem Zmx : Zc4 Zv3 := ⟨by simp [Zv3], fun r hr => by
 simp only [Zv3, List.mem_cons, List.not_mem_nil, or_false] at hr
 rcases hr with rfl | rfl
 ·refine ⟨by decide, by decide, by decide, by decide, by decide, by decide, by decide, fun o ho => ?_⟩
  have : o = ⟨0, 2, 1⟩ := List.mem_singleton.1 ho
  rw [this]
  exact ⟨by decide, by decide, by decide, by decide, by decide, by decide⟩
 ·refine ⟨by decide, by decide, by decide, by decide, by decide, by decide, by decide, fun o ho => ?_⟩
  have : o = ⟨0, 3, 1⟩ := List.mem_singleton.1 ho
  rw [this]
  exact ⟨by decide, by decide, by decide, by decide, by decide, by decide⟩, by decide⟩
theorem Zsw {a b : Int} (ha : bit a) (hb : bit b) : (Za4 (Zb2 a b)).2 = 0 := by
 have ht : ZhY [-1] = 0 := by
  unfold ZhY
  refine if_pos ⟨by simp, by simp, fun i p hp => ?_⟩
  match i with
  | 0 => simp at hp; omega
  | i + 1 => simp at hp
 have h1 : Zre ⟨a, 2, 0, Zv3, [0], [0], [⟨0, 3, 0⟩]⟩ 1 = 0 := by
  rw [ZjK]
  rcases ha with rfl | rfl <;> simp [Zmx, ZaF, ZlW] <;> simp [Zca, ZbW, Zv3]
 have h2 : Zre ⟨b, 2, 0, Zv3, [0], [0], []⟩ 1 = 0 := by
  rw [ZjK]
  rcases hb with rfl | rfl <;> simp [Zmx, ZaF, ZlW] <;> simp [Zca, ZbW, Zv3]
 unfold Za4 Zb2
 rw [if_neg (by rw [ht]; decide), if_neg (by simp)]
 show (Zm3 1 0 _).2 = _
 rw [ZdR, if_neg (by rw [h1]; decide), ZdR, if_neg (by rw [h2]; decide)]
 rfl
theorem Zvy {a : Int} (ha : bit a) : i64 a := by rcases ha with rfl | rfl <;> rfl
theorem ZGe {a b : Int} (ha : bit a) (hb : bit b) (hS : Sat e w Q) (hk : ∀ (x : WdX) (S : HP) w', x.w = Zb2 a b → x.wf → x.short → (∀ g, S g → ZtG x g) → Sat e w' (S :: Q) → K (.agg x.cs.toArray) w') : Cl prog 32 #[.int .i64 a, .int .i64 b] w K := by
 refine Zed ?_
 unfold ZdY
 rw [ZqI]
 refine Yp (cs := [.slice none 0 0, .slice none 0 0, .int .i64 0]) hS rfl fun t0 w1 h1 => (Zaf (⟨0, 2, 1⟩ : Out).cs (by kernel_rfl) ?_)
 refine Zfk (⟨0, 2, 1⟩ : Out).cs h1 (by kernel_rfl) fun b3 w2 h2 => ?_
 obtain ⟨r0, hr0⟩ : ∃ r0 : Yg, r0 = ⟨0, 0, 1, .slice (some ⟨b3, 0, none⟩) 1 1, [⟨0, 2, 1⟩]⟩ := ⟨_, rfl⟩
 refine Zaf [.int .i64 0, .int .i64 0, .int .i64 1, .slice (some ⟨b3, 0, none⟩) 1 1] (by kernel_rfl) (Zaf (⟨0, 3, 1⟩ : Out).cs (by kernel_rfl) ?_)
 refine Zfk (⟨0, 3, 1⟩ : Out).cs h2 (by kernel_rfl) fun b7 w3 h3 => ?_
 obtain ⟨r1, hr1⟩ : ∃ r1 : Yg, r1 = ⟨1, 0, 0, .slice (some ⟨b7, 0, none⟩) 1 1, [⟨0, 3, 1⟩]⟩ := ⟨_, rfl⟩
 refine Zaf [.int .i64 1, .int .i64 0, .int .i64 0, .slice (some ⟨b7, 0, none⟩) 1 1] (by kernel_rfl) ?_
 have hrc : [r0, r1].flatMap Yg.cs = [.int .i64 0, .int .i64 0, .int .i64 1, .slice (some ⟨b3, 0, none⟩) 1 1, .int .i64 1, .int .i64 0, .int .i64 0, .slice (some ⟨b7, 0, none⟩) 1 1] := by rw [hr0, hr1]; rfl
 refine Zfk [.int .i64 0, .int .i64 0, .int .i64 1, .slice (some ⟨b3, 0, none⟩) 1 1, .int .i64 1, .int .i64 0, .int .i64 0, .slice (some ⟨b7, 0, none⟩) 1 1] h3 (by kernel_rfl) fun b9 w4 h4 => ?_
 rw [← hrc] at h4
 refine Zfk (Yi [-1]) h4 (by kernel_rfl) fun b10 w5 h5 => (Zfk (Yi [0]) h5 (by kernel_rfl) fun b12 w6 h6 => ?_)
 refine Zfk (Yi [0]) h6 (by kernel_rfl) fun b13 w7 h7 => (Zaf (⟨0, 3, 0⟩ : Out).cs (by kernel_rfl) ?_)
 refine Zfk (⟨0, 3, 0⟩ : Out).cs h7 (by kernel_rfl) fun b14 w8 h8 => ?_
 obtain ⟨f0, hf0⟩ : ∃ f0 : Zao, f0 = ⟨a, 2, 0, .slice (some ⟨b9, 0, none⟩) 2 2, [r0, r1], .slice (some ⟨b12, 0, none⟩) 1 1, [0], .slice (some ⟨b13, 0, none⟩) 1 1, [0], .slice (some ⟨b14, 0, none⟩) 1 1, [⟨0, 3, 0⟩]⟩ := ⟨_, rfl⟩
 refine Zaf [.int .i64 a, .int .i64 2, .int .i64 0, .slice (some ⟨b9, 0, none⟩) 2 2, .slice (some ⟨b12, 0, none⟩) 1 1, .slice (some ⟨b13, 0, none⟩) 1 1, .slice (some ⟨b14, 0, none⟩) 1 1] (by kernel_rfl) (Zfk (Yi [0]) h8 (by kernel_rfl) fun b15 w9 h9 => ?_)
 refine Zfk (Yi [0]) h9 (by kernel_rfl) fun b16 w10 h10 => ?_
 obtain ⟨f1, hf1⟩ : ∃ f1 : Zao, f1 = ⟨b, 2, 0, .slice (some ⟨b9, 0, none⟩) 2 2, [r0, r1], .slice (some ⟨b15, 0, none⟩) 1 1, [0], .slice (some ⟨b16, 0, none⟩) 1 1, [0], .slice none 0 0, []⟩ := ⟨_, rfl⟩
 refine Zaf [.int .i64 b, .int .i64 2, .int .i64 0, .slice (some ⟨b9, 0, none⟩) 2 2, .slice (some ⟨b15, 0, none⟩) 1 1, .slice (some ⟨b16, 0, none⟩) 1 1, .slice none 0 0] (by kernel_rfl) ?_
 obtain ⟨fc, hfc⟩ : ∃ fc : List Value, fc = [.int .i64 a, .int .i64 2, .int .i64 0, .slice (some ⟨b9, 0, none⟩) 2 2, .slice (some ⟨b12, 0, none⟩) 1 1, .slice (some ⟨b13, 0, none⟩) 1 1, .slice (some ⟨b14, 0, none⟩) 1 1, .int .i64 b, .int .i64 2, .int .i64 0, .slice (some ⟨b9, 0, none⟩) 2 2, .slice (some ⟨b15, 0, none⟩) 1 1, .slice (some ⟨b16, 0, none⟩) 1 1, .slice none 0 0] := ⟨_, rfl⟩
 have hcs : [f0, f1].flatMap Zao.cs = fc := by rw [hf0, hf1, hfc]; rfl
 refine Zfk fc h10 (by rw [hfc]; kernel_rfl) fun b21 w11 h11 => ?_
 rw [← hcs] at h11
 obtain ⟨x, hx⟩ : ∃ x : WdX, x = ⟨.slice (some ⟨b10, 0, none⟩) 1 1, [-1], .slice (some ⟨b21, 0, none⟩) 2 2, [f0, f1], 20⟩ := ⟨_, rfl⟩
 refine Zaf [.slice (some ⟨b10, 0, none⟩) 1 1, .slice (some ⟨b21, 0, none⟩) 2 2, .int .i64 20] (by kernel_rfl) ?_
 have hxc : [.slice (some ⟨b10, 0, none⟩) 1 1, .slice (some ⟨b21, 0, none⟩) 2 2, .int .i64 20] = x.cs := by rw [hx]; rfl
 refine Zq h11 10 rfl (vs := [.slice (some ⟨b10, 0, none⟩) 1 1, .slice (some ⟨b21, 0, none⟩) 2 2, .int .i64 20]) rfl rfl (by simp) (by simp [flat]) (cs' := [.slice (some ⟨b10, 0, none⟩) 1 1, .slice (some ⟨b21, 0, none⟩) 2 2, .int .i64 20]) (by rfl) fun w13 h13 => (Zo h13 10 (vs := [.slice (some ⟨b10, 0, none⟩) 1 1, .slice (some ⟨b21, 0, none⟩) 2 2, .int .i64 20]) rfl (by rfl) rfl ?_)
 rw [hxc]
 have h14 : Sat e w13 (Yh [blk b21 76 ([f0, f1].flatMap Zao.cs), blk b16 3 (Yi [0]), blk b15 3 (Yi [0]), blk b14 147 (⟨0, 3, 0⟩ : Out).cs, blk b13 3 (Yi [0]), blk b12 3 (Yi [0]), blk b10 3 (Yi [-1]), blk b9 78 ([r0, r1].flatMap Yg.cs), blk b7 147 (⟨0, 3, 1⟩ : Out).cs, blk b3 147 (⟨0, 2, 1⟩ : Out).cs] :: Q) :=
  Sat.join (l' := [_, _, _, _, _, _, _, _, _, _]) (h13.selR [_, _, _, _, _, _, _, _, _, _, _] [_, _, _, _, _, _, _, _, _, _] [0, 1, 2, 3, 4, 5, 6, 7, 8, 9] (by decide) rfl)
 refine hk x _ _ ?_ ?_ ?_ ?_ h14
 ·rw [hx, hf0, hf1, hr0, hr1]; rfl
 ·rw [hx, hf0, hf1, hr0, hr1]
  have h0 : ∀ n ∈ [(0 : Int)], i64 n := fun n hn => by rw [List.mem_singleton.1 hn]; rfl
  have hrw : ∀ r ∈ [(⟨0, 0, 1, .slice (some ⟨b3, 0, none⟩) 1 1, [⟨0, 2, 1⟩]⟩ : Yg), ⟨1, 0, 0, .slice (some ⟨b7, 0, none⟩) 1 1, [⟨0, 3, 1⟩]⟩], r.wf := fun r hr => by
   simp only [List.mem_cons, List.not_mem_nil, or_false] at hr
   rcases hr with rfl | rfl
   ·exact ⟨rfl, rfl, rfl, fun o ho => by rw [show o = ⟨0, 2, 1⟩ from List.mem_singleton.1 ho]; exact ⟨rfl, rfl, rfl⟩⟩
   ·exact ⟨rfl, rfl, rfl, fun o ho => by rw [show o = ⟨0, 3, 1⟩ from List.mem_singleton.1 ho]; exact ⟨rfl, rfl, rfl⟩⟩
  refine ⟨fun n hn => by rw [List.mem_singleton.1 hn]; rfl, fun f hf => ?_, rfl⟩
  simp only [List.mem_cons, List.not_mem_nil, or_false] at hf
  rcases hf with rfl | rfl
  ·exact ⟨Zvy ha, rfl, rfl, hrw, h0, h0, fun o ho => by rw [show o = ⟨0, 3, 0⟩ from List.mem_singleton.1 ho]; exact ⟨rfl, rfl, rfl⟩⟩
  ·exact ⟨Zvy hb, rfl, rfl, hrw, h0, h0, by simp⟩
 ·rw [hx, hf0, hf1, hr0, hr1]
  refine ⟨by simp, by simp, fun f hf => ?_⟩
  have hrs : ∀ r ∈ [(⟨0, 0, 1, .slice (some ⟨b3, 0, none⟩) 1 1, [⟨0, 2, 1⟩]⟩ : Yg), ⟨1, 0, 0, .slice (some ⟨b7, 0, none⟩) 1 1, [⟨0, 3, 1⟩]⟩], r.Sends.length ≤ 1000 := fun r hr => by
   simp only [List.mem_cons, List.not_mem_nil, or_false] at hr
   rcases hr with rfl | rfl
   ·show [(⟨0, 2, 1⟩ : Out)].length ≤ _
    simp
   ·show [(⟨0, 3, 1⟩ : Out)].length ≤ _
    simp
  simp only [List.mem_cons, List.not_mem_nil, or_false] at hf
  rcases hf with rfl | rfl
  ·exact ⟨by simp, by simp, by simp, by simp, hrs⟩
  ·exact ⟨by simp, by simp, by simp, by simp, hrs⟩
 ·intro g hg
  obtain ⟨g0, k0, s0⟩ := Yy (i := 0) hg rfl
  obtain ⟨g1, k1, s1⟩ := Yy (i := 1) hg rfl
  obtain ⟨g2, k2, s2⟩ := Yy (i := 2) hg rfl
  obtain ⟨g3, k3, s3⟩ := Yy (i := 3) hg rfl
  obtain ⟨g4, k4, s4⟩ := Yy (i := 4) hg rfl
  obtain ⟨g5, k5, s5⟩ := Yy (i := 5) hg rfl
  obtain ⟨g6, k6, s6⟩ := Yy (i := 6) hg rfl
  obtain ⟨g7, k7, s7⟩ := Yy (i := 7) hg rfl
  obtain ⟨g8, k8, s8⟩ := Yy (i := 8) hg rfl
  obtain ⟨g9, k9, s9⟩ := Yy (i := 9) hg rfl
  have nilR : ∀ {α : Type} (size : Nat) (f : α → List Value), rdS size f (.slice none 0 0) [] g := fun _ _ => ⟨none, 0, rfl, Nat.le_refl _, fun h => absurd h (by simp)⟩
  subst hx
  have hrr : Zew (.slice (some ⟨b9, 0, none⟩) 2 2) [r0, r1] g := ⟨Zbl s7 (Zbx (f := Yg.cs) [r0, r1] rfl (Nat.le_refl _) g7 k7), fun r hr => by
   simp only [List.mem_cons, List.not_mem_nil, or_false] at hr
   rcases hr with rfl | rfl
   ·subst hr0
    exact Zbl s9 (Zbx (f := Out.cs) [⟨0, 2, 1⟩] rfl (Nat.le_refl _) g9 k9)
   ·subst hr1
    exact Zbl s8 (Zbx (f := Out.cs) [⟨0, 3, 1⟩] rfl (Nat.le_refl _) g8 k8)⟩
  refine ⟨Zbl s6 (Zbx (f := Ye .i64) [-1] rfl (Nat.le_refl _) g6 k6), Zbl s0 (Zbx (f := Zao.cs) [f0, f1] rfl (Nat.le_refl _) g0 k0), fun f hf => ?_⟩
  simp only [List.mem_cons, List.not_mem_nil, or_false] at hf
  rcases hf with rfl | rfl
  ·subst hf0
   exact ⟨hrr, Zbl s5 (Zbx (f := Ye .i64) [0] rfl (Nat.le_refl _) g5 k5), Zbl s4 (Zbx (f := Ye .i64) [0] rfl (Nat.le_refl _) g4 k4), Zbl s3 (Zbx (f := Out.cs) [⟨0, 3, 0⟩] rfl (Nat.le_refl _) g3 k3)⟩
  ·subst hf1
   exact ⟨hrr, Zbl s2 (Zbx (f := Ye .i64) [0] rfl (Nat.le_refl _) g2 k2), Zbl s1 (Zbx (f := Ye .i64) [0] rfl (Nat.le_refl _) g1 k1), nilR _ _⟩
theorem Zgh {n' s' : Nat} (hn : n ≤ n') (hs : s ≤ s') (hS : Sat e w (Zby p wd k n s :: Q)) : Sat e w (Zby p wd k n' s' :: Q) := by
 obtain ⟨M, hI, h⟩ := ZpC hS
 exact ZkQ (hI.mono hs) (Zrf hn h)
theorem Zzh {kind a b : Nat} (h6 : kind ≤ 6) (ha : kind ≠ 4 → a < wd.Feds.length) (hb : kind = 2 → b < wd.Feds.length) : doK wd k ⟨(kind : Int), (a : Int), (b : Int)⟩ = k.do' wd kind a b := by
 unfold doK
 rw [if_neg]
 ·show k.do' wd (kind : Int).toNat (a : Int).toNat (b : Int).toNat = _
  rw [Int.toNat_natCast, Int.toNat_natCast, Int.toNat_natCast]
 ·rintro (h | h | h | h)
  ·have h : (kind : Int) < 0 := h
   omega
  ·have h : 6 < (kind : Int) := h
   omega
  ·obtain ⟨h1, h2⟩ := h
   have h1 : (kind : Int) ≠ 4 := h1
   have := ha (by omega)
   exact h2 ⟨by show (0 : Int) ≤ (a : Int); omega, by show (a : Int) < _; omega⟩
  ·obtain ⟨h1, h2⟩ := h
   have h1 : (kind : Int) = 2 := h1
   have := hb (by omega)
   exact h2 ⟨by show (0 : Int) ≤ (b : Int); omega, by show (b : Int) < _; omega⟩
theorem ZzD {kind a b : Nat} (h6 : kind ≤ 6) (ha : kind ≠ 4 → a < wd.Feds.length) (hb : kind = 2 → b < wd.Feds.length) (hs : s ≤ 1000000) (hn : n ≤ 1000) (hS : Sat e w (Zby p wd k n s :: Q))
  (hk : ∀ w', Sat e w' (Zby p wd (k.do' wd kind a b).2 (if kind = 0 then n + 1 else n) (s + 1) :: Q) → K (.int .i64 (k.do' wd kind a b).1) w') :
  Cl prog 17 #[pt p, .agg (⟨(kind : Int), (a : Int), (b : Int)⟩ : Zbs).cs.toArray] w K := by
 refine ZrZ hs hn hS fun w2 h2 => ?_
 rw [Zzh h6 ha hb] at h2 ⊢
 refine hk _ ?_
 have e1 : Zdq n ⟨(kind : Int), (a : Int), (b : Int)⟩ = if kind = 0 then n + 1 else n := by
  show (if (kind : Int) = 0 then n + 1 else n) = _
  by_cases h : kind = 0
  ·rw [if_pos h, if_pos (by omega)]
  ·rw [if_neg h, if_neg (by omega)]
 rw [e1] at h2
 exact h2
theorem ZlE {α : Type} (f : α → α) : ∀ (n : Nat) (x : α), rep f (n + 1) x = f (rep f n x)
 | 0, _ => rfl
 | n + 1, x => ZlE f n (f x)
theorem ZdV {α : Type} (g : α → Nat → α) (x : α) (n : Nat) : (List.range (n + 1)).foldl g x = g ((List.range n).foldl g x) n := by
 rw [List.range_succ, List.foldl_append]
 rfl
theorem Zs9 {a : Nat} (ha : a < wd.Feds.length) (hs : s + 24 ≤ 900000) (hn : n ≤ 1000) (hS : Sat e w (Zby p wd k n s :: Q)) {Kn : World → Prop} (hk : ∀ w', Sat e w' (Zby p wd (rep (fl1 a) 24 k) n (s + 24) :: Q) → Kn w') :
  lp [(Value.int IntKind.i64 0)] w (b1 fun t7 w g2 => bi .lss .i64 t7 (Value.int IntKind.i64 24) w fun t21 w => Zr t21
   (bld (Zl prog 37) #[(0, 1), (1, 1), (2, 1)] [(0, (Value.int IntKind.i64 1)), (1, .int .i64 (a : Int))] w fun t26 w => Cl prog 17 #[pt p, t26] w fun _ w => bi .add .i64 t7 (Value.int IntKind.i64 1) w fun t23 w => g2 [t23] w) (Kn w)) := by
 refine Zdk (fun z t w => ∃ j : Nat, j ≤ 24 ∧ t = .int .i64 j ∧ z = 24 - j ∧ Sat e w (Zby p wd (rep (fl1 a) j k) n (s + j) :: Q)) 24 ⟨0, Nat.zero_le _, rfl, rfl, hS⟩ ?_
 rintro z _ w g2 ⟨j, hj, rfl, rfl, h1⟩ hg
 refine Za7 (fun c => Zi ?_) (fun c => Zf ?_)
 ·refine Zaf (⟨((1 : Nat) : Int), (a : Int), ((0 : Nat) : Int)⟩ : Zbs).cs (by kernel_rfl) ?_
  refine ZzD (by omega) (fun _ => ha) (fun h => by omega) (by omega) hn h1 fun w2 h2 => ?_
  refine Yr (by omega) ?_
  refine hg _ _ _ (by omega) ⟨j + 1, by omega, rfl, rfl, ?_⟩
  rw [ZlE]
  exact h2
 ·have ej : j = 24 := by omega
  rw [ej] at h1
  exact hk _ h1
theorem ZpS {a b : Nat} {q : Bool × KS} (ha : a < wd.Feds.length) (hb : b < wd.Feds.length) (hs : s + 8 ≤ 900000) (hn : n ≤ 1000) (hS : Sat e w (Zby p wd q.2 n s :: Q)) {Kn : Value → World → Prop} (hk : ∀ w', Sat e w' (Zby p wd (rep (dl1 wd a b) 8 q).2 n (s + 8) :: Q) → Kn (.bool (rep (dl1 wd a b) 8 q).1) w') :
  lp [.bool q.1, (Value.int IntKind.i64 0)] w (b2 fun t5_2 t9 w g4 => bi .lss .i64 t9 (Value.int IntKind.i64 8) w fun t34 w => Zr t34
   (gd t5_2 true (fun k => k (pt p) w) w fun t39 w => gd t5_2 true (fun k => k (.int .i64 (a : Int)) w) w fun t40 w => gd t5_2 true (fun k => k (.int .i64 (b : Int)) w) w fun t41 w =>
   gd t5_2 true (fun k => bld (Zl prog 37) #[(0, 1), (1, 1), (2, 1)] [(0, (Value.int IntKind.i64 2)), (1, t40), (2, t41)] w k) w fun t42 w => gd t5_2 true (fun k => Cl prog 17 #[t39, t42] w k) w fun t43 w =>
   gd t5_2 true (fun k => bi .neq .i64 t43 (Value.int IntKind.i64 2) w k) w fun t44 w => pk t5_2 t44 (Value.bool false) w fun t45 w => bi .add .i64 t9 (Value.int IntKind.i64 1) w fun t36 w => g4 [t45, t36] w) (Kn t5_2 w)) := by
 refine ZjF (fun z t5 t9 w => ∃ j : Nat, j ≤ 8 ∧ t9 = .int .i64 j ∧ t5 = .bool (rep (dl1 wd a b) j q).1 ∧ z = 8 - j ∧ Sat e w (Zby p wd (rep (dl1 wd a b) j q).2 n (s + j) :: Q)) 8 ⟨0, Nat.zero_le _, rfl, rfl, rfl, hS⟩ ?_
 rintro z _ _ w g2 ⟨j, hj, rfl, rfl, rfl, h1⟩ hg
 have e1 := ZlE (dl1 wd a b) j q
 generalize hr : rep (dl1 wd a b) j q = r at *
 obtain ⟨q0, k0⟩ := r
 refine Za7 (fun c => Zi ?_) (fun c => Zf ?_)
 ·cases q0 with
  | true =>
   refine Ze (Ze (Ze (Ze (Zaf (⟨((2 : Nat) : Int), (a : Int), (b : Int)⟩ : Zbs).cs (by kernel_rfl) (Ze ?_)))))
   refine ZzD (by omega) (fun _ => ha) (fun _ => hb) (by omega) hn h1 fun w2 h2 => Ze (ZF7 (Yv (Yr (by omega) ?_)))
   have e2 : rep (dl1 wd a b) (j + 1) q = (!decide ((k0.deliver wd a b).1 = 2), (k0.deliver wd a b).2) := e1.trans (if_pos rfl)
   refine hg _ _ _ _ (by omega) ⟨j + 1, by omega, rfl, ?_, rfl, ?_⟩
   ·rw [e2]
    show Value.bool (decide (¬ (k0.deliver wd a b).1 = 2)) = .bool (!decide ((k0.deliver wd a b).1 = 2))
    by_cases h : (k0.deliver wd a b).1 = 2
    ·rw [decide_eq_true h, decide_eq_false (fun h' => h' h)]; rfl
    ·rw [decide_eq_false h, decide_eq_true h]; rfl
   ·rw [e2]; exact h2
  | false =>
   refine Zu (Zu (Zu (Zu (Zu (Zu (Yd (Yr (by omega) ?_)))))))
   have e2 : rep (dl1 wd a b) (j + 1) q = (false, k0) := e1.trans (if_neg (fun h => by cases (show false = true from h)))
   refine hg _ _ _ _ (by omega) ⟨j + 1, by omega, rfl, by rw [e2], rfl, ?_⟩
   rw [e2]
   exact Zgh (Nat.le_refl _) (by omega) h1
 ·have ej : j = 8 := by omega
  subst ej
  rw [hr] at hk
  exact hk _ h1
theorem ZuP {N : Nat} (hN : N ≤ wd.Feds.length) (h8 : wd.Feds.length ≤ 8) (hs : s + 2000 ≤ 900000) (hn : n + 8 ≤ 1000) (hS : Sat e w (Zby p wd k n s :: Q)) (hk : ∀ w', Sat e w' (Zby p wd (ZkX wd N k).2 (n + 8) (s + 2000) :: Q) → K (.bool (ZkX wd N k).1) w') :
  Cl prog 35 #[pt p, .int .i64 (N : Int)] w K := by
 refine ZdG ?_
 unfold Zc2
 refine ZjF (fun z t5 t6 w => ∃ j : Nat, j ≤ N ∧ t6 = .int .i64 j ∧ z = N - j ∧ t5 = .bool ((List.range j).foldl (fun p a => ZvX wd N a p) (true, k)).1 ∧ Sat e w (Zby p wd ((List.range j).foldl (fun p a => ZvX wd N a p) (true, k)).2 n (s + 88 * j) :: Q)) N ⟨0, Nat.zero_le _, rfl, rfl, rfl, hS⟩ ?_
 rintro z _ _ w1 g1 ⟨a, hj, rfl, rfl, rfl, h1⟩ hg1
 refine Za7 (fun c => Zi ?_) (fun c => Zf ?_)
 ·have hal : a < wd.Feds.length := by omega
  have e1 := ZdV (fun (p : Bool × KS) a => ZvX wd N a p) (true, k) a
  generalize (List.range a).foldl (fun (p : Bool × KS) a => ZvX wd N a p) (true, k) = q at *
  refine Zs9 hal (by omega) (by omega) h1 fun w2 h2 => ?_
  have e1 : (List.range (a + 1)).foldl (fun (p : Bool × KS) a => ZvX wd N a p) (true, k) = (List.range N).foldl (fun p b => rep (dl1 wd a b) 8 p) (q.1, rep (fl1 a) 24 q.2) := e1
  generalize rep (fl1 a) 24 q.2 = kf at *
  refine ZjF (fun z t5 t8 w => ∃ j : Nat, j ≤ N ∧ t8 = .int .i64 j ∧ z = N - j ∧ t5 = .bool ((List.range j).foldl (fun p b => rep (dl1 wd a b) 8 p) (q.1, kf)).1 ∧ Sat e w (Zby p wd ((List.range j).foldl (fun p b => rep (dl1 wd a b) 8 p) (q.1, kf)).2 n (s + 88 * a + 24 + 8 * j) :: Q)) N ⟨0, Nat.zero_le _, rfl, rfl, rfl, h2⟩ ?_
  rintro z _ _ w3 g3 ⟨b, hb, rfl, rfl, rfl, h3⟩ hg3
  refine Za7 (fun c2 => Zi ?_) (fun c2 => Zf ?_)
  ·have e2 := ZdV (fun (p : Bool × KS) b => rep (dl1 wd a b) 8 p) (q.1, kf) b
   generalize (List.range b).foldl (fun (p : Bool × KS) b => rep (dl1 wd a b) 8 p) (q.1, kf) = q2 at *
   refine ZpS hal (by omega) (by omega) (by omega) h3 fun w4 h4 => ?_
   refine Yr (by omega) ?_
   refine hg3 _ _ _ _ (by omega) ⟨b + 1, by omega, rfl, rfl, by rw [e2], ?_⟩
   rw [e2]
   exact Zgh (Nat.le_refl _) (by omega) h4
  ·have eb : b = N := by omega
   rw [eb] at h3 ⊢
   refine Yr (by omega) ?_
   refine hg1 _ _ _ _ (by omega) ⟨a + 1, by omega, rfl, rfl, by rw [e1], ?_⟩
   rw [e1]
   exact Zgh (Nat.le_refl _) (by omega) h3
 ·have ea : a = N := by omega
  rw [ea] at h1 ⊢
  unfold ZkX at hk
  dsimp only at hk
  generalize (List.range N).foldl (fun (p : Bool × KS) a => ZvX wd N a p) (true, k) = q at *
  refine ZjF (fun z t5 t10 w => ∃ j : Nat, j ≤ N ∧ t10 = .int .i64 j ∧ z = N - j ∧ t5 = .bool ((List.range j).foldl (ZBa wd) q).1 ∧ Sat e w (Zby p wd ((List.range j).foldl (ZBa wd) q).2 (n + j) (s + 88 * N + 2 * j) :: Q)) N ⟨0, Nat.zero_le _, rfl, rfl, rfl, h1⟩ ?_
  rintro z _ _ w5 g5 ⟨j, hj, rfl, rfl, rfl, h5⟩ hg5
  refine Za7 (fun c2 => Zi ?_) (fun c2 => Zf ?_)
  ·have hjl : j < wd.Feds.length := by omega
   have e2 := ZdV (ZBa wd) q j
   generalize (List.range j).foldl (ZBa wd) q = r at *
   obtain ⟨q0, k0⟩ := r
   refine Zp2 (by omega) h5 fun v w6 h6 => ?_
   have eo : ZDK wd k0 j = k0.box j := if_pos (by unfold inN; omega)
   rw [eo] at h6
   refine Zt h6 0 rfl (fun _ => Zp) (ZBD ?_)
   refine Zaf (⟨((0 : Nat) : Int), (j : Int), ((0 : Nat) : Int)⟩ : Zbs).cs (by kernel_rfl) ?_
   refine ZzD (by omega) (fun _ => hjl) (fun h => by omega) (by omega) (by omega) h6.drop fun w7 h7 => ?_
   have fin : ∀ {w : World}, Sat e w (Zby p wd (k0.step wd j).2 (n + j + 1) (s + 88 * N + 2 * j + 1) :: Q) →
     bld (Zl prog 37) #[(0, 1), (1, 1), (2, 1)] [(0, (Value.int IntKind.i64 3)), (1, .int .i64 (j : Int))] w fun t71 w => Cl prog 17 #[pt p, t71] w fun _ w => bi .add .i64 (.int .i64 (j : Int)) (Value.int IntKind.i64 1) w fun t50 w =>
      g5 [.bool (q0 && (!decide ((k0.step wd j).1 = 2) || !(k0.box j).isEmpty)), t50] w := by
    intro w h
    refine Zaf (⟨((3 : Nat) : Int), (j : Int), ((0 : Nat) : Int)⟩ : Zbs).cs (by kernel_rfl) ?_
    refine ZzD (by omega) (fun _ => hjl) (fun h => by omega) (by omega) (by omega) h fun w8 h8 => ?_
    refine Yr (by omega) ?_
    refine hg5 _ _ _ _ (by omega) ⟨j + 1, by omega, rfl, rfl, by rw [e2]; rfl, ?_⟩
    rw [e2]
    exact h8
   have he : (decide (((k0.box j).length : Int) = 0)) = (k0.box j).isEmpty := by
    cases k0.box j with
    | nil => rfl
    | cons x l => rw [decide_eq_false (by rw [List.length_cons]; omega)]; rfl
   rw [he]
   cases q0 with
   | false => exact Zu (Zu (Zu (Zrb (Zrb (Zu (Yd (fin h7)))))))
   | true =>
    refine Ze (Ze (ZF7 (Ze ?_)))
    have hst : (k0.do' wd 0 j 0) = k0.step wd j := rfl
    rw [hst]
    by_cases h2 : (k0.step wd j).1 = 2
    ·rw [decide_eq_false (fun h' => h' h2)]
     refine Zj (Zj (Zk5 (Ze (Yd (Yv ?_)))))
     have := fin h7
     rw [decide_eq_true h2] at this
     exact this
    ·rw [decide_eq_true h2]
     refine Zd (Zd (Ze (Yv (Yv ?_))))
     have := fin h7
     rw [decide_eq_false h2] at this
     exact this
  ·have ej : j = N := by omega
   rw [ej] at h5 ⊢
   generalize (List.range N).foldl (ZBa wd) q = r at *
   refine Zaf (⟨((4 : Nat) : Int), ((0 : Nat) : Int), ((0 : Nat) : Int)⟩ : Zbs).cs (by kernel_rfl) ?_
   refine ZzD (by omega) (fun h => absurd rfl h) (fun h => by omega) (by omega) (by omega) h5 fun w6 h6 => ?_
   have h6 : Sat e w6 (Zby p wd r.2.begin'.2 (n + N) (s + 88 * N + 2 * N + 1) :: Q) := h6
   refine Zdk (fun z t w => ∃ j : Nat, j ≤ N ∧ t = .int .i64 j ∧ z = N - j ∧ Sat e w (Zby p wd ((List.range j).foldl tr1 r.2.begin'.2) (n + N) (s + 88 * N + 2 * N + 1 + j) :: Q)) N ⟨0, Nat.zero_le _, rfl, rfl, h6⟩ ?_
   rintro z _ w7 g6 ⟨j, hj, rfl, rfl, h7⟩ hg6
   refine Za7 (fun c3 => Zi ?_) (fun c3 => Zf ?_)
   ·refine Zaf (⟨((5 : Nat) : Int), (j : Int), ((0 : Nat) : Int)⟩ : Zbs).cs (by kernel_rfl) ?_
    refine ZzD (by omega) (fun _ => by omega) (fun h => by omega) (by omega) (by omega) h7 fun w8 h8 => ?_
    refine Yr (by omega) ?_
    refine hg6 _ _ _ (by omega) ⟨j + 1, by omega, rfl, rfl, ?_⟩
    rw [ZdV]
    exact h8
   ·have ej : j = N := by omega
    rw [ej] at h7
    generalize (List.range N).foldl tr1 r.2.begin'.2 = k4 at *
    refine Zdk (fun z t w => ∃ j : Nat, j ≤ N ∧ t = .int .i64 j ∧ z = N - j ∧ Sat e w (Zby p wd ((List.range j).foldl (rp1 wd) k4) (n + N) (s + 88 * N + 3 * N + 1 + j) :: Q)) N ⟨0, Nat.zero_le _, rfl, rfl, Zgh (Nat.le_refl _) (by omega) h7⟩ ?_
    rintro z _ w8 g7 ⟨j, hj, rfl, rfl, h8⟩ hg7
    refine Za7 (fun c4 => Zi ?_) (fun c4 => Zf ?_)
    ·refine Zaf (⟨((6 : Nat) : Int), (j : Int), ((0 : Nat) : Int)⟩ : Zbs).cs (by kernel_rfl) ?_
     refine ZzD (by omega) (fun _ => by omega) (fun h => by omega) (by omega) (by omega) h8 fun w9 h9 => ?_
     refine Yr (by omega) ?_
     refine hg7 _ _ _ (by omega) ⟨j + 1, by omega, rfl, rfl, ?_⟩
     rw [ZdV]
     exact h9
    ·have ej : j = N := by omega
     rw [ej] at h8
     exact hk _ (Zgh (by omega) (by omega) h8)
theorem ZzB {wd : Wd} (h : (Za4 wd).2 = 0) {room : Int} (hr : 1 ≤ room ∧ room ≤ 16) : ZtU wd room = 0 := by
 unfold ZtU
 rw [if_neg (fun h' => h' h), if_pos hr]
theorem Zsk {a b : Int} {room : Nat} (ha : bit a) (hb : bit b) (hr : 1 ≤ room ∧ room ≤ 16) (hS : Sat e w Q) (hk : ∀ p w', Sat e w' (Zby p (Zb2 a b) (KS.init (Zb2 a b) room) 0 0 :: Q) → K (.tuple #[pt p, .int .i64 0]) w') :
  Cl prog 32 #[.int .i64 a, .int .i64 b] w fun t w => Cl prog 14 #[t, .int .i64 (room : Int)] w K := by
 refine ZGe ha hb hS fun x S w1 hx hwf hs hrd h1 => ?_
 have hE : ZtU x.w (room : Int) = 0 := by rw [hx]; exact ZzB (Zsw ha hb) (by omega)
 refine Zu2 (room := (room : Int)) 0 rfl h1 hrd hwf hs (fun h => absurd hE h) fun _ p w2 h2 => ?_
 rw [hx, Int.toNat_natCast] at h2
 exact hk p _ (h2.selR [_, _] [_] [0] (by decide) rfl)
theorem Zh9 {a b : Int} : (Zb2 a b).Feds.length = 2 := rfl
theorem ZvP {a b : Int} (k : KS) : ZBN (Zb2 a b) k 0 = (k.node 0).log (Zb2 a b) 0 := if_pos ⟨Int.le_refl 0, by rw [Zh9]; decide⟩
theorem ZvF {a b : Int} (k : KS) : ZBN (Zb2 a b) k 1 = (k.node 1).log (Zb2 a b) 1 := if_pos ⟨by decide, by rw [Zh9]; decide⟩
theorem Zu0 (hS : Sat e w Q) (hk : ∀ w', Sat e w' Q → K (.bool true) w') : Cl prog 13 #[] w K := by
 refine ZdB ?_
 unfold ZcY
 have h0 : bit 0 := .inl rfl
 have h1 : bit 1 := .inr rfl
 refine Zsk (room := 8) h0 h1 (by decide) hS fun p w1 hw1 => (Zam (Zal (ZoP rfl (Zj (Zj (ZmP _ (Yd (Zj (Zj ?_)))))))))
 obtain ⟨hb1, hb2⟩ := Zvw
 refine Zp2 (a := 0) (by omega) hw1 fun v w2 hw2 => ?_
 have eo : ZDK (Zb2 0 1) (KS.init (Zb2 0 1) 8) 0 = (KS.init (Zb2 0 1) 8).box 0 := if_pos ⟨Int.le_refl 0, by rw [Zh9]; decide⟩
 rw [eo] at hw2
 refine Zj (Zt hw2 0 rfl (fun _ => Zp) (Zj (ZoP (by rw [hb1]; rfl) (Yd (Zj (Zj ?_))))))
 refine Zc0 (by omega) hw2.drop fun w3 hw3 => ?_
 rw [hb2]
 refine Yd (Zf ?_)
 generalize hk0 : KS.init (Zb2 0 1) 8 = k0 at *
 refine Zdk (fun z t w => ∃ j : Nat, j ≤ 30 ∧ t = .int .i64 j ∧ z = 30 - j ∧ Sat e w (Zby p (Zb2 0 1) (ZmK (Zb2 0 1) 2 j k0) (8 * j) (2000 * j) :: Q)) 30 ⟨0, Nat.zero_le _, rfl, rfl, hw3⟩ ?_
 rintro z _ w4 g1 ⟨j, hj, rfl, rfl, hw4⟩ hg
 refine Za7 (fun c => Zi ?_) (fun c => Zf ?_)
 ·refine ZuP (N := 2) (by rw [Zh9]; decide) (by rw [Zh9]; decide) (by omega) (by omega) hw4 fun w5 hw5 => (Yr (by omega) ?_)
  refine hg _ _ _ (by omega) ⟨j + 1, by omega, rfl, rfl, ?_⟩
  rw [Zqk]
  exact hw5
 ·have ej : j = 30 := by omega
  subst ej
  obtain ⟨hR, hL⟩ := Zqg (Zsw h0 h1) h0 h1 (room := 8) (by decide) (m := 30) (by decide)
  rw [hk0] at hR hL
  have hq := Zj4 hR
  obtain ⟨l0, l1⟩ := Zsv hL
  generalize ZmK (Zb2 0 1) 2 30 k0 = k1 at *
  refine Zc0 (by omega) hw4 fun w5 hw5 => ?_
  rw [hq]
  refine Ze (Ze (ZdZ (a := 0) (by omega) hw5 fun v0 w6 hw6 => Ze (Zt hw6 0 rfl (fun _ => Zp) ?_)))
  rw [ZvP, l0]
  refine Ze (ZtF (by decide) (Yv (Ze (Ze (ZdZ (a := 1) (by omega) hw6.drop fun v1 w7 hw7 => Ze (Zt hw7 0 rfl (fun _ => Zp) ?_))))))
  rw [ZvF, l1]
  exact Ze (ZtF (by decide) (Yv (hk _ hw7.drop.drop)))
theorem Zxu (n : Nat) (o : Zbs) : Zdq n o ≤ n + 1 := by
 unfold Zdq
 split <;> omega
theorem ZJm {n : Int} (h : (Lit.int .u8 n).wf = true) : 0 ≤ n ∧ n ≤ 255 := by
 simp only [Lit.wf, IntKind.min, IntKind.max, IntKind.signed, IntKind.bits] at h
 simp at h
 omega
theorem ZJk {n : Int} (h : 0 ≤ n ∧ n ≤ 255) (hk : ∀ r : Nat, 1 ≤ r ∧ r ≤ 16 → K (.int .i64 (r : Int)) w) :
  cvI .i64 (.int .u8 n) w fun t w => bi .rem .i64 t (Value.int IntKind.i64 16) w fun t w => bi .add .i64 (Value.int IntKind.i64 1) t w K := by
 refine ZDy ?_
 rw [Zdl (by omega) (by omega)]
 refine Zwn (by decide) ?_
 have h1 : n.tmod 16 = n % 16 := Int.tmod_eq_emod_of_nonneg h.1
 rw [h1]
 refine ZcD (by omega) (by omega) ?_
 have h2 := hk (1 + n % 16).toNat (by omega)
 rwa [show (((1 + n % 16).toNat : Nat) : Int) = 1 + n % 16 from by omega] at h2
theorem ZK5 {x : WdX} {room : Value} (i : Nat) (hi : L[i]? = some S) (hS : Sat e w L) (hr : ∀ g, S g → ZtG x g) (hs : x.short) (hc : (Za4 x.w).2 ≠ 0)
  (hk : ∀ w', Sat e w' L → K (.tuple #[.pointer none, .int .i64 (Za4 x.w).2]) w') : Cl prog 15 #[.agg x.cs.toArray, room] w K := by
 refine ZKg ?_
 unfold ZKc
 refine Yp (cs := x.cs) hS rfl fun b w1 h1 => (Zo h1 0 (vs := x.cs) rfl (by rfl) rfl ?_)
 exact ZKG (x := x) (i + 1) (by simpa using hi) h1 hr hs fun w2 h2 => (Zam (Zal (Zng hc (Zi (hk _ h2.drop)))))
def ZMn (wd : Wd) (k : KS) (l : List Zbs) : KS := l.foldl (fun k o => (doK wd k o).2) k
theorem ZLb (k : KS) (l : List Zbs) (o : Zbs) : ZMn wd k (l ++ [o]) = (doK wd (ZMn wd k l) o).2 := by
 unfold ZMn
 rw [List.foldl_append]
 rfl
theorem ZL6 {s : Nat} (h : Ze1 wd k s) : ∀ l : List Zbs, Ze1 wd (ZMn wd k l) (s + l.length) := by
 intro l
 induction l using ZBf with
 | h0 => exact h
 | hs l o ih =>
  rw [ZLb, List.length_append]
  exact ih.doK o
theorem ZLo {st t : TypeId} {bytes : Nat} {sv u : Value} {l : List Value} {zero : Array Value} (T : TE prog st t 1 bytes) (hb : (l.length + 1) * bytes ≤ 140737488355328) (hu : u.cells.toList = [u] ∧ flat u = true) (hS : Sat e w (Zz t 1 one sv l :: Q))
  (hk : ∀ v' w', Sat e w' (Zz t 1 one v' (l ++ [u]) :: Q) → K v' w') : bsl t 1 1 zero [(0, u)] w fun y w => apS prog #[st, st] st sv y w K := by
 refine ZwC hu.1 rfl hS fun b w1 h1 => ?_
 refine Zcs T T.und (f := one) (l := l) (m := [u]) (fun _ => rfl) (fun x hx v hv => by
  rw [List.mem_singleton.1 hx] at hv
  rw [List.mem_singleton.1 hv]
  exact hu.2) h1.swap (Zfu (f := one) (Nat.le_refl _)) (by rw [List.length_singleton]; exact hb) fun v' w2 h2 => hk _ _ (h2.swap.drop)
theorem ZLJ {j : Nat} (hj : j < wd.Feds.length) (hS : Sat e w (Zby p wd k n s :: Q)) (hn : n ≤ 1000) : (ZBN wd k j).length ≤ 1000 := by
 obtain ⟨M, _, h1⟩ := ZpC hS
 have e1 : ZBN wd k j = (k.node j).log wd j := if_pos (by unfold inN; omega)
 rw [e1]
 have h2 := Sat.focus h1 j (Yk (F := fun f => ndH wd n f (k.node f) (M.ms f)) hj)
 cases hN : k.node j with
 | slow N =>
  rw [hN] at h2
  have h3 := (ZzP (n := (M.ms j).1) (wd := wd) (f := j) (N := N) (k := n) 0 h2 rfl).1
  exact Nat.le_trans h3.log hn
 | bold N r t =>
  rw [hN] at h2
  have h3 : Sat e w (ZfN (M.ms j) r t :: Ya (M.ms j).1 wd j (Zs wd j) N n :: _) := Sat.split (l' := [_, _]) h2
  exact Nat.le_trans (ZAT (ZqK 1 h3 rfl)) hn
theorem ZNh {n : Nat} {room : Int} (h1 : 1 ≤ n) (h2 : n ≤ 8) (h3 : 1 ≤ room) (h4 : room ≤ 16) (hS : Sat e w R)
  (hk : ∀ r w', Sat e w' R → K (.tuple #[pt r, .int .i64 0]) w') : Cl prog 46 #[.int .i64 n, .int .i64 room] w K := by
 refine ZMX ?_
 unfold ZMT
 have hnn : n * n ≤ 8 * 8 := Nat.mul_le_mul h2 h2
 have hc : ((n * n : Nat) : Int) = (n : Int) * n := Int.natCast_mul n n
 refine Ze7 (by omega) (Zj (Ze (Zle (by omega) (Yd (Zj (Ze (Ze7 (by omega) (Yd (Zj (Ze (Zle (by omega) (Yd (Zf ?_)))))))))))))
 refine ZGn (by omega) (by omega) ?_
 rw [← hc]
 refine Zyg ZFX (n := n * n) (by omega) hS one (fun _ => rfl) (.slice none 0 0) (by kernel_rfl) fun V w1 h5 => (Zaf [.int .i64 n, .int .i64 room, V] ?_ ?_)
 ·obtain ⟨A, c, rfl, _⟩ := h5.shape 0 rfl (fun _ => Zp)
  kernel_rfl
 exact Yp (cs := [.int .i64 n, .int .i64 room, V]) h5 rfl fun r w2 h6 => hk _ _ h6.drop.drop
theorem ZNj {n : Nat} {self : Int} (h1 : 1 ≤ n) (h2 : n ≤ 8) (h3 : 0 ≤ self) (h4 : self < n) (hS : Sat e w R)
  (hk : ∀ g w', Sat e w' R → K (.tuple #[pt g, .int .i64 0]) w') : Cl prog 97 #[.int .i64 n, .int .i64 self] w K := by
 refine ZM0 ?_
 unfold ZMR
 refine Ze7 (by omega) (Zj (Ze (Zle (by omega) (Yd (Zj (Ze (Ze7 (by omega) (Yd (Zj (Zj (Ze (ZnR (by omega) (Yd (Zf ?_))))))))))))))
 refine Zyg Zvs (by omega) hS (Ye .i64) (fun _ => rfl) 0 (by kernel_rfl) fun v w1 h1 => (Zaf [v, .int .i64 self, .int .i64 0] ?_ ?_)
 ·obtain ⟨A, c, rfl, _⟩ := h1.shape 0 rfl (fun _ => Zp)
  kernel_rfl
 exact Yp (cs := [v, .int .i64 self, .int .i64 0]) h1 rfl fun g w2 h2 => hk _ _ h2.drop.drop
theorem ZNk (hS : Sat e w R) (hk : ∀ p w', Sat e w' R → K (pt p) w') : Cl prog 99 #[] w K := by
 refine ZM4 ?_
 unfold ZMU
 exact Zaf [.int .i64 0, .slice none 0 0] (by kernel_rfl) (Yp (cs := [.int .i64 0, .slice none 0 0]) hS rfl fun p w1 h1 => hk p _ h1.drop)
theorem ZNq {n : Nat} (h1 : 1 ≤ n) (h2 : n ≤ 8) (hS : Sat e w R) (hk : ∀ g w', Sat e w' R → K (.tuple #[pt g, .int .i64 0]) w') : Cl prog 49 #[.int .i64 n] w K := by
 refine ZMZ ?_
 unfold ZMS
 refine Ze7 (by omega) (Zj (Ze (Zle (by omega) (Yd (Zf ?_)))))
 have tail : ∀ v1 v2 v3 w', Sat e w' (Zz 3 1 (Ye .i64) v1 (List.replicate n 0) :: Zz 4 1 bl v2 (List.replicate n false) :: Zz 4 1 bl v3 (List.replicate n false) :: R) →
   bld (Zl prog 137) #[(0, 1), (1, 1), (2, 1), (3, 2), (5, 1), (6, 1), (7, 1), (8, 1), (9, 1)] [(0, v1), (1, v2), (2, v3)] w' fun t16 w => al (Value.cells t16) 137 w fun t17 w => K (Value.tuple #[t17, (Value.int IntKind.i64 0)]) w := by
  intro v1 v2 v3 w' h
  obtain ⟨A1, c1, e1, _⟩ := h.shape 0 rfl (fun _ hg => Zp hg)
  obtain ⟨A2, c2, e2, _⟩ := h.shape 1 rfl (fun _ hg => Zp hg)
  obtain ⟨A3, c3, e3, _⟩ := h.shape 2 rfl (fun _ hg => Zp hg)
  exact Zaf [v1, v2, v3, .int .i64 0, .int .i64 0, .bool false, .int .i64 0, .int .i64 0, .int .i64 0, .int .i64 0] (by subst e1 e2 e3; kernel_rfl) (Yp (cs := [v1, v2, v3, .int .i64 0, .int .i64 0, .bool false, .int .i64 0, .int .i64 0, .int .i64 0, .int .i64 0]) h rfl fun g w2 h2 => hk _ _ h2.drop.drop.drop.drop)
 have mkI : ∀ {w : World} {L : List HP} {K : KV}, Sat e w L → (∀ v w', Sat e w' (Zz 3 1 (Ye .i64) v (List.replicate n 0) :: L) → K v w') → mkS prog 22 (.int .i64 (n : Int)) (.int .i64 (n : Int)) w K :=
  fun h hk => Zyg Zvs (by omega) h (Ye .i64) (fun _ => rfl) 0 (by kernel_rfl) hk
 have mkB : ∀ {w : World} {L : List HP} {K : KV}, Sat e w L → (∀ v w', Sat e w' (Zz 4 1 bl v (List.replicate n false) :: L) → K v w') → mkS prog 134 (.int .i64 (n : Int)) (.int .i64 (n : Int)) w K :=
  fun h hk => Zyg ZNn (by omega) h bl (fun _ => rfl) false (by kernel_rfl) hk
 have h0 := hS.drew
 refine ⟨?_, ?_, ?_⟩
 ·refine mkI h0 fun v1 w1 h1 => ⟨?_, ?_⟩
  ·exact mkB h1 fun v2 w2 h2 => mkB h2 fun v3 w3 h3 => tail _ _ _ _ (h3.selR [_, _, _] [_, _, _] [2, 1, 0] (by decide) rfl)
  ·exact mkB h1 fun v2 w2 h2 => mkB h2 fun v3 w3 h3 => tail _ _ _ _ (h3.selR [_, _, _] [_, _, _] [2, 0, 1] (by decide) rfl)
 ·refine mkB h0 fun v1 w1 h1 => ⟨?_, ?_⟩
  ·exact mkI h1 fun v2 w2 h2 => mkB h2 fun v3 w3 h3 => tail _ _ _ _ (h3.selR [_, _, _] [_, _, _] [1, 2, 0] (by decide) rfl)
  ·exact mkB h1 fun v2 w2 h2 => mkI h2 fun v3 w3 h3 => tail _ _ _ _ (h3.selR [_, _, _] [_, _, _] [0, 2, 1] (by decide) rfl)
 ·refine mkB h0 fun v1 w1 h1 => ⟨?_, ?_⟩
  ·exact mkI h1 fun v2 w2 h2 => mkB h2 fun v3 w3 h3 => tail _ _ _ _ (h3.selR [_, _, _] [_, _, _] [1, 0, 2] (by decide) rfl)
  ·exact mkB h1 fun v2 w2 h2 => mkI h2 fun v3 w3 h3 => tail _ _ _ _ (h3.selR [_, _, _] [_, _, _] [0, 1, 2] (by decide) rfl)
theorem ZNp {x : WdX} {n : Nat} {fd : Zao} (i : Nat) (hi : L[i]? = some S) (hS : Sat e w L) (hr : ∀ g, S g → ZtG x g) (hs : x.short) (hc : (Za4 x.w).2 = 0) (hfd : x.Feds[n]? = some fd)
  (hk : ∀ q c w', Sat e w' L → K (.tuple #[.pointer q, .int .i64 c]) w') : Cl prog 47 #[.agg x.cs.toArray, .int .i64 n] w K := by
 refine ZMY ?_
 unfold ZMP
 refine Yp (cs := x.cs) hS rfl fun b w1 h1 => (Zo h1 0 (vs := x.cs) rfl (by rfl) rfl ?_)
 refine ZKG (x := x) (i + 1) (by simpa using hi) h1 hr hs fun w2 h2 => (Zam (Zal (ZoP hc (Zf ?_))))
 have hn := (ZfI hc).n
 have hi2 : (blk b 25 x.cs :: L)[i + 1]? = some S := by simpa using hi
 have hwl : x.w.Feds.length = x.Feds.length := by simp [WdX.w]
 have hnl : n < x.Feds.length := (List.getElem?_eq_some_iff.1 hfd).1
 have hfdm := List.mem_of_getElem? hfd
 refine Ze7 (by omega) (Zj (Zj (Za (Zj (Zb h2 0 rfl (v := x.fv) rfl (Zj ?_))))))
 refine Zt h2 (i + 1) hi2 (fun g hg => (hr g hg).feds) (Zj (ZnR (by omega) (Yd ?_)))
 refine Zj (Za (Zj (Zb h2 0 rfl (v := x.fv) rfl (Zj (Zj ?_)))))
 refine Zw h2 (i + 1) hi2 (fun g hg => (hr g hg).feds) (fun _ => rfl) hfd fun p hp => (Zj (Zbd hp fun p1 hp1 => Zj (Yt h2 (i + 1) hi2 hp1 (v := .int .i64 fd.Kind) rfl ?_)))
 refine Zj (ZrP (fun d3 => Yd (Zi (hk none 1 _ h2.drop))) (fun d3 => Yd (Zf ?_)))
 refine Za (Zb h2 0 rfl (v := x.fv) rfl ?_)
 refine Zt h2 (i + 1) hi2 (fun g hg => (hr g hg).feds) (ZNj (n := x.Feds.length) (self := n) (by omega) (by omega) (by omega) (by omega) h2 fun g w3 h3 => ?_)
 refine Zam (Zal ?_)
 refine ZaY h3 fun w4 h4 => (Zo h4 0 (vs := x.cs) rfl (by rfl) rfl ?_)
 refine Za (Zb h4 0 rfl (v := x.fv) rfl ?_)
 refine Zw h4 (i + 1) hi2 (fun g hg => (hr g hg).feds) (fun _ => rfl) hfd fun p2 hp2 => (Zbd hp2 fun p3 hp3 => Yt h4 (i + 1) hi2 hp3 (v := .int .i64 fd.Start) rfl ?_)
 refine Za (Zb h4 0 rfl (v := x.fv) rfl ?_)
 refine Zw h4 (i + 1) hi2 (fun g hg => (hr g hg).feds) (fun _ => rfl) hfd fun p4 hp4 => (Zbd hp4 fun p5 hp5 => Yt h4 (i + 1) hi2 hp5 (v := fd.iv) rfl ?_)
 refine Zt h4 (i + 1) hi2 (fun g hg => ((hr g hg).fed fd hfdm).init) (ZM5 h4 fun q w5 h5' => ?_)
 have h5 := h5'.drop
 refine ⟨Yt h5 (i + 1) hi2 hp5 (v := fd.iv) rfl ⟨rfl, rfl⟩, Zb h5 0 rfl (v := x.fv) rfl ⟨rfl, rfl⟩, Yt h5 (i + 1) hi2 hp3 (v := .int .i64 fd.Start) rfl ⟨rfl, rfl⟩, Zb h5 0 rfl (v := x.fv) rfl ⟨rfl, rfl⟩, Zo h5 0 (vs := x.cs) rfl (by rfl) rfl ⟨rfl, rfl⟩, ?_⟩
 exact Zaf [x.pv, x.fv, .int .i64 x.End, .int .i64 n, .int .i64 fd.Start, .int .i64 fd.Init.length, pt g, pt q, .slice none 0 0] (by kernel_rfl) (Yp (cs := [x.pv, x.fv, .int .i64 x.End, .int .i64 n, .int .i64 fd.Start, .int .i64 fd.Init.length, pt g, pt q, .slice none 0 0]) h5 rfl fun r w6 h6 => hk _ _ _ h6.drop.drop)
abbrev ZNt (n : Nat) (x : WdX) (cs : List Value) (cv : Value) : HP := blk n 145 ([x.pv, x.fv, .int .i64 x.End] ++ cs ++ [cv, .slice none 0 0])
theorem ZNi {x : WdX} {n : Nat} {fd : Zao} (i : Nat) (hi : L[i]? = some S) (hS : Sat e w L) (hr : ∀ g, S g → ZtG x g) (hs : x.short) (hc : (Za4 x.w).2 = 0) (hfd : x.Feds[n]? = some fd)
  (hk : ∀ q c w', Sat e w' L → K (.tuple #[.pointer q, .int .i64 c]) w') : Cl prog 48 #[.agg x.cs.toArray, .int .i64 n] w K := by
 refine ZM2 ?_
 unfold ZMW
 refine Yp (cs := x.cs) hS rfl fun b w1 h1 => (Zo h1 0 (vs := x.cs) rfl (by rfl) rfl ?_)
 refine ZKG (x := x) (i + 1) (by simpa using hi) h1 hr hs fun w2 h2 => (Zam (Zal (ZoP hc (Zf ?_))))
 have hn := (ZfI hc).n
 have hi2 : (blk b 25 x.cs :: L)[i + 1]? = some S := by simpa using hi
 have hwl : x.w.Feds.length = x.Feds.length := by simp [WdX.w]
 have hnl : n < x.Feds.length := (List.getElem?_eq_some_iff.1 hfd).1
 have hfdm := List.mem_of_getElem? hfd
 refine Ze7 (by omega) (Zj (Zj (Za (Zj (Zb h2 0 rfl (v := x.fv) rfl (Zj ?_))))))
 refine Zt h2 (i + 1) hi2 (fun g hg => (hr g hg).feds) (Zj (ZnR (by omega) (Yd ?_)))
 refine Zj (Za (Zj (Zb h2 0 rfl (v := x.fv) rfl (Zj (Zj ?_)))))
 refine Zw h2 (i + 1) hi2 (fun g hg => (hr g hg).feds) (fun _ => rfl) hfd fun p hp => (Zj (Zbd hp fun p1 hp1 => Zj (Yt h2 (i + 1) hi2 hp1 (v := .int .i64 fd.Kind) rfl ?_)))
 refine Zj (ZrP (fun d3 => Yd (Zi (hk none 1 _ h2.drop))) (fun d3 => Yd (Zf ?_)))
 refine ZaY h2 fun w4 h4 => (Zo h4 0 (vs := x.cs) rfl (by rfl) rfl ?_)
 refine Za (Zb h4 0 rfl (v := x.fv) rfl ?_)
 refine Zw h4 (i + 1) hi2 (fun g hg => (hr g hg).feds) (fun _ => rfl) hfd fun p2 hp2 => (Zbd hp2 fun p3 hp3 => Yt h4 (i + 1) hi2 hp3 (v := .int .i64 fd.Start) rfl ?_)
 refine Za (Zb h4 0 rfl (v := x.fv) rfl ?_)
 refine Zw h4 (i + 1) hi2 (fun g hg => (hr g hg).feds) (fun _ => rfl) hfd fun p4 hp4 => (Zbd hp4 fun p5 hp5 => Yt h4 (i + 1) hi2 hp5 (v := fd.iv) rfl ?_)
 refine Zt h4 (i + 1) hi2 (fun g hg => ((hr g hg).fed fd hfdm).init) ?_
 have o5 : ∀ {w'} {A : Prop}, Sat e w' (blk b 25 x.cs :: L) → A →
   ((ld1 (.pointer (some p5)) w' (fun v' w'' => v' = fd.iv ∧ w'' = w')) ∧ ((ld1 (.pointer (some ⟨b, 0 + 1, none⟩)) w' (fun v' w'' => v' = x.fv ∧ w'' = w')) ∧ ((ld1 (.pointer (some p3)) w' (fun v' w'' => v' = .int .i64 fd.Start ∧ w'' = w')) ∧ ((ld1 (.pointer (some ⟨b, 0 + 1, none⟩)) w' (fun v' w'' => v' = x.fv ∧ w'' = w')) ∧ ((ldN 3 (.pointer (some ⟨b, 0, none⟩)) w' (fun v' w'' => v' = .agg x.cs.toArray ∧ w'' = w')) ∧ A))))) := fun h' hA =>
  ⟨Yt h' (i + 1) hi2 hp5 (v := fd.iv) rfl ⟨rfl, rfl⟩, Zb h' 0 rfl (v := x.fv) rfl ⟨rfl, rfl⟩, Yt h' (i + 1) hi2 hp3 (v := .int .i64 fd.Start) rfl ⟨rfl, rfl⟩, Zb h' 0 rfl (v := x.fv) rfl ⟨rfl, rfl⟩, Zo h' 0 (vs := x.cs) rfl (by rfl) rfl ⟨rfl, rfl⟩, hA⟩
 refine ZM5 h4 fun q w5 h5 => o5 h5.drop (ZNk h5.drop fun p w6 h6 => o5 h6 ?_)
 refine ZM6 h6 fun g w7 h7 => o5 h7.drop (Zaf ([x.pv, x.fv, .int .i64 x.End] ++ [.int .i64 n, .int .i64 fd.Start, .int .i64 fd.Init.length, pt q, pt p, pt g] ++ [.slice none 0 0, .slice none 0 0]) (by kernel_rfl) ?_)
 generalize hcs : [Value.int .i64 n, .int .i64 fd.Start, .int .i64 fd.Init.length, pt q, pt p, pt g] = cs
 have h9' := h7.drop
 refine Yp (cs := [x.pv, x.fv, .int .i64 x.End] ++ cs ++ [.slice none 0 0, .slice none 0 0]) h9' (by rw [← hcs]; rfl) fun r w8 h8 => ?_
 have h9 := h8.own_nil 3 1 (Ye .i64)
 refine Zdk (fun mm t9 w => ∃ (j : Nat) (cv : Value) (l : List Int), l.length = j ∧ j ≤ x.Feds.length ∧ t9 = .int .i64 j ∧ mm = x.Feds.length - j ∧ Sat e w (Zz 3 1 (Ye .i64) cv l :: ZNt r x cs cv :: blk b 25 x.cs :: L)) x.Feds.length
  ⟨0, .slice none 0 0, [], rfl, Nat.zero_le _, rfl, rfl, h9⟩ ?_
 subst hcs
 rintro mm _ w9 g1 ⟨j, cv, l, hl, hj, rfl, rfl, h10⟩ hg1
 have hi6 : ∀ {A1 A2 A3 : HP}, (A1 :: A2 :: A3 :: L)[i + 3]? = some S := fun {_ _ _} => by simpa using hi
 refine Za (Zb h10 2 rfl (v := x.fv) rfl ?_)
 refine Zt h10 (i + 3) hi6 (fun g hg => (hr g hg).feds) (Za7 (fun c => Zi ?_) (fun c => Zf (hk _ _ _ h10.drop.drop.drop)))
 obtain ⟨fj, hfj⟩ := Zk (l := x.Feds) (j := j) (by omega)
 refine J0.cut (fun w => ∃ cv' l', l'.length = j + 1 ∧ Sat e w (Zz 3 1 (Ye .i64) cv' l' :: ZNt r x [Value.int .i64 n, .int .i64 fd.Start, .int .i64 fd.Init.length, pt q, pt p, pt g] cv' :: blk b 25 x.cs :: L)) (fun k2 hk2 => ?_) ?_
 ·refine Zh (Za (Zb h10 1 rfl (v := cv) rfl ?_))
  refine Zj7 Zvs (f := Ye .i64) (fun _ => rfl) Zmu h10 (x := -1) rfl (by omega) fun cv' w10 h11 => ?_
  have q1 := h11.own_cells 0 rfl
  refine Zh (Za (Zq h11 1 rfl (vs := [cv']) q1.1 rfl (Nat.le_of_ble_eq_true rfl) (fun c hc => by rw [List.mem_singleton.1 hc]; exact q1.2) (cs' := [x.pv, x.fv, .int .i64 x.End] ++ [Value.int .i64 n, .int .i64 fd.Start, .int .i64 fd.Init.length, pt q, pt p, pt g] ++ [cv', .slice none 0 0]) (by rfl) fun w11 h12 => ?_))
  refine Za (Zb h12 2 rfl (v := x.fv) rfl ?_)
  refine Zw h12 (i + 3) hi6 (fun g hg => (hr g hg).feds) (fun _ => rfl) hfj fun a ha => Zbd ha fun a1 ha1 => Yt h12 (i + 3) hi6 ha1 (v := .int .i64 fj.Kind) rfl (ZoR (fun c2 => Zi ?_) (fun c2 => Zf ?_))
  ·refine Zh (Za (Zb h12 1 rfl (v := cv') rfl ?_))
   exact ZdJ h12 0 rfl (fun _ => rfl) (by rw [List.length_append, hl]; simp) (x := 0) rfl (Zmu _) fun w12 h13 => (hk2 _ ⟨cv', _, by rw [List.length_set, List.length_append, hl]; rfl, h13⟩)
  ·exact hk2 _ ⟨cv', _, by rw [List.length_append, hl]; rfl, h12⟩
 ·rintro w10 ⟨cv', l', hl', h11⟩
  exact Yr (by omega) (hg1 _ _ _ (by omega) ⟨j + 1, cv', l', hl', by omega, rfl, rfl, h11⟩)
abbrev BX (x : WdX) (xv : Value) : HP := Zz 53 1 one xv (List.replicate x.Feds.length (.slice none 0 0))
abbrev rk (x : WdX) (a b c d e f g : Value) : List Value := [x.pv, x.fv, .int .i64 x.End, a, b, c, d, e, f, g]
abbrev NA (v : Value) (l : List Value) : HP := Zz 113 1 one v l
abbrev NB (v : Value) (l : List Value) : HP := Zz 116 1 one v l
abbrev NI (v : Value) (l : List Int) : HP := Zz 3 1 (Ye .i64) v l
abbrev RK (p : Nat) (x : WdX) (sv bv rv xv tv cv : Value) (g : Nat) : HP := blk p 112 (rk x sv bv rv xv tv (pt g) cv)
abbrev BO (b : Nat) (x : WdX) : HP := blk b 25 x.cs
abbrev DX (x : WdX) (us : Nat → Value) (ls : Nat → List Zn) : List HP := (List.range x.Feds.length).map fun f => DI (us f) (ls f)
abbrev MS (v : Value) (l : List Msg) : HP := Zz 47 6 Msg.cs v l
abbrev T3 (u v z : Value) (l m : List Value) (r : List Int) (R : List HP) : List HP := NA u l :: NB v m :: NI z r :: R
abbrev S0 : Value := .slice none 0 0
abbrev VF (m : Msg) : Value := .int .i64 m.key.From
theorem ZNK {α : Type} {l : List α} {x : α} {j : Nat} (h : l.length = j) : (l ++ [x]).length = j + 1 := by rw [List.length_append, h]; rfl
theorem ZNm {x : WdX} {room : Int} (i : Nat) (hi : L[i]? = some S) (hS : Sat e w L) (hr : ∀ g, S g → ZtG x g) (hs : x.short) (hc : (Za4 x.w).2 = 0) (hrm : 1 ≤ room ∧ room ≤ 16)
  (hk : ∀ p w', Sat e w' L → K (.tuple #[pt p, .int .i64 0]) w') : Cl prog 15 #[.agg x.cs.toArray, .int .i64 room] w K := by
 refine ZKg ?_
 unfold ZKc
 refine Yp (cs := x.cs) hS rfl fun b w1 h1 => ?_
 have hi1 : (BO b x :: L)[i + 1]? = some S := by simpa using hi
 refine Zo h1 0 (vs := x.cs) rfl (by rfl) rfl (ZKG (x := x) (i + 1) hi1 h1 hr hs fun w2 h2 => ?_)
 refine Zam (Zal (ZoP hc (Zf ?_)))
 have hwd := ZfI hc
 have hn8 := hwd.n
 have hxl : x.w.Feds.length = x.Feds.length := by simp [WdX.w]
 refine Za (Zb h2 0 rfl (v := x.fv) rfl (Zt h2 (i + 1) hi1 (fun g hg => (hr g hg).feds) ?_))
 refine ZNh (by omega) (by omega) hrm.1 hrm.2 h2 fun g w3 h3 => (Zam (Zal (ZoP rfl (Zf ?_))))
 refine ZaY h3 fun w4 h4 => (Zo h4 0 (vs := x.cs) rfl (by rfl) rfl ?_)
 refine Za (Zb h4 0 rfl (v := x.fv) rfl (Zt h4 (i + 1) hi1 (fun g hg => (hr g hg).feds) ?_))
 refine Za (Zb h4 0 rfl (v := x.fv) rfl (Zt h4 (i + 1) hi1 (fun g hg => (hr g hg).feds) ?_))
 have mkI : ∀ {w : World} {L : List HP} {K : KV}, Sat e w L → (∀ v w', Sat e w' (Zz 3 1 (Ye .i64) v (List.replicate x.Feds.length 0) :: L) → K v w') → mkS prog 22 (.int .i64 (x.Feds.length : Int)) (.int .i64 (x.Feds.length : Int)) w K :=
  fun h hk => Zyg Zvs (by omega) h (Ye .i64) (fun _ => rfl) 0 (by kernel_rfl) hk
 have mkX : ∀ {w : World} {L : List HP} {K : KV}, Sat e w L → (∀ v w', Sat e w' (Zz 53 1 one v (List.replicate x.Feds.length S0) :: L) → K v w') → mkS prog 55 (.int .i64 (x.Feds.length : Int)) (.int .i64 (x.Feds.length : Int)) w K :=
  fun h hk => Zyg ZFX (by omega) h one (fun _ => rfl) S0 (by kernel_rfl) hk
 have o2 : ∀ {l' : List HP} {w'} {A : Prop} (j : Nat), Sat e w' l' → l'[j]? = some (BO b x) → A → ((ld1 (.pointer (some ⟨b, 0 + 1, none⟩)) w' (fun v' w'' => v' = x.fv ∧ w'' = w')) ∧ ((ldN 3 (.pointer (some ⟨b, 0, none⟩)) w' (fun v' w'' => v' = .agg x.cs.toArray ∧ w'' = w')) ∧ A)) := fun j h' hj hA =>
  ⟨Zb h' j hj (v := x.fv) rfl ⟨rfl, rfl⟩, Zo h' j hj (vs := x.cs) rfl (by rfl) ⟨rfl, rfl⟩, hA⟩
 refine ⟨mkI h4 fun tv w5 h5 => o2 1 h5 rfl (mkX h5 fun xv w6 h6 => o2 2 h6 rfl ?_), mkX h4 fun xv w5 h5 => o2 1 h5 rfl (mkI h5 fun tv w6 h6 => o2 2 h6 rfl ?_)⟩
 all_goals
  refine Zaf [x.pv, x.fv, .int .i64 x.End, S0, S0, S0, xv, tv, pt g, .pointer none] ?_ ?_
  ·obtain ⟨A1, c1, rfl, _⟩ := h6.shape 0 rfl (fun _ => Zp)
   obtain ⟨A2, c2, rfl, _⟩ := h6.shape 1 rfl (fun _ => Zp)
   kernel_rfl
  have h7 : Sat e w6 (BX x xv :: BO b x :: L) := by
   first
    | exact h6.selR [_, _, _] [_, _] [0, 2] (by decide) rfl
    | exact h6.selR [_, _, _] [_, _] [1, 2] (by decide) rfl
  clear h6 h5
  refine Yp (cs := (rk x S0 S0 S0 xv tv (pt g) (.pointer none))) h7 rfl fun p w8 h8 => ?_
  have h9 : Sat e w8 (RK p x S0 S0 S0 xv tv (.pointer none) g :: NA S0 [] :: NB S0 [] :: Zz 3 1 (Ye .i64) S0 [] :: BX x xv :: BO b x :: L) :=
   (((h8.own_nil 3 1 (Ye .i64)).own_nil 116 1 one).own_nil 113 1 one).selR [_, _, _, _] [_, _, _, _] [3, 0, 1, 2] (by decide) rfl
  refine ZjF (fun z t11 t12 w => ∃ (j c : Nat) (sv bv rv : Value) (ls lb : List Value) (lr : List Int), j ≤ x.Feds.length ∧ c ≤ j ∧ t12 = .int .i64 j ∧ t11 = .int .i64 c ∧ z = x.Feds.length - j ∧ ls.length = j ∧ lb.length = j ∧ lr.length = j ∧
   Sat e w (RK p x sv bv rv xv tv (.pointer none) g :: T3 sv bv rv ls lb lr (BX x xv :: BO b x :: L))) x.Feds.length
   ⟨0, 0, _, _, _, [], [], [], Nat.zero_le _, Nat.le_refl _, rfl, rfl, rfl, rfl, rfl, rfl, h9⟩ ?_
  rintro z _ _ w10 g1 ⟨j, c, sv, bv, rv, ls, lb, lr, hj, hcj, rfl, rfl, rfl, e1, e2, e3, h10⟩ hg1
  have hi6 : ∀ {A B C D E F : HP}, (A :: B :: C :: D :: E :: F :: L)[i + 6]? = some S := by simpa using hi
  refine Za (Zb h10 5 rfl (v := x.fv) rfl (Zt h10 (i + 6) hi6 (fun g hg => (hr g hg).feds) ?_))
  refine Za7 (fun c0 => Zi ?_) (fun c0 => Zf ?_)
  ·obtain ⟨fx, hfx⟩ := Zk (l := x.Feds) (j := j) (by omega)
   refine J1.cut (fun t11 w => ∃ (c : Nat) (sv bv rv : Value) (ls lb : List Value) (lr : List Int), c ≤ j + 1 ∧ t11 = .int .i64 c ∧ ls.length = j + 1 ∧ lb.length = j + 1 ∧ lr.length = j + 1 ∧
    Sat e w (RK p x sv bv rv xv tv (.pointer none) g :: T3 sv bv rv ls lb lr (BX x xv :: BO b x :: L))) (fun k2 hcut => ?_) ?_
   ·refine Zo h10 5 (vs := x.cs) rfl (by rfl) rfl (ZNp (i + 6) hi6 h10 hr hs hc hfx fun q _ w11 h11 => Zam (Zal ?_))
    refine Zo h11 5 (vs := x.cs) rfl (by rfl) rfl (ZNi (i + 6) hi6 h11 hr hs hc hfx fun q2 _ w12 h12 => Zam (Zal (Zh (Za (Zb h12 0 rfl (v := sv) rfl ?_)))))
    refine ZLo ZNo (by omega) ⟨rfl, rfl⟩ (h12.pick 1 rfl) fun sv' w13 h13 => ?_
    have q1 := h13.own_cells 0 rfl
    refine Zh (Za (Zpm h13 1 rfl q1 (Nat.le_of_ble_eq_true rfl) (cs' := (rk x sv' bv rv xv tv (pt g) (.pointer none))) rfl fun w14 h14 => ?_))
    refine Zh (Za (Zb h14 1 rfl (v := bv) rfl ?_))
    refine ZLo ZNl (by omega) ⟨rfl, rfl⟩ (h14.pick 2 rfl) fun bv' w15 h15 => ?_
    have q2' := h15.own_cells 0 rfl
    refine Zh (Za (Zpm h15 2 rfl q2' (Nat.le_of_ble_eq_true rfl) (cs' := (rk x sv' bv' rv xv tv (pt g) (.pointer none))) rfl fun w16 h16 => ?_))
    cases q2 with
    | none =>
     refine Ztj (Zi (Zh (Za (Zb h16 2 rfl (v := rv) rfl ?_))))
     refine Zj7 Zvs (f := Ye .i64) (fun _ => rfl) Zmu (h16.pick 3 rfl) (x := -1) rfl (by omega) fun rv' w17 h17 => ?_
     have q3 := h17.own_cells 0 rfl
     refine Zh (Za (Zpm h17 3 rfl q3 (Nat.le_of_ble_eq_true rfl) (cs' := (rk x sv' bv' rv' xv tv (pt g) (.pointer none))) rfl fun w18 h18 => ?_))
     exact hcut _ _ ⟨c, sv', bv', rv', _, _, _, by omega, rfl, ZNK e1, ZNK e2, ZNK e3, h18.selR [_, _, _, _] [_, _, _, _] [3, 2, 1, 0] (by decide) rfl⟩
    | some a =>
     refine ZmP _ (Zf (Zh (Za (Zb h16 2 rfl (v := rv) rfl ?_))))
     refine Zj7 Zvs (f := Ye .i64) (fun _ => rfl) Zmu (h16.pick 3 rfl) (x := (c : Int)) rfl (by omega) fun rv' w17 h17 => ?_
     have q3 := h17.own_cells 0 rfl
     refine Zh (Za (Zpm h17 3 rfl q3 (Nat.le_of_ble_eq_true rfl) (cs' := (rk x sv' bv' rv' xv tv (pt g) (.pointer none))) rfl fun w18 h18 => Yr (by omega) ?_))
     exact hcut _ _ ⟨c + 1, sv', bv', rv', _, _, _, by omega, rfl, ZNK e1, ZNK e2, ZNK e3, h18.selR [_, _, _, _] [_, _, _, _] [3, 2, 1, 0] (by decide) rfl⟩
   ·rintro _ w11 ⟨c', sv', bv', rv', ls', lb', lr', hc', rfl, f1, f2, f3, h11⟩
    exact Yr (by omega) (hg1 _ _ _ _ (by omega) ⟨j + 1, c', sv', bv', rv', ls', lb', lr', by omega, hc', rfl, rfl, rfl, f1, f2, f3, h11⟩)
  have h11 : Sat e w10 (RK p x sv bv rv xv tv (.pointer none) g :: BX x xv :: BO b x :: L) := h10.selR [_, _, _, _, _] [_, _] [0, 4] (by decide) rfl
  refine ZFJ (J0.cut (fun w => ∃ cv, Sat e w (RK p x sv bv rv xv tv cv g :: BX x xv :: BO b x :: L)) (fun k3 hcut => ?_) ?_)
  ·by_cases hb : c = 0
   ·rw [decide_eq_false (by omega)]
    exact Zf (hcut _ ⟨_, h11⟩)
   ·rw [decide_eq_true (by omega)]
    refine Zi (ZNq (n := c) (by omega) (by omega) h11 fun g2 w12 h12 => ?_)
    exact Zam (Zal (Zh (Za (Zq h12 0 rfl (vs := [pt g2]) rfl rfl (Nat.le_of_ble_eq_true rfl) (by simp [flat]) (cs' := (rk x sv bv rv xv tv (pt g) (pt g2))) (by rfl) fun w13 h13 => hcut _ ⟨pt g2, h13⟩))))
  rintro w11 ⟨cv, h12⟩
  refine Zo h12 2 (vs := x.cs) rfl (by rfl) rfl (ZKU (x := x) (i + 3) (by simpa using hi) h12 hr hs hwd.tree (by omega) (fun f hf => ?_) fun v w13 h13 hsl => ?_)
  ·have h := hwd.init f.f (List.mem_map_of_mem hf)
   exact ⟨h.1, fun o ho => (h.2 o ho).1⟩
  have hmem := fun m (h : m ∈ Zaz x.w.Parents x.w.Feds x.w.Feds) => Znu h
  generalize Zaz x.w.Parents x.w.Feds x.w.Feds = l at h13 hsl hmem
  have h14 : Sat e w13 (MS v l :: RK p x sv bv rv xv tv cv g :: Zz 53 1 one xv ((List.range x.Feds.length).map fun _ => S0) :: Yh ((List.range x.Feds.length).map fun _ => DI S0 []) :: BO b x :: L) := by
   rw [List.map_const', List.length_range]
   exact (ZuX (List.range x.Feds.length) h13).selR [_, _, _, _] [_, _, _, _] [1, 2, 3, 0] (by decide) rfl
  refine Zdk (fun z t113 w => ∃ (j : Nat) (us : Nat → Value) (ls : Nat → List Zn), (∀ f, (ls f).length ≤ j) ∧ j ≤ l.length ∧ t113 = .int .i64 j ∧ z = l.length - j ∧
   Sat e w (MS v l :: RK p x sv bv rv xv tv cv g :: Zz 53 1 one xv ((List.range x.Feds.length).map us) :: Yh (DX x us ls) :: BO b x :: L)) l.length ⟨0, fun _ => S0, fun _ => [], fun _ => Nat.le_refl _, Nat.zero_le _, rfl, rfl, h14⟩ ?_
  rintro z _ w14 g4 ⟨j, us, ls, hls, hj, rfl, rfl, h15⟩ hg4
  refine Zt h15 0 rfl (fun _ => Zp) (Za7 (fun c5 => Zi ?_) (fun c5 => Zf (hk p _ h15.drop.drop.drop.drop.drop)))
  obtain ⟨m, hm⟩ := Zk (l := l) (j := j) (by omega)
  obtain ⟨fi, fd, hfi, hsp⟩ := hmem m (List.mem_of_getElem? hm)
  have hfrom : m.key.From = (fi : Int) := (Zpu hsp).from'
  have hfil : fi < x.Feds.length := by have := (List.getElem?_eq_some_iff.1 hfi).1; omega
  refine ZaY h15 fun w16 h16 => (Zh (Za (Zb h16 1 rfl (v := xv) rfl ?_)))
  refine Zw h16 0 rfl (fun _ => Zp) (fun _ => rfl) hm fun a ha => Zbd ha fun a0 ha0 => Zbd ha0 fun a1 ha1 => Yt h16 0 rfl ha1 (v := VF m) rfl (Zh (Za (Zb h16 1 rfl (v := xv) rfl ?_)))
  refine Zw h16 0 rfl (fun _ => Zp) (fun _ => rfl) hm fun d hd => Zbd hd fun d0 hd0 => Zbd hd0 fun d1 hd1 => Yt h16 0 rfl hd1 (v := VF m) rfl ?_
  have hV : VF m = .int .i64 (fi : Int) := congrArg _ hfrom
  have hF : ∀ {w : World}, VF m = .int .i64 (fi : Int) ∧ w = w := ⟨hV, rfl⟩
  rw [hV]
  refine Zw h16 2 rfl (fun _ => Zp) (fun _ => rfl) (Yk hfil) fun u hu => Yt h16 2 rfl hu (v := us fi) rfl (Zw h16 0 rfl (fun _ => Zp) (fun _ => rfl) hm fun y hy => Ym h16 0 rfl hy rfl ?_)
  refine Zaf (Zae m).cs (by kernel_rfl) (⟨Yt h16 2 rfl hu (v := us fi) rfl ⟨rfl, rfl⟩, Yt h16 0 rfl hd1 (v := VF m) rfl hF, Zb h16 1 rfl (v := xv) rfl ⟨rfl, rfl⟩, Yt h16 0 rfl ha1 (v := VF m) rfl hF, Zb h16 1 rfl (v := xv) rfl ⟨rfl, rfl⟩, ?_⟩)
  refine ZwC (vs := (Zae m).cs) rfl rfl h16 fun bb w17 h17 => (⟨Yt h17 3 rfl hu (v := us fi) rfl ⟨rfl, rfl⟩, Yt h17 1 rfl hd1 (v := VF m) rfl hF, Zb h17 2 rfl (v := xv) rfl ⟨rfl, rfl⟩, Yt h17 1 rfl ha1 (v := VF m) rfl hF, Zb h17 2 rfl (v := xv) rfl ⟨rfl, rfl⟩, ?_⟩)
  have h18 : Sat e w17 (Yh (DX x us ls) :: ([blk bb 104 (Zae m).cs, MS v l, RK p x sv bv rv xv tv cv g, Zz 53 1 one xv ((List.range x.Feds.length).map us), BO b x] ++ L)) := h17.selR [_, _, _, _, _, _] [_, _, _, _, _, _] [4, 0, 1, 2, 3, 5] (by decide) rfl
  have h19 := h18.focus fi (Yk hfil)
  refine Zeo Zry Zry.und (f := Zn.cs) (l := ls fi) (m := [Zae m]) (fun _ => rfl) (fun _ => Zg _) (h19.selR [_, _, _, _, _, _, _] [_, _, _, _, _, _, _] [0, 2, 1, 3, 4, 5, 6] (by decide) rfl) (Zfu (f := Zn.cs) (Nat.le_refl _)) (by have := hls fi; rw [List.length_singleton]; omega) fun v' w20 h20 => ?_
  have q1 := h20.own_cells 0 rfl
  refine ⟨Yt h20 3 rfl ha1 (v := VF m) rfl hF, Zb h20 4 rfl (v := xv) rfl ⟨rfl, rfl⟩, ?_⟩
  refine ZdJ h20 5 rfl (fun _ => rfl) (by rw [List.length_map, List.length_range]; exact hfil) (x := v') q1.1 (fun c hc => by rw [List.mem_singleton.1 hc]; exact q1.2) fun w21 h21 => (Yr (by omega) ?_)
  have h22 : Sat e w21 (DI v' (ls fi ++ [Zae m]) :: Yh ((DX x us ls).eraseIdx fi) :: ([MS v l, RK p x sv bv rv xv tv cv g, Zz 53 1 one xv (((List.range x.Feds.length).map us).set fi v'), BO b x] ++ L)) := h21.selR [_, _, _, _, _, _, _] [_, _, _, _, _, _] [0, 2, 3, 4, 5, 6] (by decide) rfl
  have h23 := Sat.unfocus fi (Yk hfil) h22
  rw [ZcQ (F' := fun f => DI (if f = fi then v' else us f) (if f = fi then ls fi ++ [Zae m] else ls f)) (fun j _ hne => by rw [if_neg hne, if_neg hne]) (fun _ => by rw [if_pos rfl, if_pos rfl]), ZcQ (F' := fun f => if f = fi then v' else us f) (fun j _ hne => if_neg hne) (fun _ => (if_pos rfl).symm)] at h23
  refine hg4 _ _ _ (by omega) ⟨j + 1, fun f => if f = fi then v' else us f, fun f => if f = fi then ls fi ++ [Zae m] else ls f, fun f => ?_, by omega, rfl, rfl, h23.selR [_, _, _, _, _] [_, _, _, _, _] [1, 2, 3, 0, 4] (by decide) rfl⟩
  have a1 := hls fi
  have a2 := hls f
  dsimp only
  split
  ·rw [List.length_append, List.length_singleton]; omega
  ·omega
theorem ZNd {wd : Wd} {rm : Nat} (h : 1 ≤ rm ∧ rm ≤ 16) : ZtU wd (rm : Int) = (Za4 wd).2 := by
 unfold ZtU
 by_cases hc : (Za4 wd).2 = 0
 ·rw [if_neg (fun h => h hc), if_pos (by omega), hc]
 ·rw [if_pos hc]
theorem ZNF (k : KS) (o : Zbs) : k.value ≤ (doK wd k o).2.value := by
 unfold doK
 split
 ·exact Int.le_refl _
 ·exact ZNG k _ _ _
theorem ZNH {s : Nat} (h : Ze1 wd k s) (o : Zbs) (a : Int) : ∃ m, ZBN wd (doK wd k o).2 a = ZBN wd k a ++ m := by
 unfold ZBN
 by_cases ha : inN wd a
 ·rw [if_pos ha, if_pos ha]
  unfold doK
  split
  ·exact ⟨[], (List.append_nil _).symm⟩
  ·exact (ZzL h.ok _ _ _).2.2 _
 ·rw [if_neg ha, if_neg ha]
  exact ⟨[], rfl⟩
theorem ZNI {s : Nat} (h : Ze1 wd k s) (a : Int) : (ZBN wd k a).Pairwise fun a b => Zv a.m.key b.m.key := by
 unfold ZBN
 by_cases ha : inN wd a
 ·rw [if_pos ha]
  exact ZNJ (h.ok _ (by rw [h.nl]; unfold inN at ha; omega))
 ·rw [if_neg ha]
  exact .nil
theorem ZNy {a : Int} (hS : Sat e w (Zby p wd k n s :: Q)) (hn : n ≤ 1000) : (ZBN wd k a).length ≤ 1000 := by
 by_cases ha : inN wd a
 ·obtain ⟨b, rfl, hb⟩ := Zxy ha
  exact ZLJ hb hS hn
 ·unfold ZBN
  rw [if_neg ha]
  exact Nat.zero_le _
theorem ZNz (room : Nat) : (0 : Int) ≤ (KS.init wd room).value := by
 have h0 : (KS.init0 wd room).value = 0 := by
  show (match (if Zai wd = 0 then none else some (CL.zero (Zai wd))) with | none => (0 : Int) | some c => c.value) = 0
  split <;> rename_i h
  ·rfl
  ·split at h
   ·cases h
   ·obtain rfl := Option.some.inj h
    rfl
 have h1 : ∀ (l : List Msg) (k : KS), (l.foldl ZxY k).value = k.value := fun l => by
  induction l with
  | nil => exact fun k => rfl
  | cons m l ih => exact fun k => (ih (ZxY k m)).trans rfl
 rw [ZuV, h1, h0]
 exact Int.le_refl 0
theorem ZNC {x : WdX} {r1 : Int} {v : Value} {l : List Zbs} (hS : Sat e w (S :: Q)) (hr : ∀ g, S g → ZtG x g) (hwf : x.wf) (hw1 : (Lit.int .u8 r1).wf = true) (hr2 : ∀ g, S g → rdS 3 Zbs.cs v l g) (hk : ∀ w', Sat e w' (S :: Q) → K (.bool true) w') :
  Cl prog 3 #[.agg x.cs.toArray, .int .u8 r1, v] w K := by
 refine ZNw ?_
 unfold ZNu
 refine Yp (cs := x.cs) hS rfl fun b4 w2 h2 => (Zo h2 0 (vs := x.cs) rfl (by rfl) rfl ?_)
 refine ZLK (x := x) 1 rfl h2 hr fun w3 q h3 hshort => ?_
 have hsh : ∀ {w : World}, Sat e w (BO b4 x :: S :: Q) → Cl prog 13 #[] w fun t w => K t w := fun h => Zu0 h fun w' h' => hk _ h'.drop
 cases q with
 | false => exact Zch (Zd (Zd (Zd (Yv (Zi (hsh h3))))))
 | true =>
  have hs := hshort rfl
  refine ZaJ (Zj (Zj (Zt h3 1 rfl hr2 (Zj (Ztu (fun c0 => Yd (Zi (hsh h3))) (fun c0 => Yd (Zf ?_)))))))
  refine Zo h3 0 (vs := x.cs) rfl (by rfl) rfl (ZJk (ZJm hw1) fun rm hrm => ?_)
  have hE := ZNd (wd := x.w) hrm
  refine Zu2 (room := (rm : Int)) 1 rfl h3 hr hwf hs (fun hb w4 h4 => ?_) fun hok p w4 h4 => ?_
  ·rw [hE] at hb ⊢
   refine Zam (Zal ?_)
   refine Zo h4 0 (vs := x.cs) rfl (by rfl) rfl (ZJk (ZJm hw1) fun rm2 _ => ?_)
   refine ZK5 1 rfl h4 hr hs hb fun w6 h6 => (Zam (Zal (ZoP rfl (Zj (Zu0 h6 fun w7 h7 => Zj (ZaJ (Yd (Zf (Zng hb (Zi ?_))))))))))
   exact Ztj (hk _ h7.drop)
  ·rw [hE] at hok
   refine Zam (Zal ?_)
   refine Zo h4 1 (vs := x.cs) rfl (by rfl) rfl (ZJk (ZJm hw1) fun rm2 hrm2 => ?_)
   refine ZNm 2 rfl h4 hr hs hok (by omega) fun p3 w6 h6 => (Zam (Zal (ZoP rfl (Zj (Zu0 h6 fun w7 h7 => Zj (ZaJ (Yd (Zf (ZoP rfl (Zf ?_))))))))))
   rw [Int.toNat_natCast] at h7
   have hI0 := Ze1.init hok rm
   have hv0 := ZNz (wd := x.w) rm
   generalize hk0 : KS.init x.w rm = k0 at *
   generalize hwdx : x.w = wd at *
   refine ZjF (fun z t11 t w => ∃ (i : Nat) (c : Int), i ≤ l.length ∧ c ≤ (ZMn wd k0 (l.take i)).value ∧ t11 = .int .i64 c ∧ t = .int .i64 i ∧ z = l.length - i ∧ Sat e w (Zby p wd (ZMn wd k0 (l.take i)) i i :: BO b4 x :: S :: Q)) l.length ⟨0, 0, Nat.zero_le _, hv0, rfl, rfl, rfl, h7⟩ ?_
   rintro z _ _ w8 g1 ⟨i, c, hi, hc, rfl, rfl, rfl, h9⟩ hg1
   refine Zt h9 2 rfl hr2 (Za7 (fun c1 => Zi ?_) (fun c1 => Zf (hk _ h9.drop.drop)))
   obtain ⟨y, hy⟩ := Zk (l := l) (j := i) (by omega)
   have hI := ZL6 hI0 (l.take i)
   have hI' := hI.doK y
   have e1 : ZMn wd k0 (l.take (i + 1)) = (doK wd (ZMn wd k0 (l.take i)) y).2 := by rw [Zx hy, ZLb]
   have hup := ZNF (wd := wd) (ZMn wd k0 (l.take i)) y
   obtain ⟨m, hm⟩ := ZNH hI y y.A
   have hpw := ZNI hI' y.A
   rw [← e1] at hup hm hpw
   refine Zw h9 2 rfl hr2 (fun _ => rfl) hy fun a ha => Zbd ha fun a1 ha1 => Yt h9 2 rfl ha1 (v := .int .i64 y.A) rfl ?_
   have hl0 := ZNy (a := y.A) h9 (by omega)
   refine ZdZ (a := y.A) (by omega) h9 fun u w10 h10 => (Zw h10 3 rfl hr2 (fun _ => rfl) hy fun a2 ha2 => Ym h10 3 rfl ha2 rfl ?_)
   refine ZrZ (o := y) (by omega) (by omega) h10.swap fun w11 h11 => ?_
   rw [← e1] at h11
   have h12 := Zgh (Zxu i y) (Nat.le_refl _) h11
   have hl1 := ZNy (a := y.A) h12 (by omega)
   refine ZdZ (a := y.A) (by omega) h12 fun u2 w13 h13 => ?_
   generalize hk2 : ZMn wd k0 (l.take (i + 1)) = k2 at *
   generalize ZBN wd k2 y.A = l2 at *
   subst hm
   refine ZND (l := ZBN wd (ZMn wd k0 (l.take i)) y.A) (m := m) 2 0 rfl rfl h13 (fun _ => Zp) (fun _ => Zp) (by omega) fun w14 h14 => (ZaJ (Zj (Zj (ZKN (h14.pick 1 rfl) ?_))))
   refine Zj (Zj (Ze7 (by omega) (Yd (Zf ?_))))
   refine ZKN (h14.pick 1 rfl) ?_
   generalize ZBN wd (ZMn wd k0 (l.take i)) y.A ++ m = l3 at *
   refine Zdk (fun q t13 w => ∃ j : Nat, 1 ≤ j ∧ t13 = .int .i64 j ∧ q = l3.length + 1 - j ∧ Sat e w (DD u2 l3 :: Zby p wd k2 (i + 1) (i + 1) :: BO b4 x :: S :: Q)) l3.length ⟨1, Nat.le_refl _, rfl, by omega, h14.selR [_, _, _] [_, _] [0, 1] (by decide) rfl⟩ ?_
   rintro q _ w g4 ⟨j, hj, rfl, rfl, h15⟩ hg4
   refine Zt h15 0 rfl (fun _ => Zp) (Za7 (fun c3 => Zi ?_) (fun c3 => Zf (Yr (by omega) ?_)))
   ·obtain ⟨y1, hy1⟩ := Zk (l := l3) (j := j) (by omega)
    obtain ⟨z1, hz1⟩ := Zk (l := l3) (j := j - 1) (by omega)
    refine ZaY h15 fun w16 h16 => (ZoJ (by omega) (by omega) ?_)
    rw [show (j : Int) - 1 = ((j - 1 : Nat) : Int) from by omega]
    refine Zw h16 0 rfl (fun _ => Zp) (fun _ => rfl) hz1 fun p hp => (Zbd hp fun p1 hp1 => Zbd hp1 fun p2 hp2 => ?_)
    refine Zn0 (us := z1.m.key.cs) h16 0 rfl hp2 (by rfl) rfl (Zw h16 0 rfl (fun _ => Zp) (fun _ => rfl) hy1 fun p hp => ?_)
    refine Zbd hp fun p1 hp1 => Zbd hp1 fun p2 hp2 => (Zn0 (us := y1.m.key.cs) h16 0 rfl hp2 (by rfl) rfl ?_)
    refine ZLj h16 fun w17 h17 => ?_
    have hlt : Zv z1.m.key y1.m.key := by
     have := List.pairwise_iff_getElem.1 hpw (j - 1) j (List.getElem?_eq_some_iff.1 hz1).1 (List.getElem?_eq_some_iff.1 hy1).1 (by omega)
     rwa [(List.getElem?_eq_some_iff.1 hz1).2, (List.getElem?_eq_some_iff.1 hy1).2] at this
    have hneg := Zav.2 hlt
    refine ZnR (by omega) (Zf (Yr (by omega) ?_))
    exact hg4 (l3.length + 1 - (j + 1)) _ _ (by omega) ⟨j + 1, by omega, rfl, rfl, h17⟩
   ·exact hg1 _ _ _ _ (by omega) ⟨i + 1, k2.value, by omega, by rw [hk2]; exact Int.le_refl _, rfl, rfl, rfl, by rw [hk2]; exact h15.drop⟩
end Go.Proofs.YtncgbaokgniphaaGreat
end
