/- The least time: what the functions of lbts come to. Of the outputs: each is at most what it began with, and at least what all began with. Conditions: at most a hundred members. -/
import Derived.Test.YtmgaooeeddmbmaaGreatDoorRtiC
import Derived.Test.YtmgaooeeddmbmaaGreatDoorPf0
import Derived.Test.YtmgaooeeddmbmaaGreatDoorPf1
import Derived.Test.YtmgaooeeddmbmaaGreatDoorPf2
import Derived.Test.YtmgaooeeddmbmaaGreatDoorPf3
import Derived.Test.YtmgaooeeddmbmaaGreatDoorPf4
namespace Go.Proofs.YtmgaooeeddmbmaaGreatDoor
open Go Go.E
set_option maxRecDepth 100000
variable {e w : World} {R : List HP} {K : KV}

theorem sgi4 {first : Again → Prop} {f : Value → Value → Value → Value → World → Again → Prop} (I : Nat → Value → Value → Value → Value → World → Prop)
    (h0 : ∀ g : Again, (∀ n x0 x1 x2 x3 w', I n x0 x1 x2 x3 w' → g [x0, x1, x2, x3] w') → first g)
    (hr : ∀ n x0 x1 x2 x3 w (g : Again), I n x0 x1 x2 x3 w → (∀ m x0' x1' x2' x3' w', I m x0' x1' x2' x3' w' → m < n → g [x0', x1', x2', x3'] w') → f x0 x1 x2 x3 w g) : sg 4 first (b4 f) :=
  sg4 (fun x0 x1 x2 x3 w => ∃ n, I n x0 x1 x2 x3 w) (fun x0 x1 x2 x3 w => lst fun n => I n x0 x1 x2 x3 w) (fun g hg => h0 g fun n x0 x1 x2 x3 w' h => hg x0 x1 x2 x3 w' ⟨n, h⟩)
    fun x0 x1 x2 x3 w g ⟨_, hn⟩ hg => hr _ x0 x1 x2 x3 w g (lst_spec (p := fun n => I n x0 x1 x2 x3 w) hn).1 fun m x0' x1' x2' x3' w' h hlt => hg x0' x1' x2' x3' w' ⟨m, h⟩ (Nat.lt_of_le_of_lt ((lst_spec (p := fun n => I n x0' x1' x2' x3' w') h).2 m h) hlt)

structure LM where
  (reg con : Bool) (time look kind ask first : Int)
def LM.cs (m : LM) : List Value := [.bool m.reg, .bool m.con, .int .i64 m.time, .int .i64 m.look, .int .i64 m.kind, .int .i64 m.ask, .int .i64 m.first]
theorem LM.flat (m : LM) : ∀ v ∈ m.cs, flat v = true := by simp [LM.cs, Go.E.flat]
def bC (b : Bool) : List Value := [.bool b]
theorem bC_flat (b : Bool) : ∀ v ∈ bC b, flat v = true := by simp [bC, flat]
def LM.later (m : LM) (t : Int) : Int := addT t (max 1 (min m.look 1048576))
def LM.own (m : LM) : Int × Bool :=
  if m.kind = 1 then (addT m.ask 0, false)
  else if m.kind = 2 ∨ m.kind = 3 then (if m.con then (max (addT m.time 0) (min (addT m.ask 0) (addT m.first 0)), true) else (addT m.ask 0, false))
  else (addT m.time 0, false)
def LM.lat (m : LM) : Int := m.later m.own.1

theorem lb_clamp_s {t : Int} (hk : K (.int .i64 (addT t 0)) w) : Cl prog 44 #[.int .i64 t] w K := by
  refine lbts_clamp_calls ?_
  unfold lbts_clamp
  exact vtime_Add_s hk
theorem lb_later_s {m : LM} {t : Int} (hS : Sat e w R) (hk : ∀ w', Sat e w' R → K (.int .i64 (m.later t)) w') : Cl prog 42 #[.agg m.cs.toArray, .int .i64 t] w K := by
  refine lbts_Member_later_calls ?_
  unfold lbts_Member_later
  refine al_s (cs := m.cs) hS rfl fun b w1 h1 => ?_
  refine fld_at (ld1_at h1 0 rfl (v := .int .i64 m.look) rfl (min_s (max_s (vtime_Add_s ?_))))
  exact hk _ h1.drop
theorem lb_own_s {m : LM} (hS : Sat e w R) (hk : ∀ w', Sat e w' R → K (.tuple #[.int .i64 m.own.1, .bool m.own.2]) w') : Cl prog 41 #[.agg m.cs.toArray] w K := by
  refine lbts_Member_own_calls ?_
  unfold lbts_Member_own
  refine al_s (cs := m.cs) hS rfl fun b w1 h1 => ?_
  refine fld_at (ld1_at h1 0 rfl (v := .int .i64 m.kind) rfl ?_)
  refine eq_c (fun c => iff_t ?_) (fun c => iff_f ?_)
  · refine fld_at (ld1_at h1 0 rfl (v := .int .i64 m.ask) rfl (lb_clamp_s ?_))
    have := hk _ h1.drop
    unfold LM.own at this
    rw [if_pos c] at this
    exact this
  · refine eq_d (J1.cut (fun t w' => t = .bool (decide (m.kind = 2 ∨ m.kind = 3)) ∧ Sat e w' (blk b 101 m.cs :: R)) (fun k hkk => ?_) ?_)
    · refine iff_d (fun c2 => ?_) (fun c2 => eq_d ?_)
      · exact hkk _ _ ⟨by simp [c2], h1⟩
      · exact hkk _ _ ⟨by simp [c2], h1⟩
    · rintro _ w2 ⟨rfl, h2⟩
      refine iff_d (fun c2 => ?_) (fun c2 => ?_)
      · refine fld_at (ld1_at h2 0 rfl (v := .bool m.con) rfl ?_)
        refine iff_b _ (fun c3 => ?_) (fun c3 => ?_)
        · refine dr_s h2 fun w3 h3 => ?_
          refine fld_at (ld1_at h3 0 rfl (v := .int .i64 m.time) rfl ?_)
          refine fld_at (ld1_at h3 0 rfl (v := .int .i64 m.ask) rfl ?_)
          refine fld_at (ld1_at h3 0 rfl (v := .int .i64 m.first) rfl ?_)
          refine lb_clamp_s ⟨ld1_at h3 0 rfl rfl ⟨rfl, rfl⟩, ld1_at h3 0 rfl rfl ⟨rfl, rfl⟩, lb_clamp_s ⟨ld1_at h3 0 rfl rfl ⟨rfl, rfl⟩, lb_clamp_s (min_s (max_s ?_))⟩⟩
          have := hk _ h3.drop
          unfold LM.own at this
          rw [if_neg c, if_pos c2, if_pos c3] at this
          exact this
        · refine fld_at (ld1_at h2 0 rfl (v := .int .i64 m.ask) rfl (lb_clamp_s ?_))
          have := hk _ h2.drop
          unfold LM.own at this
          rw [if_neg c, if_pos c2, if_neg (by simp [c3])] at this
          exact this
      · refine fld_at (ld1_at h2 0 rfl (v := .int .i64 m.time) rfl (lb_clamp_s ?_))
        have := hk _ h2.drop
        unfold LM.own at this
        rw [if_neg c, if_neg c2] at this
        exact this

theorem le_clampT {X t : Int} (h1 : X ≤ t) (h2 : X ≤ Inf) : X ≤ clampT t := by unfold clampT; unfold Inf at *; split <;> (try split) <;> omega
theorem le_addT {X t d : Int} (h1 : X ≤ t) (h2 : X ≤ Inf) : X ≤ addT t d := by
  unfold addT
  have h3 := le_clampT h1 h2
  have h4 := clampT_le d
  exact le_clampT (by omega) h2

/-- What is known of the outputs. -/
structure OutOk (l : List LM) (out : List Int) (op hg : List Bool) : Prop where
  n1 : out.length = l.length
  n2 : op.length = l.length
  n3 : hg.length = l.length
  op : ∀ (i : Nat) (m : LM), l[i]? = some m → op[i]? = some true → m.reg = true
  hi : ∀ (i : Nat) (m : LM) (o : Int), l[i]? = some m → m.reg = true → out[i]? = some o → o ≤ m.lat
  lo : ∀ (X : Int), X ≤ Inf → (∀ m ∈ l, m.reg = true → X ≤ m.lat) → ∀ (i : Nat) (m : LM) (o : Int), l[i]? = some m → m.reg = true → out[i]? = some o → X ≤ o
abbrev IB (v : Value) (l : List Bool) : HP := ownS 4 1 bC v l
abbrev OS (b1 b3 b4 : Nat) (v v3 v4 v5 : Value) (out : List Int) (op hg : List Bool) (S : HP) (R : List HP) : List HP :=
  blk b1 70 [v] :: blk b3 23 [v3] :: II v3 out :: blk b4 99 [v4] :: IB v4 op :: IB v5 hg :: S :: R
variable {b1 b3 b4 : Nat} {v v3 v4 v5 : Value} {l : List LM} {out : List Int} {op hg : List Bool} {S : HP}

theorem lb_least_s (hl : l.length ≤ 100) (ho : out.length = l.length) (hp : op.length = l.length) (hS : Sat e w (OS b1 b3 b4 v v3 v4 v5 out op hg S R)) (hr : ∀ g, S g → rdS 7 LM.cs v l g)
    (hn : ∀ w', Sat e w' (OS b1 b3 b4 v v3 v4 v5 out op hg S R) → K (.int .i64 (-1)) w') (hy : ∀ (i : Nat) w', op[i]? = some true → Sat e w' (OS b1 b3 b4 v v3 v4 v5 out op hg S R) → K (.int .i64 (i : Int)) w') :
    clV prog (.func (.func 43) #[] #[pt b1, pt b4, pt b3]) #[] w K := by
  refine ⟨_, _, _, rfl, ?_⟩
  refine lbts_Outputs_1_calls (t0 := pt b1) (t1 := pt b4) (t2 := pt b3) ?_
  unfold lbts_Outputs_1
  refine ld1_at hS 0 rfl (v := v) rfl (lnS_rd hS 6 rfl hr ?_)
  refine lp2 (fun t4 t8 w => ∃ (j : Nat), j ≤ l.length ∧ t8 = .int .i64 j ∧ (t4 = .int .i64 (-1) ∨ ∃ i : Nat, t4 = .int .i64 i ∧ op[i]? = some true) ∧ Sat e w (OS b1 b3 b4 v v3 v4 v5 out op hg S R)) (fun _ t8 _ => l.length - nOf t8)
    ⟨0, Nat.zero_le _, rfl, .inl rfl, hS⟩ ?_
  rintro t4 _ w g ⟨j, hj, rfl, ht, h1⟩ hag
  refine lt_c (fun c => iff_t ?_) (fun c => iff_f ?_)
  · obtain ⟨o, hoj⟩ := get_of_lt (l := op) (j := j) (by omega)
    obtain ⟨x, hx⟩ := get_of_lt (l := out) (j := j) (by omega)
    refine J1.cut (fun t w => (t = .int .i64 (-1) ∨ ∃ i : Nat, t = .int .i64 i ∧ op[i]? = some true) ∧ Sat e w (OS b1 b3 b4 v v3 v4 v5 out op hg S R)) (fun k hkk => ?_) (fun t w2 ⟨ht2, h2⟩ => ?_)
    · refine dr_s h1 fun w3 h3 => ?_
      refine ld1_at h3 3 rfl (v := v4) rfl ?_
      refine ixS_rd h3 4 rfl (fun g hg => own_rd hg) (fun _ => rfl) hoj fun a ha => ?_
      refine ld1_of h3 4 rfl ha (by rfl) ?_
      cases o with
      | false =>
        repeat first | refine gd_u ?_ | refine gd_ft ?_
        refine pk_f (iff_f ?_)
        exact hkk _ _ ⟨ht, h3⟩
      | true =>
        rcases ht with rfl | ⟨i, rfl, hi⟩
        · refine gd_tt (gd_tt (lt_t (by omega) (gd_tt ?_)))
          iterate 9 refine gd_tf ?_
          refine gd_tt (pk_t (pk_t (iff_t ?_)))
          exact hkk _ _ ⟨.inr ⟨j, rfl, hoj⟩, h3⟩
        · have hil : i < op.length := (List.getElem?_eq_some_iff.1 hi).1
          obtain ⟨y, hy2⟩ := get_of_lt (l := out) (j := i) (by omega)
          refine gd_tt (gd_tt (lt_f (by omega) (gd_tt ?_)))
          refine gd_ff (ld1_at h3 1 rfl (v := v3) rfl (gd_ff (gd_ff ?_)))
          refine ixS_rd h3 2 rfl (fun g hg => own_rd hg) (fun _ => rfl) hx fun a2 ha2 => ?_
          refine gd_ff (ld1_of h3 2 rfl ha2 (by rfl) (gd_ff ?_))
          refine ld1_at h3 1 rfl (v := v3) rfl (gd_ff (gd_ff ?_))
          refine ixS_rd h3 2 rfl (fun g hg => own_rd hg) (fun _ => rfl) hy2 fun a3 ha3 => ?_
          refine gd_ff (ld1_of h3 2 rfl ha3 (by rfl) (gd_ff ?_))
          refine lt_c (fun c => gd_tt (pk_f (pk_t (iff_t ?_)))) (fun c => gd_tt (pk_f (pk_t (iff_f ?_))))
          · exact hkk _ _ ⟨.inr ⟨j, rfl, hoj⟩, h3⟩
          · exact hkk _ _ ⟨.inr ⟨i, rfl, hi⟩, h3⟩
    · refine inc_s (by omega) ?_
      exact hag _ _ _ ⟨j + 1, by omega, rfl, ht2, h2⟩ (by simp [nOf]; omega)
  · rcases ht with rfl | ⟨i, rfl, hi⟩
    · exact hn _ h1
    · exact hy _ _ hi h1
end Go.Proofs.YtmgaooeeddmbmaaGreatDoor
