/- The law PrioScript. Conditions: none. -/
import Derived.Test.YtbfjpmbgjgjckaaPrioX
import Derived.Test.YtbfjpmbgjgjckaaPrioW
namespace Go.Proofs.Ytbfjpmbgjgjckaa
open Go Go.E
set_option maxRecDepth 100000
variable {e w : World} {R : List HP} {K : KV}

structure PStep where
  Kind : Int
  M : Msg
def PStep.ns (s : PStep) : List Int := [s.Kind, s.M.key.T, s.M.key.From, s.M.key.Seq, s.M.To, s.M.Class, s.M.Body]
abbrev PStep.cs (s : PStep) : List Value := ints s.ns
def PStep.of (l : List Int) : PStep := ⟨l.getD 0 0, ⟨⟨l.getD 1 0, l.getD 2 0, l.getD 3 0⟩, l.getD 4 0, l.getD 5 0, l.getD 6 0⟩⟩
theorem PStep.of_cs {l : List Int} (h : l.length = 7) : (PStep.of l).cs = ints l := by
  match l, h with
  | [_, _, _, _, _, _, _], _ => rfl

/-- A queue and the document's have the same. -/
structure Same (room : Int) (lh lr : List Msg) : Prop where
  len : (lh.length : Int) ≤ room
  heap : Heapy lh lh.length
  perm : lr.Perm lh
  up : Upk lr
theorem Same.push {room : Int} {lh lr l' : List Msg} {x : Msg} {p : Nat} (h : Same room lh lr) (hlt : (lh.length : Int) < room) (hne : ∀ y ∈ lh, y.key ≠ x.key) (hp : l'.Perm (lh ++ [x])) (hh : Heapy lh lh.length → Heapy l' l'.length) (hpl : Place lr x p) : Same room l' (insAt lr x p) := by
  have hl' : l'.length = lh.length + 1 := by rw [hp.length_eq]; simp
  exact ⟨by omega, hh h.heap, (insAt_perm lr x p).trans ((h.perm.append_right [x]).trans hp.symm), hpl.up h.up fun y hy => hne y (h.perm.mem_iff.1 hy)⟩
theorem Same.del {room : Int} {lh lr l' : List Msg} {x : Msg} (h : Same room lh lr) (hn : (lh.map Msg.key).Nodup) (hp : (l' ++ [x]).Perm lh) (hh : Heapy lh lh.length → Heapy l' l'.length) : Same room l' (without lr x.key) := by
  have hl' : l'.length + 1 = lh.length := by rw [← hp.length_eq]; simp
  have := h.len
  exact ⟨by omega, hh h.heap, without_perm hn hp h.perm, without_up h.up _⟩

theorem Same.nodr {room : Int} {lh lr : List Msg} (h : Same room lh lr) : (lr.map Msg.key).Nodup := by
  rw [List.nodup_iff_pairwise_ne, List.pairwise_map]
  refine List.Pairwise.imp ?_ (show lr.Pairwise fun a b => KeyLt a.key b.key from h.up)
  intro a b hlt he
  rw [he] at hlt
  exact KeyLt.irrefl _ hlt
theorem Same.nodh {room : Int} {lh lr : List Msg} (h : Same room lh lr) : (lh.map Msg.key).Nodup := (h.perm.map Msg.key).nodup_iff.1 h.nodr

theorem push_both {q r : Nat} {room : Int} {lh lr : List Msg} {x : Msg} {K1 : KV} (hroom : room ≤ 64) (hs : Same room lh lr) (hS : Sat e w (IsPrio q room lh :: IsPR r room lr :: R))
    (hK : ∀ (c : Int) (w' : World) (lh' : List Msg), Sat e w' (IsPrio q room lh' :: IsPR r room lr :: R) → (∀ K2 : KV, (∀ w'' lr', Same room lh' lr' → Sat e w'' (IsPrio q room lh' :: IsPR r room lr' :: R) → K2 (.int .i64 c) w'') → Cl prog 21 #[.pointer (some ⟨r, 0, none⟩), .agg x.cs.toArray] w' K2) → K1 (.int .i64 c) w') :
    Cl prog 9 #[.pointer (some ⟨q, 0, none⟩), .agg x.cs.toArray] w K1 := by
  have hlen := hs.len
  have hrl := hs.perm.length_eq
  by_cases hin : ∃ y ∈ lh, y.key = x.key
  · have e3 : pushE room lh x = 3 := pushE_in' hin
    refine prio_Push_s (by omega) hS (fun _ w3 h3 => ?_) (fun h0 => by rw [e3] at h0; cases h0)
    rw [e3]
    refine hK 3 _ lh h3 fun K2 h => ?_
    obtain ⟨y, hy, hyk⟩ := hin
    refine ref03_Push_s (by omega) h3.swap (fun _ w5 h5 => h _ lr hs h5.swap) (fun hne => absurd hyk (hne y (hs.perm.mem_iff.2 hy))) (fun hne => absurd hyk (hne y (hs.perm.mem_iff.2 hy)))
  · have hne : ∀ y ∈ lh, y.key ≠ x.key := fun y hy hk => hin ⟨y, hy, hk⟩
    have hner : ∀ y ∈ lr, y.key ≠ x.key := fun y hy => hne y (hs.perm.mem_iff.1 hy)
    have ep := pushE_out (room := room) hne
    by_cases hf : room ≤ (lh.length : Int)
    · rw [if_pos hf] at ep
      refine prio_Push_s (by omega) hS (fun _ w3 h3 => ?_) (fun h0 => by rw [ep] at h0; cases h0)
      rw [ep]
      refine hK 2 _ lh h3 fun K2 h => ?_
      refine ref03_Push_s (by omega) h3.swap (fun ⟨y, hy, hyk⟩ => absurd hyk (hner y hy)) (fun _ _ w5 h5 => h _ lr hs h5.swap) (fun _ hlt => by omega)
    · rw [if_neg hf] at ep
      refine prio_Push_s (by omega) hS (fun hbad => absurd ep hbad) (fun _ _ hlt l' w3 hp hheap h3 => ?_)
      refine hK 0 _ l' h3 fun K2 h => ?_
      refine ref03_Push_s (by omega) h3.swap (fun ⟨y, hy, hyk⟩ => absurd hyk (hner y hy)) (fun _ hge => by omega) (fun _ _ p w5 hpl h5 => h _ _ (hs.push hlt hne hp hheap hpl) h5.swap)

theorem Same.cases {room : Int} {lh lr : List Msg} (hs : Same room lh lr) : (lh = [] ∧ lr = []) ∨ ∃ x, lh[0]? = some x ∧ lr[0]? = some x := by
  cases lh with
  | nil => exact .inl ⟨rfl, List.length_eq_zero_iff.1 (by rw [hs.perm.length_eq]; rfl)⟩
  | cons x l => exact .inr ⟨x, rfl, (heap_first hs.heap rfl hs.perm hs.up).1⟩

theorem first_both (q r : Nat) {room : Int} {lh lr : List Msg} (hs : Same room lh lr) : ∃ (x : Msg) (b : Bool),
    (∀ (w : World) (R : List HP) (K : KV), Sat e w (IsPrio q room lh :: R) → (∀ w', Sat e w' (IsPrio q room lh :: R) → K (.tuple #[.agg x.cs.toArray, .bool b]) w') → Cl prog 11 #[.pointer (some ⟨q, 0, none⟩)] w K) ∧
    (∀ (w : World) (R : List HP) (K : KV), Sat e w (IsPR r room lr :: R) → (∀ w', Sat e w' (IsPR r room lr :: R) → K (.tuple #[.agg x.cs.toArray, .bool b]) w') → Cl prog 22 #[.pointer (some ⟨r, 0, none⟩)] w K) := by
  rcases hs.cases with ⟨rfl, rfl⟩ | ⟨x, hx, hx'⟩
  · exact ⟨Msg.zero, false, fun _ _ _ h hk => prio_First_none h hk, fun _ _ _ h hk => ref03_First_none h hk⟩
  · exact ⟨x, true, fun _ _ _ h hk => prio_First_s hx h hk, fun _ _ _ h hk => ref03_First_s hx' h hk⟩

theorem pop_both (q r : Nat) {room : Int} {lh lr : List Msg} (hroom : room ≤ 64) (hs : Same room lh lr) : ∃ (x : Msg) (b : Bool) (lr1 : List Msg),
    (∀ (w : World) (R : List HP) (K : KV), Sat e w (IsPrio q room lh :: R) → (∀ lh1 w', Same room lh1 lr1 → Sat e w' (IsPrio q room lh1 :: R) → K (.tuple #[.agg x.cs.toArray, .bool b]) w') → Cl prog 15 #[.pointer (some ⟨q, 0, none⟩)] w K) ∧
    (∀ (w : World) (R : List HP) (K : KV), Sat e w (IsPR r room lr :: R) → (∀ w', Sat e w' (IsPR r room lr1 :: R) → K (.tuple #[.agg x.cs.toArray, .bool b]) w') → Cl prog 23 #[.pointer (some ⟨r, 0, none⟩)] w K) := by
  have hlen := hs.len
  have hrl := hs.perm.length_eq
  rcases hs.cases with ⟨rfl, rfl⟩ | ⟨x, hx, hx'⟩
  · exact ⟨Msg.zero, false, [], fun _ _ _ h hk => prio_Pop_none h (fun w' h' => hk _ w' hs h'), fun _ _ _ h hk => ref03_Pop_none h hk⟩
  · exact ⟨x, true, without lr x.key, fun _ _ _ h hk => prio_Pop_s hx (by omega) h (fun l' w' hp hh h' => hk _ w' (hs.del hs.nodh hp hh) h'), fun _ _ _ h hk => ref03_Pop_s (by omega) hx' h hk⟩

theorem rem_both (q r : Nat) (k : Key) {room : Int} {lh lr : List Msg} (hroom : room ≤ 64) (hs : Same room lh lr) : ∃ (x : Msg) (b : Bool) (lr1 : List Msg),
    (∀ (w : World) (R : List HP) (K : KV), Sat e w (IsPrio q room lh :: R) → (∀ lh1 w', Same room lh1 lr1 → Sat e w' (IsPrio q room lh1 :: R) → K (.tuple #[.agg x.cs.toArray, .bool b]) w') → Cl prog 17 #[.pointer (some ⟨q, 0, none⟩), .agg k.cs.toArray] w K) ∧
    (∀ (w : World) (R : List HP) (K : KV), Sat e w (IsPR r room lr :: R) → (∀ w', Sat e w' (IsPR r room lr1 :: R) → K (.tuple #[.agg x.cs.toArray, .bool b]) w') → Cl prog 24 #[.pointer (some ⟨r, 0, none⟩), .agg k.cs.toArray] w K) := by
  have hlen := hs.len
  have hrl := hs.perm.length_eq
  by_cases hin : ∃ x ∈ lh, x.key = k
  · obtain ⟨x, hx, rfl⟩ := hin
    exact ⟨x, true, without lr x.key, fun _ _ _ h hk => prio_Remove_s hx (by omega) h (fun l' w' hp hh h' => hk _ w' (hs.del hs.nodh hp hh) h'), fun _ _ _ h hk => ref03_Remove_s (by omega) (hs.perm.mem_iff.2 hx) hs.nodr h hk⟩
  · have hno : ∀ y ∈ lh, y.key ≠ k := fun y hy hk => hin ⟨y, hy, hk⟩
    exact ⟨Msg.zero, false, lr, fun _ _ _ h hk => prio_Remove_none hno h (fun w' h' => hk _ w' hs h'), fun _ _ _ h hk => ref03_Remove_none (by omega) (fun y hy => hno y (hs.perm.mem_iff.1 hy)) h hk⟩

theorem prioScript_s {v : Value} {l : List PStep} {n : Int} {S : HP} (hS : Sat e w (S :: R)) (_hn : (Lit.int .i64 n).wf = true) (hr : ∀ g, S g → rdS 7 PStep.cs v l g)
    (hk : ∀ w', Sat e w' (S :: R) → K (.bool true) w') : Cl prog 7 #[.int .i64 n, v] w K := by
  refine pacelinelaw03_PrioScript_calls ?_
  unfold pacelinelaw03_PrioScript
  rw [zero_30, zero_49]
  refine lnS_rd hS 0 rfl hr ?_
  refine gt_c (fun c1 => iff_t (hk _ hS)) (fun c1 => iff_f ?_)
  refine prio_New_s hS fun q w1 h1 => ?_
  refine ref03_New_s h1 fun r w2 h2 => ?_
  obtain ⟨room, hroomE⟩ : ∃ room : Int, room = max 0 (min n 64) := ⟨_, rfl⟩
  have hroom : room ≤ 64 := by omega
  have hroom0 : 0 ≤ room := by omega
  rw [← hroomE] at h2
  clear hroomE h1
  refine bnp_s _ (iff_f ?_)
  refine lpi1 (fun z t7 w => ∃ (j : Nat) (lh lr : List Msg), t7 = .int .i64 j ∧ z = l.length - j ∧ j ≤ l.length ∧ Same room lh lr ∧ Sat e w (IsPrio q room lh :: IsPR r room lr :: S :: R)) l.length
    ⟨0, [], [], rfl, rfl, Nat.zero_le _, ⟨hroom0, fun i _ _ hi1 hi2 _ => absurd hi2 (by simp), .refl _, .nil⟩, h2.swap⟩ ?_
  rintro z _ w g1 ⟨j, lh, lr, rfl, rfl, hj, hs, h3⟩ hg
  refine lnS_rd h3 2 rfl hr ?_
  refine lt_c (fun c2 => iff_t ?_) (fun c2 => iff_f ?_)
  · obtain ⟨s, hsx⟩ := get_of_lt (l := l) (j := j) (by omega)
    refine ixS_rd h3 2 rfl hr (fun _ => rfl) hsx fun p hp => ?_
    refine ldN_of h3 2 rfl hp rfl ?_
    refine al_s (cs := ints [0, 0, 0, 0, 0, 0, 0]) h3 rfl fun d w4 h4 => ?_
    refine stN_at h4 0 rfl (vs := s.cs) rfl rfl (Nat.le_of_ble_eq_true rfl) (ints_flat _) (cs' := s.cs) (by kernel_rfl) fun w5 h5 => ?_
    refine fld_at (ld1_at h5 0 rfl (v := .int .i64 s.Kind) rfl ?_)
    replace h5 : Sat e w5 (IsPrio q room lh :: IsPR r room lr :: blk d 49 s.cs :: S :: R) := h5.selR [_, _, _] [_, _, _] [1, 2, 0] (by decide) rfl
    refine J0.cut (fun w' => ∃ lh lr, Same room lh lr ∧ Sat e w' (IsPrio q room lh :: IsPR r room lr :: S :: R)) (fun k2 hcut => ?_) ?_
    · have hlen := hs.len
      have hrl := hs.perm.length_eq
      have hend : ∀ lh lr w', Same room lh lr → Sat e w' (IsPrio q room lh :: IsPR r room lr :: blk d 49 s.cs :: S :: R) → k2 w' := fun lh lr w' hs' h' =>
        hcut w' ⟨lh, lr, hs', h'.selR [_, _, _] [_, _] [0, 1] (by decide) rfl⟩
      refine eq_c (fun c3 => iff_t ?_) (fun c3 => iff_f ?_)
      · refine dr_s h5 fun w6 h6 => ?_
        refine fld_at (ldN_at h6 2 (vs := s.M.cs) rfl (by rfl) rfl ?_)
        refine fld_at (ldN_at h6 2 (vs := s.M.cs) rfl (by rfl) rfl ?_)
        refine push_both hroom hs h6 fun c w7 lh' h7 hpush => ?_
        refine ⟨ldN_at h7 2 (vs := s.M.cs) rfl (by rfl) rfl ⟨rfl, rfl⟩, ?_⟩
        refine hpush _ fun w8 lr' hs' h8 => ?_
        exact ne_f rfl (iff_f (hend _ _ _ hs' h8))
      · refine eq_d ?_
        refine J1.cut (fun t w' => ∃ b, t = .bool b ∧ w' = w5) (fun k3 hcut3 => ?_) ?_
        · refine iff_d (fun _ => hcut3 _ _ ⟨_, rfl, rfl⟩) (fun _ => eq_d (iff_d (fun _ => hcut3 _ _ ⟨_, rfl, rfl⟩) (fun _ => eq_d (hcut3 _ _ ⟨_, rfl, rfl⟩))))
        · rintro _ _ ⟨b, rfl, rfl⟩
          refine iff_b b (fun _ => ?_) (fun _ => ?_)
          · obtain ⟨x, bx, hf1, hf2⟩ := first_both (e := e) q r hs
            refine hf1 _ _ _ h5 fun w6 h6 => ?_
            refine xt_02 (xt_12 ?_)
            refine al_s (cs := ints [0, 0, 0, 0, 0, 0]) h6 rfl fun d9 w7 h7 => ?_
            refine stN_at h7 0 rfl (vs := x.cs) rfl rfl (Nat.le_of_ble_eq_true rfl) (ints_flat _) (cs' := x.cs) (by kernel_rfl) fun w8 h8 => ?_
            refine hf2 _ _ _ (h8.pick 2 rfl) fun w9 h9 => ?_
            refine xt_02 (xt_12 ?_)
            refine al_s (cs := ints [0, 0, 0, 0, 0, 0]) h9 rfl fun d11 w10 h10 => ?_
            refine stN_at h10 0 rfl (vs := x.cs) rfl rfl (Nat.le_of_ble_eq_true rfl) (ints_flat _) (cs' := x.cs) (by kernel_rfl) fun w11 h11 => ?_
            replace h11 : Sat e w11 (IsPrio q room lh :: IsPR r room lr :: blk d 49 s.cs :: blk d9 30 x.cs :: blk d11 30 x.cs :: S :: R) := h11.selR [_, _, _, _, _] [_, _, _, _, _] [3, 1, 4, 2, 0] (by decide) rfl
            refine fld_at (ld1_at h11 2 rfl (v := .int .i64 s.Kind) rfl ?_)
            refine eq_d ?_
            refine J2.cut (fun t10 t12 w' => ∃ (x : Msg) (b : Bool) (lh lr : List Msg), t10 = .bool b ∧ t12 = .bool b ∧ Same room lh lr ∧ Sat e w' (IsPrio q room lh :: IsPR r room lr :: blk d 49 s.cs :: blk d9 30 x.cs :: blk d11 30 x.cs :: S :: R)) (fun k4 hcut4 => ?_) ?_
            · refine iff_d (fun _ => ?_) (fun _ => hcut4 _ _ _ ⟨x, bx, lh, lr, rfl, rfl, hs, h11⟩)
              obtain ⟨y, b2, lr1, hp1, hp2⟩ := pop_both (e := e) q r hroom hs
              refine hp1 _ _ _ h11 fun lh1 w12 hs1 h12 => ?_
              refine xt_02 (xt_12 ?_)
              refine stN_at h12 3 rfl (vs := y.cs) rfl rfl (Nat.le_of_ble_eq_true rfl) (ints_flat _) (cs' := y.cs) (by kernel_rfl) fun w13 h13 => ?_
              refine hp2 _ _ _ (Sat.pick h13 1 rfl) fun w14 h14 => ?_
              refine xt_02 (xt_12 ?_)
              refine stN_at h14 4 rfl (vs := y.cs) rfl rfl (Nat.le_of_ble_eq_true rfl) (ints_flat _) (cs' := y.cs) (by kernel_rfl) fun w15 h15 => ?_
              exact hcut4 _ _ _ ⟨y, b2, lh1, lr1, rfl, rfl, hs1, h15.selR [_, _, _, _, _] [_, _, _, _, _] [1, 0, 2, 3, 4] (by decide) rfl⟩
            · rintro _ _ w12 ⟨y, b2, lh1, lr1, rfl, rfl, hs1, h12⟩
              refine fld_at (ld1_at h12 2 rfl (v := .int .i64 s.Kind) rfl ?_)
              refine eq_d ?_
              refine J2.cut (fun t10 t12 w' => ∃ (x : Msg) (b : Bool) (lh lr : List Msg), t10 = .bool b ∧ t12 = .bool b ∧ Same room lh lr ∧ Sat e w' (IsPrio q room lh :: IsPR r room lr :: blk d 49 s.cs :: blk d9 30 x.cs :: blk d11 30 x.cs :: S :: R)) (fun k5 hcut5 => ?_) ?_
              · refine iff_d (fun _ => ?_) (fun _ => hcut5 _ _ _ ⟨y, b2, lh1, lr1, rfl, rfl, hs1, h12⟩)
                obtain ⟨z, b3, lr2, hp1, hp2⟩ := rem_both (e := e) q r s.M.key hroom hs1
                refine fld_at (fld_at (ldN_at h12 2 (vs := s.M.key.cs) rfl (by rfl) rfl ?_))
                refine hp1 _ _ _ h12 fun lh2 w13 hs2 h13 => ?_
                refine xt_02 (xt_12 ?_)
                refine stN_at h13 3 rfl (vs := z.cs) rfl rfl (Nat.le_of_ble_eq_true rfl) (ints_flat _) (cs' := z.cs) (by kernel_rfl) fun w14 h14 => ?_
                refine fld_at (fld_at (ldN_at h14 2 (vs := s.M.key.cs) rfl (by rfl) rfl ?_))
                refine hp2 _ _ _ (Sat.pick h14 1 rfl) fun w15 h15 => ?_
                refine xt_02 (xt_12 ?_)
                refine stN_at h15 4 rfl (vs := z.cs) rfl rfl (Nat.le_of_ble_eq_true rfl) (ints_flat _) (cs' := z.cs) (by kernel_rfl) fun w16 h16 => ?_
                exact hcut5 _ _ _ ⟨z, b3, lh2, lr2, rfl, rfl, hs2, h16.selR [_, _, _, _, _] [_, _, _, _, _] [1, 0, 2, 3, 4] (by decide) rfl⟩
              · rintro _ _ w13 ⟨z, b3, lh2, lr2, rfl, rfl, hs2, h13⟩
                refine ldN_at h13 3 (vs := z.cs) rfl (by rfl) rfl ?_
                refine ldN_at h13 4 (vs := z.cs) rfl (by rfl) rfl ?_
                refine bO_ne (ns := z.ns) (ms := z.ns) eqT_30 agg_30 egt_30 (by decide) rfl ?_
                rw [Msg.eq_ns, decide_eq_true rfl]
                refine gd_ff (gd_ff (gd_ff (bne_s ?_)))
                rw [bne_self_eq_false]
                exact pk_f (iff_f (hend _ _ _ hs2 (h13.selR [_, _, _, _, _] [_, _, _] [0, 1, 2] (by decide) rfl)))
          · refine eq_d (iff_d (fun _ => ?_) (fun _ => hend _ _ _ hs h5))
            refine dr_s h5 fun w6 h6 => ?_
            refine fld_at (fld_at (fld_at (ld1_at h6 2 rfl (v := .int .i64 s.M.key.T) rfl ?_)))
            refine fld_at (fld_at (fld_at (ld1_at h6 2 rfl (v := .int .i64 s.M.key.T) rfl ?_)))
            refine prio_Below_s (by omega) h6 fun v1 l1 w7 hp1 hu1 h7 => ?_
            refine ⟨ld1_at h7 3 rfl (v := .int .i64 s.M.key.T) rfl ⟨rfl, rfl⟩, ?_⟩
            obtain rfl : l1 = lr := up_unique hu1 hs.up (hp1.trans hs.perm.symm)
            refine ref03_Below_s (by omega) (h7.pick 2 rfl) fun v2 w8 h8 => ?_
            have hfl := List.length_filter_le (fun x : Msg => decide (x.key.T < s.M.key.T)) l1
            refine same03_s (h8.selR [_, _, _, _] [_, _, _, _] [2, 0, 3, 1] (by decide) rfl) (fun g hg => own_rd hg) (fun g hg => own_rd hg) (by omega) fun w9 h9 => ?_
            rw [decide_eq_true rfl]
            exact not_t (iff_f (hend _ _ _ hs (h9.selR [_, _, _, _, _] [_, _, _] [2, 3, 4] (by decide) rfl)))
    · rintro w6 ⟨lh1, lr1, hs1, h6⟩
      have hlen := hs1.len
      have hrl := hs1.perm.length_eq
      refine prio_Len_s h6 ?_
      refine ref03_Len_s h6.swap ?_
      refine ne_f (by omega) (gd_ff (gd_ff ?_))
      refine prio_List_s (by omega) h6 fun v1 l1 w7 hp1 hu1 h7 => ?_
      obtain rfl : l1 = lr1 := up_unique hu1 hs1.up (hp1.trans hs1.perm.symm)
      refine gd_ff (gd_ff (ref03_List_s (by omega) (h7.pick 2 rfl) fun v2 w8 h8 => gd_ff ?_))
      refine same03_s (h8.selR [_, _, _, _] [_, _, _, _] [2, 0, 3, 1] (by decide) rfl) (fun g hg => own_rd hg) (fun g hg => own_rd hg) (by omega) fun w9 h9 => ?_
      rw [decide_eq_true rfl]
      refine gd_ff (not_t (pk_f (iff_f (inc_s (by omega) ?_))))
      exact hg _ _ _ (by omega) ⟨j + 1, lh1, l1, rfl, rfl, by omega, hs1, h9.selR [_, _, _, _] [_, _] [2, 3] (by decide) rfl⟩
  · rw [zero_28]
    refine bld_s (Key.cs ⟨-7, 0, 0⟩) (by kernel_rfl) ?_
    refine bld_s (Msg.cs ⟨⟨-7, 0, 0⟩, 0, 0, 0⟩) (by kernel_rfl) ?_
    refine push_both (x := ⟨⟨-7, 0, 0⟩, 0, 0, 0⟩) hroom hs h3 fun c w7 lh' h7 hpush => ?_
    refine bld_s (Key.cs ⟨-7, 0, 0⟩) (by kernel_rfl) ?_
    refine bld_s (Msg.cs ⟨⟨-7, 0, 0⟩, 0, 0, 0⟩) (by kernel_rfl) ?_
    refine hpush _ fun w8 lr' hs' h8 => ?_
    have hrl := hs'.perm.length_eq
    refine eq_t rfl (gd_tt (gd_tt ?_))
    refine prio_Len_s h8 (gd_tt (gd_tt ?_))
    refine ref03_Len_s h8.swap (gd_tt ?_)
    refine eq_t (by omega) (pk_t (hk _ ?_))
    exact h8.selR [_, _, _] [_] [2] (by decide) rfl
end Go.Proofs.Ytbfjpmbgjgjckaa
