/- The law PrioFirst. Conditions: none. -/
import Derived.Test.YtbfjpmbgjgjckaaPrioL
import Derived.Test.YtbfjpmbgjgjckaaPrioQ
namespace Go.Proofs.Ytbfjpmbgjgjckaa
open Go Go.E
set_option maxRecDepth 100000
variable {e w : World} {R : List HP} {K : KV}

theorem pushE_in' {room : Int} {l : List Msg} {x : Msg} (h : ∃ y ∈ l, y.key = x.key) : pushE room l x = 3 := by
  obtain ⟨y, hy, hk⟩ := h
  exact if_pos (List.any_eq_true.2 ⟨y, hy, by simpa using hk⟩)
theorem pushE_out {room : Int} {l : List Msg} {x : Msg} (h : ∀ y ∈ l, y.key ≠ x.key) : pushE room l x = if room ≤ l.length then 2 else 0 := by
  unfold pushE
  rw [if_neg]
  intro ha
  obtain ⟨y, hy, hk⟩ := List.any_eq_true.1 ha
  exact h y hy (by simpa using hk)
/-- A heap's first one is the first one of all in order. -/
theorem heap_first {l l' : List Msg} {x : Msg} (hh : Heapy l l.length) (hx : l[0]? = some x) (hp : l'.Perm l) (hu : Upk l') : l'[0]? = some x ∧ ∀ y ∈ l', ¬ KeyLt y.key x.key := by
  have hmin : ∀ y ∈ l', ¬ KeyLt y.key x.key := fun y hy => by
    obtain ⟨i, hi⟩ := List.mem_iff_getElem?.1 (hp.mem_iff.1 hy)
    exact hh.min (Nat.le_refl _) hx i y (List.getElem?_eq_some_iff.1 hi).1 hi
  refine ⟨?_, hmin⟩
  have hxl : x ∈ l' := hp.mem_iff.2 (List.mem_of_getElem? hx)
  cases l' with
  | nil => cases hxl
  | cons y l' =>
    rcases List.mem_cons.1 hxl with rfl | h
    · rfl
    · exact absurd ((List.pairwise_cons.1 hu).1 x h) (hmin y List.mem_cons_self)

theorem prioFirst_s {v : Value} {l : List Msg} {S : HP} (hS : Sat e w (S :: R)) (hr : ∀ g, S g → rdS 6 Msg.cs v l g) {pops : Int} (hpw : (Lit.int .u8 pops).wf = true)
    (hk : ∀ w', Sat e w' (S :: R) → K (.bool true) w') : Cl prog 5 #[v, .int .u8 pops] w K := by
  have hpd := wfU8 hpw
  refine pacelinelaw03_PrioFirst_calls ?_
  unfold pacelinelaw03_PrioFirst
  rw [zero_30]
  refine lnS_rd hS 0 rfl hr ?_
  refine gt_c (fun c1 => iff_t (hk _ hS)) (fun c1 => iff_f ?_)
  refine prio_New_s hS fun q w1 h1 => ?_
  rw [show max (0 : Int) (min 64 64) = 64 from by decide] at h1
  refine lpi1 (fun z t6 w => ∃ (j : Nat) (lh : List Msg), t6 = .int .i64 j ∧ z = l.length - j ∧ j ≤ l.length ∧ lh.length ≤ j ∧ Heapy lh lh.length ∧ Sat e w (IsPrio q 64 lh :: S :: R)) l.length
    ⟨0, [], rfl, rfl, Nat.zero_le _, Nat.le_refl _, (fun i x y _ h => by simp at h), h1⟩ ?_
  rintro z _ w g1 ⟨j, lh, rfl, rfl, hj, hlj, hh, h2⟩ hg
  refine lnS_rd h2 1 rfl hr ?_
  refine lt_c (fun c2 => iff_t ?_) (fun c2 => iff_f ?_)
  · obtain ⟨x, hx⟩ := get_of_lt (l := l) (j := j) (by omega)
    refine ixS_rd h2 1 rfl hr (fun _ => rfl) hx fun p hpx => ?_
    refine ldN_of h2 1 rfl hpx rfl ?_
    refine prio_Push_s (by omega) h2 (fun _ w3 h3 => ?_) (fun _ _ _ l' w3 hp hheap h3 => ?_)
    · refine inc_s (by omega) ?_
      exact hg _ _ _ (by omega) ⟨j + 1, lh, rfl, rfl, by omega, by omega, hh, h3⟩
    · refine inc_s (by omega) ?_
      exact hg _ _ _ (by omega) ⟨j + 1, l', rfl, rfl, by omega, by rw [hp.length_eq]; simp; omega, hheap hh, h3⟩
  refine prio_New_s h2 fun q1 w3 h3 => ?_
  rw [show max (0 : Int) (min 1 64) = 1 from by decide] at h3
  refine bld_s Msg.zero.cs (by kernel_rfl) ?_
  refine prio_Push_s (x := Msg.zero) (by simp) h3 (fun h => absurd rfl h) (fun _ _ _ l1 w4 hp1 _ h4 => ?_)
  have hl1 : l1.length = 1 := by rw [hp1.length_eq]; rfl
  refine ne_f rfl (gd_ff (gd_ff ?_))
  refine prio_Len_s h4 ?_
  refine gd_ff (ne_f (by omega) (pk_f (iff_f ?_)))
  replace h4 := h4.drop
  have hl64 : lh.length ≤ 64 := by omega
  clear h3 hp1 hl1 h2 hlj
  refine lpi1 (fun z t8 w => ∃ (i : Nat) (lq : List Msg), t8 = .int .i64 i ∧ z = 9 - i ∧ i ≤ 9 ∧ lq.length ≤ 64 ∧ Heapy lq lq.length ∧ Sat e w (IsPrio q 64 lq :: S :: R)) 9
    ⟨0, lh, rfl, rfl, by decide, hl64, hh, h4⟩ ?_
  rintro z _ w g2 ⟨i, lq, rfl, rfl, hi9, hlq, hhq, h5⟩ hg2
  refine cv_s ?_
  rw [wrap_i64 (by omega) (by omega)]
  refine rem_s (by decide) ?_
  rw [Int.tmod_eq_emod_of_nonneg (by omega)]
  refine le_c (fun c3 => iff_t ?_) (fun c3 => iff_f ?_)
  · by_cases hlq0 : lq = []
    · subst hlq0
      refine prio_First_none h5 fun w6 h6 => ?_
      refine xt_02 (xt_12 ?_)
      refine al_s (cs := ints [0, 0, 0, 0, 0, 0]) h6 rfl fun d w7 h7 => ?_
      refine stN_at h7 0 rfl (vs := Msg.zero.cs) rfl rfl (Nat.le_of_ble_eq_true rfl) (ints_flat _) (cs' := Msg.zero.cs) (by kernel_rfl) fun w8 h8 => ?_
      refine prio_List_s (by simp) h8.swap fun v2 l' w9 hp _ h9 => ?_
      have hl' : l' = [] := List.length_eq_zero_iff.1 (by rw [hp.length_eq]; rfl)
      subst hl'
      refine lnS_rd h9 0 rfl (fun g hg => own_rd hg) ?_
      refine gt_f (by decide) (bne_s (iff_f ?_))
      refine lpi1 (fun z t12 w' => t12 = .int .i64 0 ∧ w' = w9) 0 ⟨rfl, rfl⟩ ?_
      rintro z _ w9 g3 ⟨rfl, rfl⟩ _
      refine lnS_rd h9 0 rfl (fun g hg => own_rd hg) ?_
      refine lt_f (by decide) (iff_f ?_)
      refine prio_Len_s h9.drop ?_
      refine prio_Pop_none (h9.drop) fun w10 h10 => ?_
      refine xt_02 (xt_12 ?_)
      refine al_s (cs := ints [0, 0, 0, 0, 0, 0]) h10 rfl fun d2 w11 h11 => ?_
      refine stN_at h11 0 rfl (vs := Msg.zero.cs) rfl rfl (Nat.le_of_ble_eq_true rfl) (ints_flat _) (cs' := Msg.zero.cs) (by kernel_rfl) fun w12 h12 => ?_
      refine ldN_at h12 0 (vs := Msg.zero.cs) rfl (by rfl) rfl ?_
      refine ldN_at h12 2 (vs := Msg.zero.cs) rfl (by rfl) rfl ?_
      refine bO_ne (ns := Msg.zero.ns) (ms := Msg.zero.ns) eqT_30 agg_30 egt_30 (by decide) rfl ?_
      rw [Msg.eq_ns, decide_eq_true rfl]
      refine gd_ff (gd_ff (gd_ff (bne_s (pk_f (gd_ff (gd_ff ?_))))))
      refine gd_ft (gd_ft (gd_ft (gd_ft (gd_ft (gd_ff (pk_f (pk_f (iff_f (inc_s (by omega) ?_)))))))))
      exact hg2 _ _ _ (by omega) ⟨i + 1, [], rfl, rfl, by omega, by simp, hhq, h12.selR [_, _, _] [_] [1] (by decide) rfl⟩
    · obtain ⟨x, hx⟩ := get_of_lt (l := lq) (j := 0) (by have := List.length_pos_iff.2 hlq0; omega)
      have h00 := (List.getElem?_eq_some_iff.1 hx).1
      refine prio_First_s hx h5 fun w6 h6 => ?_
      refine xt_02 (xt_12 ?_)
      refine al_s (cs := ints [0, 0, 0, 0, 0, 0]) h6 rfl fun d w7 h7 => ?_
      refine stN_at h7 0 rfl (vs := x.cs) rfl rfl (Nat.le_of_ble_eq_true rfl) (ints_flat _) (cs' := x.cs) (by kernel_rfl) fun w8 h8 => ?_
      refine prio_List_s (by omega) h8.swap fun v2 l' w9 hp hu h9 => ?_
      obtain ⟨hf0, hfm⟩ := heap_first hhq hx hp hu
      have hll := hp.length_eq
      refine lnS_rd h9 0 rfl (fun g hg => own_rd hg) ?_
      refine gt_t (by omega) (bne_s (iff_f ?_))
      refine lpi1 (fun z t12 w => ∃ k : Nat, k ≤ l'.length ∧ t12 = .int .i64 k ∧ z = l'.length - k ∧ Sat e w (ownS 30 6 Msg.cs v2 l' :: IsPrio q 64 lq :: blk d 30 x.cs :: S :: R)) l'.length ⟨0, Nat.zero_le _, rfl, rfl, h9⟩ ?_
      rintro z _ w g3 ⟨k, hkl, rfl, rfl, h10⟩ hg3
      refine lnS_rd h10 0 rfl (fun g hg => own_rd hg) ?_
      refine lt_c (fun c4 => iff_t ?_) (fun c4 => iff_f ?_)
      · obtain ⟨y, hy⟩ := get_of_lt (l := l') (j := k) (by omega)
        have hny := hfm y (List.mem_of_getElem? hy)
        have hdone : ∀ w', Sat e w' (ownS 30 6 Msg.cs v2 l' :: IsPrio q 64 lq :: blk d 30 x.cs :: S :: R) → iff' (.bool false) (K (Value.bool false) w') (bi .add .i64 (.int .i64 (k : Int)) (Value.int IntKind.i64 1) w' fun t66 w => g3 [t66] w) := fun w' h => by
          refine iff_f (inc_s (by omega) ?_)
          exact hg3 _ _ _ (by omega) ⟨k + 1, by omega, rfl, rfl, h⟩
        refine dr_s h10 fun w11 h11 => ?_
        refine fld_at (ldN_at h11 2 (vs := x.key.cs) rfl (by rfl) rfl ?_)
        refine ixS_rd h11 0 rfl (fun g hg => own_rd hg) (fun _ => rfl) hy fun p hp => ?_
        refine fld_of hp fun p1 hp1 => ?_
        refine ldN_sub (us := y.key.cs) h11 0 rfl hp1 (by rfl) rfl ?_
        refine ref01_Cmp_s h11 fun w12 h12 => ?_
        refine gt_f (fun h => hny (cmpK_gt.1 h)) (gd_ff (gd_ff ?_))
        by_cases hk0 : k = 0
        · subst hk0
          rw [hf0] at hy
          injection hy with hy
          subst hy
          refine eq_t rfl (gd_ff (gd_tt (ldN_at h12 2 (vs := x.cs) rfl (by rfl) rfl (gd_tt (gd_tt ?_)))))
          refine ixS_rd (j := 0) h12 0 rfl (fun g hg => own_rd hg) (fun _ => rfl) hf0 fun p hp => ?_
          refine gd_tt (ldN_of h12 0 rfl hp rfl ?_)
          refine gd_tt (bO_ne (ns := x.ns) (ms := x.ns) eqT_30 agg_30 egt_30 (by decide) rfl ?_)
          rw [Msg.eq_ns, decide_eq_true rfl]
          exact gd_ff (pk_t (pk_f (hdone _ h12)))
        · refine eq_f (by omega) (gd_ff ?_)
          exact gd_ft (gd_ft (gd_ft (gd_ft (gd_ft (gd_ff (pk_f (pk_f (hdone _ h12))))))))
      · replace h10 : Sat e w (IsPrio q 64 lq :: blk d 30 x.cs :: S :: R) := h10.drop
        refine prio_Len_s h10 ?_
        refine prio_Pop_s hx (by omega) h10 fun l2 w11 hp2 hh2 h11 => ?_
        have hl2 : l2.length + 1 = lq.length := by rw [← hp2.length_eq]; simp
        refine xt_02 (xt_12 ?_)
        refine al_s (cs := ints [0, 0, 0, 0, 0, 0]) h11 rfl fun d2 w12 h12 => ?_
        refine stN_at h12 0 rfl (vs := x.cs) rfl rfl (Nat.le_of_ble_eq_true rfl) (ints_flat _) (cs' := x.cs) (by kernel_rfl) fun w13 h13 => ?_
        refine ldN_at h13 0 (vs := x.cs) rfl (by rfl) rfl ?_
        refine ldN_at h13 2 (vs := x.cs) rfl (by rfl) rfl ?_
        refine bO_ne (ns := x.ns) (ms := x.ns) eqT_30 agg_30 egt_30 (by decide) rfl ?_
        rw [Msg.eq_ns, decide_eq_true rfl]
        refine gd_ff (gd_ff (gd_ff (bne_s (pk_f (gd_ff (gd_ff ?_))))))
        refine gd_tt (gd_tt ?_)
        refine prio_Len_s (h13.pick 1 rfl |> fun h => h) ?_
        refine gd_tt (gd_tt (dec_s (by omega) (by omega) (gd_tt (ne_f (by omega) (gd_ff (pk_t (pk_f (iff_f (inc_s (by omega) ?_)))))))))
        exact hg2 _ _ _ (by omega) ⟨i + 1, l2, rfl, rfl, by omega, by omega, hh2 hhq, h13.selR [_, _, _] [_] [1] (by decide) rfl⟩
  · refine prio_New_s h5 fun q2 w6 h6 => ?_
    rw [show max (0 : Int) (min 1 64) = 1 from by decide] at h6
    refine bld_s Msg.zero.cs (by kernel_rfl) ?_
    refine prio_Push_s (x := Msg.zero) (by simp) h6 (fun h => absurd rfl h) (fun _ _ _ l1 w7 _ _ h7 => ?_)
    exact eq_t rfl (hk _ (h7.selR [_, _, _] [_] [2] (by decide) rfl))

end Go.Proofs.Ytbfjpmbgjgjckaa
