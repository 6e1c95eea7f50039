/- The law PrioBelow. Conditions: none. -/
import Derived.Test.YtbfjpmbgjgjckaaPrioE
import Derived.Test.YtbfjpmbgjgjckaaPrioV
namespace Go.Proofs.Ytbfjpmbgjgjckaa
open Go Go.E
set_option maxRecDepth 100000
variable {e w : World} {R : List HP} {K : KV}

/-- Of what is in order, what is below a time is a beginning. -/
theorem below_pre (t : Int) : ∀ {l : List Msg}, Upk l → ∃ m, m ≤ l.length ∧ (l.filter fun x => decide (x.key.T < t)) = l.take m ∧ ∀ (i : Nat) (x : Msg), l[i]? = some x → (x.key.T < t ↔ i < m)
  | [], _ => ⟨0, Nat.le_refl _, rfl, fun i x h => by simp at h⟩
  | y :: l, h => by
    obtain ⟨h1, h2⟩ := List.pairwise_cons.1 h
    by_cases hy : y.key.T < t
    · obtain ⟨m, hm, hf, hi⟩ := below_pre t h2
      refine ⟨m + 1, by simpa using hm, ?_, fun i x hx => ?_⟩
      · rw [List.filter_cons_of_pos (by simpa using hy), hf]
        rfl
      · cases i with
        | zero =>
          have : y = x := by simpa using hx
          subst this
          exact ⟨fun _ => by omega, fun _ => hy⟩
        | succ i =>
          have := hi i x (by simpa using hx)
          omega
    · refine ⟨0, Nat.zero_le _, ?_, fun i x hx => ⟨fun hlt => ?_, fun h => by omega⟩⟩
      · rw [List.take_zero]
        refine List.filter_eq_nil_iff.2 fun x hx => ?_
        rcases List.mem_cons.1 hx with rfl | hx
        · simpa using hy
        · have := h1 x hx
          unfold KeyLt at this
          simp
          omega
      · exfalso
        have hxm := List.mem_of_getElem? hx
        rcases List.mem_cons.1 hxm with rfl | hxl
        · exact hy hlt
        · have := h1 x hxl
          unfold KeyLt at this
          omega

theorem lenz_s {p : Bool} {v : Value} {n : Nat} (hl : ∀ K : KV, K (.int .i64 n) w → lnS v w K) (hne : p = true → n ≠ 0) (hk : K (.bool false) w) :
    gd (.bool p) true (fun k => k v w) w fun a w => gd (.bool p) true (fun k => lnS a w k) w fun b w => gd (.bool p) true (fun k => bi .eql .i64 b (Value.int IntKind.i64 0) w k) w fun c w =>
      gd (.bool false) false (fun k => pk (.bool p) c (Value.bool false) w k) w K := by
  cases p with
  | false => exact gd_ft (gd_ft (gd_ft (gd_ff (pk_f hk))))
  | true => exact gd_tt (gd_tt (hl _ (gd_tt (eq_f (by have := hne rfl; omega) (gd_ff (pk_t hk))))))

theorem prioBelow_s {v : Value} {l : List Msg} {t : Int} {S : HP} (hS : Sat e w (S :: R)) (hr : ∀ g, S g → rdS 6 Msg.cs v l g) (_ht : (Lit.int .i64 t).wf = true)
    (hk : ∀ w', Sat e w' (S :: R) → K (.bool true) w') : Cl prog 4 #[v, .int .i64 t] w K := by
  refine pacelinelaw03_PrioBelow_calls ?_
  unfold pacelinelaw03_PrioBelow
  rw [zero_30]
  refine lnS_rd hS 0 rfl hr ?_
  refine gt_c (fun c1 => iff_t (hk _ hS)) (fun c1 => iff_f ?_)
  refine prio_New_s hS fun q w1 h1 => ?_
  rw [show max (0 : Int) (min 64 64) = 64 from by decide] at h1
  refine lpi1 (fun z t6 w => ∃ (j : Nat) (lh : List Msg), t6 = .int .i64 j ∧ z = l.length - j ∧ j ≤ l.length ∧ lh.length ≤ j ∧ (0 < j → 0 < lh.length) ∧ Sat e w (IsPrio q 64 lh :: S :: R)) l.length
    ⟨0, [], rfl, rfl, Nat.zero_le _, Nat.le_refl _, (fun h => by omega), h1⟩ ?_
  rintro z _ w g1 ⟨j, lh, rfl, rfl, hj, hlj, hj0, h2⟩ hg
  refine lnS_rd h2 1 rfl hr ?_
  refine lt_c (fun c2 => iff_t ?_) (fun c2 => iff_f ?_)
  · obtain ⟨x, hx⟩ := get_of_lt (l := l) (j := j) (by omega)
    refine ixS_rd h2 1 rfl hr (fun _ => rfl) hx fun p hpx => ?_
    refine ldN_of h2 1 rfl hpx rfl ?_
    refine prio_Push_s (by omega) h2 (fun hbad w3 h3 => ?_) (fun _ _ _ l' w3 hp _ h3 => ?_)
    · refine inc_s (by omega) ?_
      refine hg _ _ _ (by omega) ⟨j + 1, lh, rfl, rfl, by omega, by omega, fun _ => ?_, h3⟩
      cases lh with
      | nil => exact absurd rfl hbad
      | cons y lh => simp
    · refine inc_s (by omega) ?_
      have hl' : l'.length = lh.length + 1 := by rw [hp.length_eq]; simp
      exact hg _ _ _ (by omega) ⟨j + 1, l', rfl, rfl, by omega, by omega, fun _ => by omega, h3⟩
  have hjl : j = l.length := by omega
  refine prio_List_s (by omega) h2 fun v1 a w3 hpa hua h3 => ?_
  refine prio_Below_s (by omega) h3.swap fun v2 a' w4 hpa' hua' h4 => ?_
  have haa : a' = a := up_unique hua' hua (hpa'.trans hpa.symm)
  subst haa
  obtain ⟨m, hm, hf, hi⟩ := below_pre t hua
  rw [hf] at h4
  have hal := hpa.length_eq
  have htl : (a'.take m).length = m := by rw [List.length_take]; omega
  replace h4 : Sat e w4 (ownS 30 6 Msg.cs v1 a' :: ownS 30 6 Msg.cs v2 (a'.take m) :: IsPrio q 64 lh :: S :: R) := h4.selR [_, _, _] [_, _, _] [2, 0, 1] (by decide) rfl
  refine lnS_rd h4 0 rfl (fun g hg => own_rd hg) ?_
  refine prio_Len_s (h4.pick 2 rfl) ?_
  refine ne_f (by omega) (gd_ff (gd_ff (lnS_rd h4 1 rfl (fun g hg => own_rd hg) ?_)))
  refine gd_ff (gd_ff (lnS_rd h4 0 rfl (fun g hg => own_rd hg) (gd_ff (gt_f (by omega) (pk_f (gd_ff (gd_ff ?_)))))))
  refine lnS_rd h4 3 rfl hr (gd_ff ?_)
  refine gt_d (gd_ff ?_)
  refine lenz_s (fun K hK => lnS_rd h4 0 rfl (fun g hg => own_rd hg) hK) (fun hp => ?_) ?_
  · have h0 : 0 < l.length := by have := of_decide_eq_true hp; omega
    have := hj0 (by omega)
    omega
  refine pk_f (iff_f ?_)
  refine lpi1 (fun z t9 w => ∃ i : Nat, i ≤ a'.length ∧ t9 = .int .i64 i ∧ z = a'.length - i ∧ Sat e w (ownS 30 6 Msg.cs v1 a' :: ownS 30 6 Msg.cs v2 (a'.take m) :: IsPrio q 64 lh :: S :: R)) a'.length
    ⟨0, Nat.zero_le _, rfl, rfl, h4⟩ ?_
  clear h4
  rintro z _ w g2 ⟨i, hil, rfl, rfl, h4⟩ hg2
  refine lnS_rd h4 0 rfl (fun g hg => own_rd hg) ?_
  refine lt_c (fun c4 => iff_t ?_) (fun c4 => iff_f ?_)
  · obtain ⟨x, hx⟩ := get_of_lt (l := a') (j := i) (by omega)
    have hxm := hi i x hx
    refine dr_s h4 fun w5 h5 => ?_
    refine ixS_rd h5 0 rfl (fun g hg => own_rd hg) (fun _ => rfl) hx fun p hp => ?_
    refine fld_of hp fun p1 hp1 => fld_of hp1 fun p2 hp2 => ?_
    refine ld1_of h5 0 rfl hp2 rfl ?_
    refine lt_d ?_
    refine lnS_rd h5 1 rfl (fun g hg => own_rd hg) ?_
    rw [htl]
    refine lt_d (bne_s ?_)
    have hd : (decide ((i : Int) < (m : Int))) = decide (x.key.T < t) := by
      by_cases h : i < m
      · rw [decide_eq_true (by omega), decide_eq_true (hxm.2 h)]
      · rw [decide_eq_false (by omega), decide_eq_false (fun hh => h (hxm.1 hh))]
    have hdone : iff' (.bool false) (K (Value.bool false) w5) (bi .add .i64 (.int .i64 (i : Int)) (Value.int IntKind.i64 1) w5 fun t58 w => g2 [t58] w) := by
      refine iff_f (inc_s (by omega) ?_)
      exact hg2 _ _ _ (by omega) ⟨i + 1, by omega, rfl, rfl, h5⟩
    rw [hd, bne_self_eq_false]
    refine gd_ff (gd_ff (gd_ff (lnS_rd h5 1 rfl (fun g hg => own_rd hg) ?_)))
    rw [htl]
    by_cases him : i < m
    · have hxb : (a'.take m)[i]? = some x := by rw [List.getElem?_take_of_lt him]; exact hx
      refine gd_ff (lt_t (by omega) (gd_ff (gd_tt (gd_tt (gd_tt ?_)))))
      refine ixS_rd h5 1 rfl (fun g hg => own_rd hg) (fun _ => rfl) hxb fun p hp => ?_
      refine gd_tt (ldN_of h5 1 rfl hp rfl (gd_tt (gd_tt (gd_tt ?_))))
      refine ixS_rd h5 0 rfl (fun g hg => own_rd hg) (fun _ => rfl) hx fun p hp => ?_
      refine gd_tt (ldN_of h5 0 rfl hp rfl (gd_tt ?_))
      refine bO_ne (ns := x.ns) (ms := x.ns) eqT_30 agg_30 egt_30 (by decide) rfl ?_
      rw [Msg.eq_ns, decide_eq_true rfl]
      exact gd_ff (pk_t (pk_f hdone))
    · refine gd_ff (lt_f (by omega) (gd_ff ?_))
      exact gd_ft (gd_ft (gd_ft (gd_ft (gd_ft (gd_ft (gd_ft (gd_ft (gd_ft (gd_ff (pk_f (pk_f hdone)))))))))))
  · refine prio_New_s h4 fun q2 w6 h6 => ?_
    rw [show max (0 : Int) (min 1 64) = 1 from by decide] at h6
    refine bld_s Msg.zero.cs (by kernel_rfl) ?_
    refine prio_Push_s (x := Msg.zero) (by simp) h6 (fun h => absurd rfl h) (fun _ _ _ l1 w7 _ _ h7 => ?_)
    exact eq_t rfl (hk _ (h7.selR [_, _, _, _, _] [_] [4] (by decide) rfl))
end Go.Proofs.Ytbfjpmbgjgjckaa
