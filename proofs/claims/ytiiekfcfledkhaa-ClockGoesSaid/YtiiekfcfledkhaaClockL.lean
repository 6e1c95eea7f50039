/- The law ClockLeast. Conditions: none. -/
import Derived.Test.YtiiekfcfledkhaaClockB
namespace Go.Proofs.Ytiiekfcfledkhaa
open Go Go.E
set_option maxRecDepth 100000
variable {e w : World} {R : List HP} {K : KV}

def Clk.Good (c : Clk) : Prop := ∀ x ∈ c.L, 0 ≤ x ∧ x ≤ Inf
theorem validT_bd {t : Int} (h : validT t = true) : 0 ≤ t ∧ t ≤ Inf := by
  simp only [validT, decide_eq_true_eq] at h
  unfold Inf MaxT at *
  omega
theorem Clk.Good.get {c : Clk} (h : c.Good) {j : Int} (hj : c.okJ j) : 0 ≤ c.get j ∧ c.get j ≤ Inf := by
  refine h _ ?_
  have hl : j.toNat < c.L.length := by have := hj.1; have := hj.2.1; omega
  unfold Clk.get
  rw [List.getD_eq_getElem?_getD, List.getElem?_eq_getElem hl]
  exact List.getElem_mem hl
theorem Clk.hear_cases (c : Clk) (j t : Int) : (c.hearE j t ≠ 0 ∧ c.hear j t = c) ∨ (c.okJ j ∧ validT t = true ∧ ¬ t < c.get j ∧ c.hearE j t = 0 ∧ c.hear j t = ⟨c.L.set j.toNat t, c.self, c.told⟩) := by
  by_cases h : ¬ c.okJ j ∨ validT t = false
  · exact .inl ⟨by rw [Clk.hearE_bad h]; decide, Clk.hear_bad h⟩
  · have ho : c.okJ j := by by_cases k : c.okJ j; exact k; exact absurd (Or.inl k) h
    have hv : validT t = true := by cases k : validT t; exact absurd (Or.inr k) h; rfl
    by_cases h1 : t < c.get j
    · exact .inl ⟨by rw [Clk.hearE_early ho hv h1]; decide, Clk.hear_early ho hv h1⟩
    · exact .inr ⟨ho, hv, h1, Clk.hearE_ok ho hv h1, Clk.hear_ok ho hv h1⟩
theorem Clk.Good.hear {c : Clk} (h : c.Good) (j t : Int) : (c.hear j t).Good := by
  rcases c.hear_cases j t with ⟨_, h1⟩ | ⟨_, hv, _, _, h1⟩
  · rw [h1]; exact h
  · rw [h1]
    intro x hx
    rcases List.mem_or_eq_of_mem_set hx with hx | rfl
    · exact h x hx
    · exact validT_bd hv
theorem Clk.hear_len (c : Clk) (j t : Int) : (c.hear j t).L.length = c.L.length := by
  rcases c.hear_cases j t with ⟨_, h1⟩ | ⟨_, _, _, _, h1⟩ <;> simp [h1]
theorem Clk.hear_self (c : Clk) (j t : Int) : (c.hear j t).self = c.self := by
  rcases c.hear_cases j t with ⟨_, h1⟩ | ⟨_, _, _, _, h1⟩ <;> simp [h1]
theorem Clk.hear_told (c : Clk) (j t : Int) : (c.hear j t).told = c.told := by
  rcases c.hear_cases j t with ⟨_, h1⟩ | ⟨_, _, _, _, h1⟩ <;> simp [h1]

/-- Where somebody else is, the bound is where somebody is. -/
theorem Clk.bound_at {c : Clk} (h : c.Good) {j : Int} (hj : c.okJ j) : ∃ i, c.okJ i ∧ c.get i = c.bound := by
  obtain ⟨h1, h2, h3⟩ := c.bound_is
  rcases h3 with h3 | ⟨i, hi, h3⟩
  · refine ⟨j, hj, ?_⟩
    have := h2 j hj
    have := (h.get hj).2
    omega
  · exact ⟨i, hi, h3.symm⟩

theorem clockLeast_s {n self : Int} {v : Value} {l : List CStep} {S : HP} (hS : Sat e w (S :: R)) (hn : (Lit.int .u8 n).wf = true) (hs : (Lit.int .u8 self).wf = true) (hr : ∀ g, S g → rdS 3 CStep.cs v l g) (hw : ∀ x ∈ l, ∀ m ∈ x.ns, (Lit.int .i64 m).wf = true)
    (hk : ∀ w', Sat e w' (S :: R) → K (.bool true) w') : Cl prog 4 #[.int .u8 n, .int .u8 self, v] w K := by
  have hn' := wf_u8 hn
  have hs' := wf_u8 hs
  refine pacelinelaw11_ClockLeast_calls ?_
  unfold pacelinelaw11_ClockLeast
  refine lnS_rd hS 0 rfl hr ?_
  refine gt_c (fun c1 => iff_t (hk _ hS)) (fun c1 => iff_f ?_)
  refine cv_s ?_
  rw [wrap_i64 (by omega) (by omega)]
  refine rem_s (by decide) ?_
  rw [Int.tmod_eq_emod_of_nonneg (by omega)]
  refine add_s (by omega) (by omega) ?_
  obtain ⟨k, hkk⟩ : ∃ k : Nat, (2 + n % 7) = (k : Int) := ⟨(2 + n % 7).toNat, by omega⟩
  rw [hkk]
  refine cv_s ?_
  rw [wrap_i64 (by omega) (by omega)]
  refine rem_s (by omega) ?_
  rw [Int.tmod_eq_emod_of_nonneg (by omega)]
  have hme1 : 0 ≤ self % (k : Int) := Int.emod_nonneg _ (by omega)
  have hme2 : self % (k : Int) < k := Int.emod_lt_of_pos _ (by omega)
  generalize self % (k : Int) = me at hme1 hme2 ⊢
  refine clock_New_s (n := k) (self := me) (by omega) (by omega) (by omega) (by omega) hS fun g w1 h1 => ?_
  repeat (first | refine gd_tt ?_ | refine gd_ff ?_ | refine gd_tf ?_ | refine gd_ft ?_ | refine gd_u ?_ | refine pk_t ?_ | refine pk_f ?_ | refine iff_t ?_ | refine iff_f ?_ | refine not_t ?_ | refine not_f ?_ | refine beq_s ?_ | refine bne_s ?_ | refine ncP_p ?_ | refine fld_at ?_ | refine xt_02 ?_ | refine xt_12 ?_ | refine xt_03 ?_ | refine xt_13 ?_ | refine xt_23 ?_ | refine eq_t (by omega) ?_ | refine eq_f (by omega) ?_ | refine ne_t (by omega) ?_ | refine ne_f (by omega) ?_ | refine lt_t (by omega) ?_ | refine lt_f (by omega) ?_ | refine gt_t (by omega) ?_ | refine gt_f (by omega) ?_ | refine ge_t (by omega) ?_ | refine ge_f (by omega) ?_ | refine le_t (by omega) ?_ | refine le_f (by omega) ?_)
  refine bnp_s _ ?_
  repeat (first | refine gd_tt ?_ | refine gd_ff ?_ | refine gd_tf ?_ | refine gd_ft ?_ | refine gd_u ?_ | refine pk_t ?_ | refine pk_f ?_ | refine iff_t ?_ | refine iff_f ?_ | refine not_t ?_ | refine not_f ?_ | refine beq_s ?_ | refine bne_s ?_ | refine ncP_p ?_ | refine fld_at ?_ | refine xt_02 ?_ | refine xt_12 ?_ | refine xt_03 ?_ | refine xt_13 ?_ | refine xt_23 ?_ | refine eq_t (by omega) ?_ | refine eq_f (by omega) ?_ | refine ne_t (by omega) ?_ | refine ne_f (by omega) ?_ | refine lt_t (by omega) ?_ | refine lt_f (by omega) ?_ | refine gt_t (by omega) ?_ | refine gt_f (by omega) ?_ | refine ge_t (by omega) ?_ | refine ge_f (by omega) ?_ | refine le_t (by omega) ?_ | refine le_f (by omega) ?_)
  refine lp1 (fun t11 w => ∃ (j : Nat) (c : Clk), j ≤ l.length ∧ t11 = .int .i64 j ∧ (c.Good ∧ c.L.length = k ∧ c.self = me) ∧ Sat e w (IsClk g c :: S :: R)) (fun t11 _ => l.length - nOf t11)
    ⟨0, ⟨List.replicate k 0, me, 0⟩, Nat.zero_le _, rfl, ⟨fun x hx => by rw [(List.mem_replicate.1 hx).2]; unfold Inf; omega, by simp, rfl⟩, h1⟩ ?_
  rintro _ w g1 ⟨j, c, hj, rfl, hI, h3⟩ hg
  refine lnS_rd h3 1 rfl hr ?_
  refine lt_c (fun c2 => ?_) (fun c2 => ?_)
  · refine iff_t ?_
    refine J0.cut (fun w => ∃ c : Clk, (c.Good ∧ c.L.length = k ∧ c.self = me) ∧ Sat e w (IsClk g c :: S :: R)) (fun k2 hcut => ?_) (fun w hA => ?_)
    · obtain ⟨x, hx⟩ := get_of_lt (l := l) (j := j) (by omega)
      have hxw := hw x (List.mem_of_getElem? hx)
      refine ixS_rd h3 1 rfl hr (fun _ => rfl) hx fun a ha => ?_
      refine fld_of ha fun a1 ha1 => ?_
      refine ld1_of h3 1 rfl ha1 rfl ?_
      refine eq_c (fun c3 => iff_t ?_) (fun c3 => iff_f (hcut _ ⟨c, hI, h3⟩))
      refine dr_s h3 fun w4 h4 => ?_
      refine ixS_rd h4 1 rfl hr (fun _ => rfl) hx fun a ha => ?_
      refine fld_of ha fun a1 ha1 => ?_
      refine ld1_of h4 1 rfl ha1 rfl ?_
      refine ixS_rd h4 1 rfl hr (fun _ => rfl) hx fun a ha => ?_
      refine fld_of ha fun a1 ha1 => ?_
      refine ld1_of h4 1 rfl ha1 rfl ?_
      refine clock_Hear_s (In64.of_wf (hxw _ (by simp [CStep.ns]))) h4 fun w5 h5 => ?_
      exact hcut _ ⟨_, ⟨hI.1.hear _ _, (Clk.hear_len _ _ _).trans hI.2.1, (Clk.hear_self _ _ _).trans hI.2.2⟩, h5⟩
    · obtain ⟨c', hc', h5⟩ := hA
      refine inc_s (by omega) ?_
      exact hg _ _ ⟨j + 1, c', by omega, rfl, hc', h5⟩ (by simp [nOf]; omega)
  · refine iff_f ?_
    obtain ⟨hG, hL, hM⟩ := hI
    obtain ⟨b1, b2, b3⟩ := c.bound_is
    have hat : ∀ i : Nat, i < k → (i : Int) ≠ me → c.okJ i ∧ c.at' i = c.get i := fun i h1 h2 => by
      have ho : c.okJ i := ⟨by omega, by omega, by rw [hM]; exact h2⟩
      exact ⟨ho, if_pos ho⟩
    refine lp2 (fun t12 t13 w => ∃ (j : Nat) (q : Bool), j ≤ k ∧ t13 = .int .i64 j ∧ t12 = .bool q ∧ (q = true ↔ ∃ i : Nat, i < j ∧ (i : Int) ≠ me ∧ c.at' i = c.bound) ∧ Sat e w (IsClk g c :: S :: R)) (fun _ t13 _ => k - nOf t13)
      ⟨0, false, Nat.zero_le _, rfl, rfl, ⟨fun h => (by cases h), fun ⟨i, hi, _⟩ => absurd hi (by omega)⟩, h3⟩ ?_
    rintro _ _ w g3 ⟨j, q, hj, rfl, rfl, hq, h4⟩ hg
    refine lt_c (fun c3 => iff_t ?_) (fun c3 => iff_f ?_)
    · have hin : ∀ q' : Bool, (q' = true ↔ ∃ i : Nat, i < j + 1 ∧ (i : Int) ≠ me ∧ c.at' i = c.bound) → ∀ w', Sat e w' (IsClk g c :: S :: R) → g3 [.bool q', .int .i64 ((j + 1 : Nat) : Int)] w' := fun q' hq' w' h' =>
        hg _ _ _ ⟨j + 1, q', by omega, rfl, rfl, hq', h'⟩ (by simp [nOf]; omega)
      by_cases hjm : (j : Int) = me
      · repeat (first | refine gd_tt ?_ | refine gd_ff ?_ | refine gd_tf ?_ | refine gd_ft ?_ | refine gd_u ?_ | refine pk_t ?_ | refine pk_f ?_ | refine iff_t ?_ | refine iff_f ?_ | refine not_t ?_ | refine not_f ?_ | refine beq_s ?_ | refine bne_s ?_ | refine ncP_p ?_ | refine fld_at ?_ | refine xt_02 ?_ | refine xt_12 ?_ | refine xt_03 ?_ | refine xt_13 ?_ | refine xt_23 ?_ | refine eq_t (by omega) ?_ | refine eq_f (by omega) ?_ | refine ne_t (by omega) ?_ | refine ne_f (by omega) ?_ | refine lt_t (by omega) ?_ | refine lt_f (by omega) ?_ | refine gt_t (by omega) ?_ | refine gt_f (by omega) ?_ | refine ge_t (by omega) ?_ | refine ge_f (by omega) ?_ | refine le_t (by omega) ?_ | refine le_f (by omega) ?_)
        cases q with
        | true =>
          repeat (first | refine gd_tt ?_ | refine gd_ff ?_ | refine gd_tf ?_ | refine gd_ft ?_ | refine gd_u ?_ | refine pk_t ?_ | refine pk_f ?_ | refine iff_t ?_ | refine iff_f ?_ | refine not_t ?_ | refine not_f ?_ | refine beq_s ?_ | refine bne_s ?_ | refine ncP_p ?_ | refine fld_at ?_ | refine xt_02 ?_ | refine xt_12 ?_ | refine xt_03 ?_ | refine xt_13 ?_ | refine xt_23 ?_ | refine eq_t (by omega) ?_ | refine eq_f (by omega) ?_ | refine ne_t (by omega) ?_ | refine ne_f (by omega) ?_ | refine lt_t (by omega) ?_ | refine lt_f (by omega) ?_ | refine gt_t (by omega) ?_ | refine gt_f (by omega) ?_ | refine ge_t (by omega) ?_ | refine ge_f (by omega) ?_ | refine le_t (by omega) ?_ | refine le_f (by omega) ?_)
          refine inc_s (by omega) (hin true ⟨fun _ => ?_, fun _ => rfl⟩ _ h4)
          obtain ⟨i, hi, hi2⟩ := hq.1 rfl
          exact ⟨i, by omega, hi2⟩
        | false =>
          repeat (first | refine gd_tt ?_ | refine gd_ff ?_ | refine gd_tf ?_ | refine gd_ft ?_ | refine gd_u ?_ | refine pk_t ?_ | refine pk_f ?_ | refine iff_t ?_ | refine iff_f ?_ | refine not_t ?_ | refine not_f ?_ | refine beq_s ?_ | refine bne_s ?_ | refine ncP_p ?_ | refine fld_at ?_ | refine xt_02 ?_ | refine xt_12 ?_ | refine xt_03 ?_ | refine xt_13 ?_ | refine xt_23 ?_ | refine eq_t (by omega) ?_ | refine eq_f (by omega) ?_ | refine ne_t (by omega) ?_ | refine ne_f (by omega) ?_ | refine lt_t (by omega) ?_ | refine lt_f (by omega) ?_ | refine gt_t (by omega) ?_ | refine gt_f (by omega) ?_ | refine ge_t (by omega) ?_ | refine ge_f (by omega) ?_ | refine le_t (by omega) ?_ | refine le_f (by omega) ?_)
          refine inc_s (by omega) (hin false ⟨fun h => (by cases h), fun ⟨i, hi, hi2⟩ => ?_⟩ _ h4)
          by_cases hij : i = j
          · subst hij; exact absurd hjm hi2.1
          · exact hq.2 ⟨i, by omega, hi2⟩
      · obtain ⟨ho, ha⟩ := hat j (by omega) hjm
        have hge := b2 j ho
        repeat (first | refine gd_tt ?_ | refine gd_ff ?_ | refine gd_tf ?_ | refine gd_ft ?_ | refine gd_u ?_ | refine pk_t ?_ | refine pk_f ?_ | refine iff_t ?_ | refine iff_f ?_ | refine not_t ?_ | refine not_f ?_ | refine beq_s ?_ | refine bne_s ?_ | refine ncP_p ?_ | refine fld_at ?_ | refine xt_02 ?_ | refine xt_12 ?_ | refine xt_03 ?_ | refine xt_13 ?_ | refine xt_23 ?_ | refine eq_t (by omega) ?_ | refine eq_f (by omega) ?_ | refine ne_t (by omega) ?_ | refine ne_f (by omega) ?_ | refine lt_t (by omega) ?_ | refine lt_f (by omega) ?_ | refine gt_t (by omega) ?_ | refine gt_f (by omega) ?_ | refine ge_t (by omega) ?_ | refine ge_f (by omega) ?_ | refine le_t (by omega) ?_ | refine le_f (by omega) ?_)
        refine clock_At_s h4 ?_
        repeat (first | refine gd_tt ?_ | refine gd_ff ?_ | refine gd_tf ?_ | refine gd_ft ?_ | refine gd_u ?_ | refine pk_t ?_ | refine pk_f ?_ | refine iff_t ?_ | refine iff_f ?_ | refine not_t ?_ | refine not_f ?_ | refine beq_s ?_ | refine bne_s ?_ | refine ncP_p ?_ | refine fld_at ?_ | refine xt_02 ?_ | refine xt_12 ?_ | refine xt_03 ?_ | refine xt_13 ?_ | refine xt_23 ?_ | refine eq_t (by omega) ?_ | refine eq_f (by omega) ?_ | refine ne_t (by omega) ?_ | refine ne_f (by omega) ?_ | refine lt_t (by omega) ?_ | refine lt_f (by omega) ?_ | refine gt_t (by omega) ?_ | refine gt_f (by omega) ?_ | refine ge_t (by omega) ?_ | refine ge_f (by omega) ?_ | refine le_t (by omega) ?_ | refine le_f (by omega) ?_)
        refine clock_Bound_s h4 fun w5 h5 => ?_
        repeat (first | refine gd_tt ?_ | refine gd_ff ?_ | refine gd_tf ?_ | refine gd_ft ?_ | refine gd_u ?_ | refine pk_t ?_ | refine pk_f ?_ | refine iff_t ?_ | refine iff_f ?_ | refine not_t ?_ | refine not_f ?_ | refine beq_s ?_ | refine bne_s ?_ | refine ncP_p ?_ | refine fld_at ?_ | refine xt_02 ?_ | refine xt_12 ?_ | refine xt_03 ?_ | refine xt_13 ?_ | refine xt_23 ?_ | refine eq_t (by omega) ?_ | refine eq_f (by omega) ?_ | refine ne_t (by omega) ?_ | refine ne_f (by omega) ?_ | refine lt_t (by omega) ?_ | refine lt_f (by omega) ?_ | refine gt_t (by omega) ?_ | refine gt_f (by omega) ?_ | refine ge_t (by omega) ?_ | refine ge_f (by omega) ?_ | refine le_t (by omega) ?_ | refine le_f (by omega) ?_)
        cases q with
        | true =>
          repeat (first | refine gd_tt ?_ | refine gd_ff ?_ | refine gd_tf ?_ | refine gd_ft ?_ | refine gd_u ?_ | refine pk_t ?_ | refine pk_f ?_ | refine iff_t ?_ | refine iff_f ?_ | refine not_t ?_ | refine not_f ?_ | refine beq_s ?_ | refine bne_s ?_ | refine ncP_p ?_ | refine fld_at ?_ | refine xt_02 ?_ | refine xt_12 ?_ | refine xt_03 ?_ | refine xt_13 ?_ | refine xt_23 ?_ | refine eq_t (by omega) ?_ | refine eq_f (by omega) ?_ | refine ne_t (by omega) ?_ | refine ne_f (by omega) ?_ | refine lt_t (by omega) ?_ | refine lt_f (by omega) ?_ | refine gt_t (by omega) ?_ | refine gt_f (by omega) ?_ | refine ge_t (by omega) ?_ | refine ge_f (by omega) ?_ | refine le_t (by omega) ?_ | refine le_f (by omega) ?_)
          refine inc_s (by omega) (hin true ⟨fun _ => ?_, fun _ => rfl⟩ _ h5)
          obtain ⟨i, hi, hi2⟩ := hq.1 rfl
          exact ⟨i, by omega, hi2⟩
        | false =>
          repeat (first | refine gd_tt ?_ | refine gd_ff ?_ | refine gd_tf ?_ | refine gd_ft ?_ | refine gd_u ?_ | refine pk_t ?_ | refine pk_f ?_ | refine iff_t ?_ | refine iff_f ?_ | refine not_t ?_ | refine not_f ?_ | refine beq_s ?_ | refine bne_s ?_ | refine ncP_p ?_ | refine fld_at ?_ | refine xt_02 ?_ | refine xt_12 ?_ | refine xt_03 ?_ | refine xt_13 ?_ | refine xt_23 ?_ | refine eq_t (by omega) ?_ | refine eq_f (by omega) ?_ | refine ne_t (by omega) ?_ | refine ne_f (by omega) ?_ | refine lt_t (by omega) ?_ | refine lt_f (by omega) ?_ | refine gt_t (by omega) ?_ | refine gt_f (by omega) ?_ | refine ge_t (by omega) ?_ | refine ge_f (by omega) ?_ | refine le_t (by omega) ?_ | refine le_f (by omega) ?_)
          refine clock_At_s h5 ?_
          repeat (first | refine gd_tt ?_ | refine gd_ff ?_ | refine gd_tf ?_ | refine gd_ft ?_ | refine gd_u ?_ | refine pk_t ?_ | refine pk_f ?_ | refine iff_t ?_ | refine iff_f ?_ | refine not_t ?_ | refine not_f ?_ | refine beq_s ?_ | refine bne_s ?_ | refine ncP_p ?_ | refine fld_at ?_ | refine xt_02 ?_ | refine xt_12 ?_ | refine xt_03 ?_ | refine xt_13 ?_ | refine xt_23 ?_ | refine eq_t (by omega) ?_ | refine eq_f (by omega) ?_ | refine ne_t (by omega) ?_ | refine ne_f (by omega) ?_ | refine lt_t (by omega) ?_ | refine lt_f (by omega) ?_ | refine gt_t (by omega) ?_ | refine gt_f (by omega) ?_ | refine ge_t (by omega) ?_ | refine ge_f (by omega) ?_ | refine le_t (by omega) ?_ | refine le_f (by omega) ?_)
          refine clock_Bound_s h5 fun w6 h6 => ?_
          repeat (first | refine gd_tt ?_ | refine gd_ff ?_ | refine gd_tf ?_ | refine gd_ft ?_ | refine gd_u ?_ | refine pk_t ?_ | refine pk_f ?_ | refine iff_t ?_ | refine iff_f ?_ | refine not_t ?_ | refine not_f ?_ | refine beq_s ?_ | refine bne_s ?_ | refine ncP_p ?_ | refine fld_at ?_ | refine xt_02 ?_ | refine xt_12 ?_ | refine xt_03 ?_ | refine xt_13 ?_ | refine xt_23 ?_ | refine eq_t (by omega) ?_ | refine eq_f (by omega) ?_ | refine ne_t (by omega) ?_ | refine ne_f (by omega) ?_ | refine lt_t (by omega) ?_ | refine lt_f (by omega) ?_ | refine gt_t (by omega) ?_ | refine gt_f (by omega) ?_ | refine ge_t (by omega) ?_ | refine ge_f (by omega) ?_ | refine le_t (by omega) ?_ | refine le_f (by omega) ?_)
          refine eq_d ?_
          repeat (first | refine gd_tt ?_ | refine gd_ff ?_ | refine gd_tf ?_ | refine gd_ft ?_ | refine gd_u ?_ | refine pk_t ?_ | refine pk_f ?_ | refine iff_t ?_ | refine iff_f ?_ | refine not_t ?_ | refine not_f ?_ | refine beq_s ?_ | refine bne_s ?_ | refine ncP_p ?_ | refine fld_at ?_ | refine xt_02 ?_ | refine xt_12 ?_ | refine xt_03 ?_ | refine xt_13 ?_ | refine xt_23 ?_ | refine eq_t (by omega) ?_ | refine eq_f (by omega) ?_ | refine ne_t (by omega) ?_ | refine ne_f (by omega) ?_ | refine lt_t (by omega) ?_ | refine lt_f (by omega) ?_ | refine gt_t (by omega) ?_ | refine gt_f (by omega) ?_ | refine ge_t (by omega) ?_ | refine ge_f (by omega) ?_ | refine le_t (by omega) ?_ | refine le_f (by omega) ?_)
          refine inc_s (by omega) (hin _ ?_ _ h6)
          rw [decide_eq_true_eq]
          refine ⟨fun h => ⟨j, by omega, hjm, h⟩, fun ⟨i, hi, hi2⟩ => ?_⟩
          by_cases hij : i = j
          · subst hij; exact hi2.2
          · exact absurd (hq.2 ⟨i, by omega, hi2⟩) (by decide)
    · have hjk : j = k := by omega
      subst hjk
      have hqt : q = true := by
        obtain ⟨j0, hj0, hj1⟩ : ∃ j0 : Nat, j0 < j ∧ (j0 : Int) ≠ me := by
          by_cases h0 : me = 0
          · exact ⟨1, by omega, by omega⟩
          · exact ⟨0, by omega, by omega⟩
        obtain ⟨i, hi, he⟩ := Clk.bound_at hG (hat j0 hj0 hj1).1
        refine hq.2 ⟨i.toNat, by have := hi.2.1; have := hi.1; omega, by have := hi.2.2; have := hi.1; omega, ?_⟩
        rw [Int.toNat_of_nonneg hi.1]
        exact (if_pos hi).trans he
      subst hqt
      have hno : ¬ c.okJ me := fun h => h.2.2 hM.symm
      repeat (first | refine gd_tt ?_ | refine gd_ff ?_ | refine gd_tf ?_ | refine gd_ft ?_ | refine gd_u ?_ | refine pk_t ?_ | refine pk_f ?_ | refine iff_t ?_ | refine iff_f ?_ | refine not_t ?_ | refine not_f ?_ | refine beq_s ?_ | refine bne_s ?_ | refine ncP_p ?_ | refine fld_at ?_ | refine xt_02 ?_ | refine xt_12 ?_ | refine xt_03 ?_ | refine xt_13 ?_ | refine xt_23 ?_ | refine eq_t (by omega) ?_ | refine eq_f (by omega) ?_ | refine ne_t (by omega) ?_ | refine ne_f (by omega) ?_ | refine lt_t (by omega) ?_ | refine lt_f (by omega) ?_ | refine gt_t (by omega) ?_ | refine gt_f (by omega) ?_ | refine ge_t (by omega) ?_ | refine ge_f (by omega) ?_ | refine le_t (by omega) ?_ | refine le_f (by omega) ?_)
      refine clock_Hear_s (by unfold In64; omega) h4 fun w5 h5 => ?_
      rw [Clk.hear_bad (.inl hno)] at h5
      rw [Clk.hearE_bad (.inl hno)]
      repeat (first | refine gd_tt ?_ | refine gd_ff ?_ | refine gd_tf ?_ | refine gd_ft ?_ | refine gd_u ?_ | refine pk_t ?_ | refine pk_f ?_ | refine iff_t ?_ | refine iff_f ?_ | refine not_t ?_ | refine not_f ?_ | refine beq_s ?_ | refine bne_s ?_ | refine ncP_p ?_ | refine fld_at ?_ | refine xt_02 ?_ | refine xt_12 ?_ | refine xt_03 ?_ | refine xt_13 ?_ | refine xt_23 ?_ | refine eq_t (by omega) ?_ | refine eq_f (by omega) ?_ | refine ne_t (by omega) ?_ | refine ne_f (by omega) ?_ | refine lt_t (by omega) ?_ | refine lt_f (by omega) ?_ | refine gt_t (by omega) ?_ | refine gt_f (by omega) ?_ | refine ge_t (by omega) ?_ | refine ge_f (by omega) ?_ | refine le_t (by omega) ?_ | refine le_f (by omega) ?_)
      refine clock_At_s h5 ?_
      rw [show c.at' me = -1 from if_neg hno]
      repeat (first | refine gd_tt ?_ | refine gd_ff ?_ | refine gd_tf ?_ | refine gd_ft ?_ | refine gd_u ?_ | refine pk_t ?_ | refine pk_f ?_ | refine iff_t ?_ | refine iff_f ?_ | refine not_t ?_ | refine not_f ?_ | refine beq_s ?_ | refine bne_s ?_ | refine ncP_p ?_ | refine fld_at ?_ | refine xt_02 ?_ | refine xt_12 ?_ | refine xt_03 ?_ | refine xt_13 ?_ | refine xt_23 ?_ | refine eq_t (by omega) ?_ | refine eq_f (by omega) ?_ | refine ne_t (by omega) ?_ | refine ne_f (by omega) ?_ | refine lt_t (by omega) ?_ | refine lt_f (by omega) ?_ | refine gt_t (by omega) ?_ | refine gt_f (by omega) ?_ | refine ge_t (by omega) ?_ | refine ge_f (by omega) ?_ | refine le_t (by omega) ?_ | refine le_f (by omega) ?_)
      exact hk _ h5.drop
end Go.Proofs.Ytiiekfcfledkhaa
