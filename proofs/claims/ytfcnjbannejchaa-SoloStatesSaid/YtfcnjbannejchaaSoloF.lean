/- The document's Check of a federation. Conditions: the lists are short. -/
import Derived.Test.YtfcnjbannejchaaSoloE
namespace Go.Proofs.Ytfcnjbannejchaa
open Go Go.E
set_option maxRecDepth 100000
variable {e w : World} {L R : List HP} {K : KV} {S : HP}

theorem ref05_Check_s {v : Value} {l : List Int} (i : Nat) (hi : L[i]? = some S) (hS : Sat e w L) (hr : ∀ g, S g → rdS 1 (intsK .i64) v l g) (hk : K (.int .i64 (treeE l)) w) : Cl prog 28 #[v] w K := by
  refine pacelineref05_Check_calls ?_
  unfold pacelineref05_Check
  have hbad : ¬ okTree l → K (.int .i64 50) w := fun h => by unfold treeE at hk; rw [if_neg h] at hk; exact hk
  refine lnS_rd hS i hi hr ?_
  by_cases c1 : 1 ≤ l.length
  case neg =>
    repeat (first | refine gd_tt ?_ | refine gd_ff ?_ | refine gd_tf ?_ | refine gd_ft ?_ | refine gd_u ?_ | refine pk_t ?_ | refine pk_f ?_ | refine iff_t ?_ | refine iff_f ?_ | refine not_t ?_ | refine not_f ?_ | refine beq_s ?_ | refine bne_s ?_ | refine ncP_p ?_ | refine nc_p ?_ | refine fld_at ?_ | refine xt_02 ?_ | refine xt_12 ?_ | refine xt_03 ?_ | refine xt_13 ?_ | refine xt_23 ?_ | refine eq_t (by omega) ?_ | refine eq_f (by omega) ?_ | refine ne_t (by omega) ?_ | refine ne_f (by omega) ?_ | refine lt_t (by omega) ?_ | refine lt_f (by omega) ?_ | refine gt_t (by omega) ?_ | refine gt_f (by omega) ?_ | refine ge_t (by omega) ?_ | refine ge_f (by omega) ?_ | refine le_t (by omega) ?_ | refine le_f (by omega) ?_)
    exact hbad fun h => c1 h.1
  refine lt_f (by omega) (gd_ff (gd_ff (lnS_rd hS i hi hr ?_)))
  by_cases c2 : l.length ≤ 16
  case neg =>
    repeat (first | refine gd_tt ?_ | refine gd_ff ?_ | refine gd_tf ?_ | refine gd_ft ?_ | refine gd_u ?_ | refine pk_t ?_ | refine pk_f ?_ | refine iff_t ?_ | refine iff_f ?_ | refine not_t ?_ | refine not_f ?_ | refine beq_s ?_ | refine bne_s ?_ | refine ncP_p ?_ | refine nc_p ?_ | refine fld_at ?_ | refine xt_02 ?_ | refine xt_12 ?_ | refine xt_03 ?_ | refine xt_13 ?_ | refine xt_23 ?_ | refine eq_t (by omega) ?_ | refine eq_f (by omega) ?_ | refine ne_t (by omega) ?_ | refine ne_f (by omega) ?_ | refine lt_t (by omega) ?_ | refine lt_f (by omega) ?_ | refine gt_t (by omega) ?_ | refine gt_f (by omega) ?_ | refine ge_t (by omega) ?_ | refine ge_f (by omega) ?_ | refine le_t (by omega) ?_ | refine le_f (by omega) ?_)
    exact hbad fun h => c2 h.2.1
  repeat (first | refine gd_tt ?_ | refine gd_ff ?_ | refine gd_tf ?_ | refine gd_ft ?_ | refine gd_u ?_ | refine pk_t ?_ | refine pk_f ?_ | refine iff_t ?_ | refine iff_f ?_ | refine not_t ?_ | refine not_f ?_ | refine beq_s ?_ | refine bne_s ?_ | refine ncP_p ?_ | refine nc_p ?_ | refine fld_at ?_ | refine xt_02 ?_ | refine xt_12 ?_ | refine xt_03 ?_ | refine xt_13 ?_ | refine xt_23 ?_ | refine eq_t (by omega) ?_ | refine eq_f (by omega) ?_ | refine ne_t (by omega) ?_ | refine ne_f (by omega) ?_ | refine lt_t (by omega) ?_ | refine lt_f (by omega) ?_ | refine gt_t (by omega) ?_ | refine gt_f (by omega) ?_ | refine ge_t (by omega) ?_ | refine ge_f (by omega) ?_ | refine le_t (by omega) ?_ | refine le_f (by omega) ?_)
  refine lpi1 (fun q t8 w' => ∃ j : Nat, j ≤ l.length ∧ t8 = .int .i64 j ∧ q = l.length - j ∧ (∀ (i : Nat) p, i < j → l[i]? = some p → -1 ≤ p ∧ p < i) ∧ w' = w) l.length ⟨0, Nat.zero_le _, rfl, rfl, fun _ _ h => absurd h (by omega), rfl⟩ ?_
  rintro q _ w' g ⟨j, hj, rfl, rfl, hno, rfl⟩ hg
  refine lnS_rd hS i hi hr ?_
  refine lt_c (fun c => iff_t ?_) (fun c => iff_f ?_)
  · obtain ⟨y, hy⟩ := get_of_lt (l := l) (j := j) (by omega)
    refine ixS_rd hS i hi hr (fun _ => rfl) hy fun a ha => ?_
    refine ld1_of hS i hi ha (v := .int .i64 y) rfl ?_
    by_cases c3 : y < -1
    · repeat (first | refine gd_tt ?_ | refine gd_ff ?_ | refine gd_tf ?_ | refine gd_ft ?_ | refine gd_u ?_ | refine pk_t ?_ | refine pk_f ?_ | refine iff_t ?_ | refine iff_f ?_ | refine not_t ?_ | refine not_f ?_ | refine beq_s ?_ | refine bne_s ?_ | refine ncP_p ?_ | refine nc_p ?_ | refine fld_at ?_ | refine xt_02 ?_ | refine xt_12 ?_ | refine xt_03 ?_ | refine xt_13 ?_ | refine xt_23 ?_ | refine eq_t (by omega) ?_ | refine eq_f (by omega) ?_ | refine ne_t (by omega) ?_ | refine ne_f (by omega) ?_ | refine lt_t (by omega) ?_ | refine lt_f (by omega) ?_ | refine gt_t (by omega) ?_ | refine gt_f (by omega) ?_ | refine ge_t (by omega) ?_ | refine ge_f (by omega) ?_ | refine le_t (by omega) ?_ | refine le_f (by omega) ?_)
      exact hbad fun h => by have := h.2.2 j y hy; omega
    · refine lt_f c3 (gd_ff (gd_ff (gd_ff (ixS_rd hS i hi hr (fun _ => rfl) hy fun a ha => ?_))))
      refine gd_ff (ld1_of hS i hi ha (v := .int .i64 y) rfl ?_)
      by_cases c4 : (j : Int) ≤ y
      · repeat (first | refine gd_tt ?_ | refine gd_ff ?_ | refine gd_tf ?_ | refine gd_ft ?_ | refine gd_u ?_ | refine pk_t ?_ | refine pk_f ?_ | refine iff_t ?_ | refine iff_f ?_ | refine not_t ?_ | refine not_f ?_ | refine beq_s ?_ | refine bne_s ?_ | refine ncP_p ?_ | refine nc_p ?_ | refine fld_at ?_ | refine xt_02 ?_ | refine xt_12 ?_ | refine xt_03 ?_ | refine xt_13 ?_ | refine xt_23 ?_ | refine eq_t (by omega) ?_ | refine eq_f (by omega) ?_ | refine ne_t (by omega) ?_ | refine ne_f (by omega) ?_ | refine lt_t (by omega) ?_ | refine lt_f (by omega) ?_ | refine gt_t (by omega) ?_ | refine gt_f (by omega) ?_ | refine ge_t (by omega) ?_ | refine ge_f (by omega) ?_ | refine le_t (by omega) ?_ | refine le_f (by omega) ?_)
        exact hbad fun h => by have := h.2.2 j y hy; omega
      · repeat (first | refine gd_tt ?_ | refine gd_ff ?_ | refine gd_tf ?_ | refine gd_ft ?_ | refine gd_u ?_ | refine pk_t ?_ | refine pk_f ?_ | refine iff_t ?_ | refine iff_f ?_ | refine not_t ?_ | refine not_f ?_ | refine beq_s ?_ | refine bne_s ?_ | refine ncP_p ?_ | refine nc_p ?_ | refine fld_at ?_ | refine xt_02 ?_ | refine xt_12 ?_ | refine xt_03 ?_ | refine xt_13 ?_ | refine xt_23 ?_ | refine eq_t (by omega) ?_ | refine eq_f (by omega) ?_ | refine ne_t (by omega) ?_ | refine ne_f (by omega) ?_ | refine lt_t (by omega) ?_ | refine lt_f (by omega) ?_ | refine gt_t (by omega) ?_ | refine gt_f (by omega) ?_ | refine ge_t (by omega) ?_ | refine ge_f (by omega) ?_ | refine le_t (by omega) ?_ | refine le_f (by omega) ?_)
        refine inc_s (by omega) ?_
        refine hg _ _ _ (by omega) ⟨j + 1, by omega, rfl, rfl, fun i p hi hp => ?_, rfl⟩
        by_cases h : i = j
        · subst h
          rw [hy] at hp
          cases hp
          omega
        · exact hno i p (by omega) hp
  · have ej : j = l.length := by omega
    unfold treeE at hk
    rw [if_pos ⟨c1, c2, fun i p hp => hno i p (by have := (List.getElem?_eq_some_iff.1 hp).1; omega) hp⟩] at hk
    exact hk
theorem ref05_Has_s {v : Value} {l : List Int} {x : Int} (i : Nat) (hi : L[i]? = some S) (hS : Sat e w L) (hr : ∀ g, S g → rdS 1 (intsK .i64) v l g) (hl : l.length ≤ 1000000) (hk : K (.bool (decide (x ∈ l))) w) : Cl prog 53 #[v, .int .i64 x] w K := by
  refine pacelineref05_Has_calls ?_
  unfold pacelineref05_Has
  refine lpi1 (fun q t8 w' => ∃ j : Nat, j ≤ l.length ∧ t8 = .int .i64 j ∧ q = l.length - j ∧ x ∉ l.take j ∧ w' = w) l.length ⟨0, Nat.zero_le _, rfl, rfl, by simp, rfl⟩ ?_
  rintro q _ w' g ⟨j, hj, rfl, rfl, hno, rfl⟩ hg
  refine lnS_rd hS i hi hr ?_
  refine lt_c (fun c => iff_t ?_) (fun c => iff_f ?_)
  · obtain ⟨y, hy⟩ := get_of_lt (l := l) (j := j) (by omega)
    refine ixS_rd hS i hi hr (fun _ => rfl) hy fun a ha => ?_
    refine ld1_of hS i hi ha (v := .int .i64 y) rfl ?_
    refine eq_c (fun c2 => iff_t ?_) (fun c2 => iff_f ?_)
    · rw [decide_eq_true (c2 ▸ List.mem_of_getElem? hy)] at hk
      exact hk
    · refine inc_s (by omega) ?_
      refine hg _ _ _ (by omega) ⟨j + 1, by omega, rfl, rfl, ?_, rfl⟩
      rw [List.take_add_one, hy]
      simp [hno, Ne.symm c2]
  · have ej : j = l.length := by omega
    rw [ej, List.take_length] at hno
    rw [decide_eq_false hno] at hk
    exact hk
theorem ref07_in_s {n m : Int} (hk : K (.bool (decide (0 ≤ n ∧ n < m))) w) : Cl prog 101 #[.int .i64 n, .int .i64 m] w K := by
  refine pacelineref07_in_calls ?_
  unfold pacelineref07_in
  by_cases c1 : 0 ≤ n
  · by_cases c2 : n < m
    · rw [decide_eq_true ⟨c1, c2⟩] at hk
      repeat (first | refine gd_tt ?_ | refine gd_ff ?_ | refine gd_tf ?_ | refine gd_ft ?_ | refine gd_u ?_ | refine pk_t ?_ | refine pk_f ?_ | refine iff_t ?_ | refine iff_f ?_ | refine not_t ?_ | refine not_f ?_ | refine beq_s ?_ | refine bne_s ?_ | refine ncP_p ?_ | refine nc_p ?_ | refine fld_at ?_ | refine xt_02 ?_ | refine xt_12 ?_ | refine xt_03 ?_ | refine xt_13 ?_ | refine xt_23 ?_ | refine eq_t (by omega) ?_ | refine eq_f (by omega) ?_ | refine ne_t (by omega) ?_ | refine ne_f (by omega) ?_ | refine lt_t (by omega) ?_ | refine lt_f (by omega) ?_ | refine gt_t (by omega) ?_ | refine gt_f (by omega) ?_ | refine ge_t (by omega) ?_ | refine ge_f (by omega) ?_ | refine le_t (by omega) ?_ | refine le_f (by omega) ?_)
      exact hk
    · rw [decide_eq_false fun h => c2 h.2] at hk
      repeat (first | refine gd_tt ?_ | refine gd_ff ?_ | refine gd_tf ?_ | refine gd_ft ?_ | refine gd_u ?_ | refine pk_t ?_ | refine pk_f ?_ | refine iff_t ?_ | refine iff_f ?_ | refine not_t ?_ | refine not_f ?_ | refine beq_s ?_ | refine bne_s ?_ | refine ncP_p ?_ | refine nc_p ?_ | refine fld_at ?_ | refine xt_02 ?_ | refine xt_12 ?_ | refine xt_03 ?_ | refine xt_13 ?_ | refine xt_23 ?_ | refine eq_t (by omega) ?_ | refine eq_f (by omega) ?_ | refine ne_t (by omega) ?_ | refine ne_f (by omega) ?_ | refine lt_t (by omega) ?_ | refine lt_f (by omega) ?_ | refine gt_t (by omega) ?_ | refine gt_f (by omega) ?_ | refine ge_t (by omega) ?_ | refine ge_f (by omega) ?_ | refine le_t (by omega) ?_ | refine le_f (by omega) ?_)
      exact hk
  · rw [decide_eq_false fun h => c1 h.1] at hk
    repeat (first | refine gd_tt ?_ | refine gd_ff ?_ | refine gd_tf ?_ | refine gd_ft ?_ | refine gd_u ?_ | refine pk_t ?_ | refine pk_f ?_ | refine iff_t ?_ | refine iff_f ?_ | refine not_t ?_ | refine not_f ?_ | refine beq_s ?_ | refine bne_s ?_ | refine ncP_p ?_ | refine nc_p ?_ | refine fld_at ?_ | refine xt_02 ?_ | refine xt_12 ?_ | refine xt_03 ?_ | refine xt_13 ?_ | refine xt_23 ?_ | refine eq_t (by omega) ?_ | refine eq_f (by omega) ?_ | refine ne_t (by omega) ?_ | refine ne_f (by omega) ?_ | refine lt_t (by omega) ?_ | refine lt_f (by omega) ?_ | refine gt_t (by omega) ?_ | refine gt_f (by omega) ?_ | refine ge_t (by omega) ?_ | refine ge_f (by omega) ?_ | refine le_t (by omega) ?_ | refine le_f (by omega) ?_)
    exact hk
theorem ref07_fine_s {r : RuleX} (i : Nat) (hi : L[i]? = some S) (hS : Sat e w L) (hr : ∀ g, S g → rdS 3 Out.cs r.sv r.Sends g) (hl : r.Sends.length ≤ 1000000) (hk : ∀ w', Sat e w' L → ∀ b : Bool, (b = true ↔ okRule r.r) → K (.bool b) w') :
    Cl prog 75 #[.agg r.cs.toArray] w K := by
  refine pacelineref07_fine_calls ?_
  unfold pacelineref07_fine
  refine al_s (cs := r.cs) hS rfl fun tb w1 h1 => ?_
  have hi1 : (blk tb 55 r.cs :: L)[i + 1]? = some S := by simpa using hi
  have hno : ¬ okRule r.r → ∀ w', Sat e w' (blk tb 55 r.cs :: L) → K (.bool false) w' := fun h w' h' => hk _ h'.drop false ⟨(fun h => by cases h), fun h2 => absurd h2 h⟩
  refine fld_at (ld1_at h1 0 rfl (v := .int .i64 r.State) rfl ?_)
  refine ref07_in_s (not_d ?_)
  by_cases d1 : 0 ≤ r.State ∧ r.State < 8
  case neg =>
    rw [decide_eq_false d1, Bool.not_false]
    repeat (first | refine gd_tt ?_ | refine gd_ff ?_ | refine gd_tf ?_ | refine gd_ft ?_ | refine gd_u ?_ | refine pk_t ?_ | refine pk_f ?_ | refine iff_t ?_ | refine iff_f ?_ | refine not_t ?_ | refine not_f ?_ | refine beq_s ?_ | refine bne_s ?_ | refine ncP_p ?_ | refine nc_p ?_ | refine fld_at ?_ | refine xt_02 ?_ | refine xt_12 ?_ | refine xt_03 ?_ | refine xt_13 ?_ | refine xt_23 ?_ | refine eq_t (by omega) ?_ | refine eq_f (by omega) ?_ | refine ne_t (by omega) ?_ | refine ne_f (by omega) ?_ | refine lt_t (by omega) ?_ | refine lt_f (by omega) ?_ | refine gt_t (by omega) ?_ | refine gt_f (by omega) ?_ | refine ge_t (by omega) ?_ | refine ge_f (by omega) ?_ | refine le_t (by omega) ?_ | refine le_f (by omega) ?_)
    exact hno (fun h => d1 ⟨h.1, h.2.1⟩) _ h1
  rw [decide_eq_true d1, Bool.not_true]
  repeat (first | refine gd_tt ?_ | refine gd_ff ?_ | refine gd_tf ?_ | refine gd_ft ?_ | refine gd_u ?_ | refine pk_t ?_ | refine pk_f ?_ | refine iff_t ?_ | refine iff_f ?_ | refine not_t ?_ | refine not_f ?_ | refine beq_s ?_ | refine bne_s ?_ | refine ncP_p ?_ | refine nc_p ?_ | refine fld_at ?_ | refine xt_02 ?_ | refine xt_12 ?_ | refine xt_03 ?_ | refine xt_13 ?_ | refine xt_23 ?_ | refine eq_t (by omega) ?_ | refine eq_f (by omega) ?_ | refine ne_t (by omega) ?_ | refine ne_f (by omega) ?_ | refine lt_t (by omega) ?_ | refine lt_f (by omega) ?_ | refine gt_t (by omega) ?_ | refine gt_f (by omega) ?_ | refine ge_t (by omega) ?_ | refine ge_f (by omega) ?_ | refine le_t (by omega) ?_ | refine le_f (by omega) ?_)
  refine ld1_at h1 0 rfl (v := .int .i64 r.Next) rfl ?_
  refine gd_ff (ref07_in_s (gd_ff (not_d ?_)))
  by_cases d2 : 0 ≤ r.Next ∧ r.Next < 8
  case neg =>
    rw [decide_eq_false d2, Bool.not_false]
    repeat (first | refine gd_tt ?_ | refine gd_ff ?_ | refine gd_tf ?_ | refine gd_ft ?_ | refine gd_u ?_ | refine pk_t ?_ | refine pk_f ?_ | refine iff_t ?_ | refine iff_f ?_ | refine not_t ?_ | refine not_f ?_ | refine beq_s ?_ | refine bne_s ?_ | refine ncP_p ?_ | refine nc_p ?_ | refine fld_at ?_ | refine xt_02 ?_ | refine xt_12 ?_ | refine xt_03 ?_ | refine xt_13 ?_ | refine xt_23 ?_ | refine eq_t (by omega) ?_ | refine eq_f (by omega) ?_ | refine ne_t (by omega) ?_ | refine ne_f (by omega) ?_ | refine lt_t (by omega) ?_ | refine lt_f (by omega) ?_ | refine gt_t (by omega) ?_ | refine gt_f (by omega) ?_ | refine ge_t (by omega) ?_ | refine ge_f (by omega) ?_ | refine le_t (by omega) ?_ | refine le_f (by omega) ?_)
    exact hno (fun h => d2 ⟨h.2.2.1, h.2.2.2.1⟩) _ h1
  rw [decide_eq_true d2, Bool.not_true]
  repeat (first | refine gd_tt ?_ | refine gd_ff ?_ | refine gd_tf ?_ | refine gd_ft ?_ | refine gd_u ?_ | refine pk_t ?_ | refine pk_f ?_ | refine iff_t ?_ | refine iff_f ?_ | refine not_t ?_ | refine not_f ?_ | refine beq_s ?_ | refine bne_s ?_ | refine ncP_p ?_ | refine nc_p ?_ | refine fld_at ?_ | refine xt_02 ?_ | refine xt_12 ?_ | refine xt_03 ?_ | refine xt_13 ?_ | refine xt_23 ?_ | refine eq_t (by omega) ?_ | refine eq_f (by omega) ?_ | refine ne_t (by omega) ?_ | refine ne_f (by omega) ?_ | refine lt_t (by omega) ?_ | refine lt_f (by omega) ?_ | refine gt_t (by omega) ?_ | refine gt_f (by omega) ?_ | refine ge_t (by omega) ?_ | refine ge_f (by omega) ?_ | refine le_t (by omega) ?_ | refine le_f (by omega) ?_)
  refine ld1_at h1 0 rfl (v := .int .i64 r.Class) rfl ?_
  refine gd_ff (ref07_in_s (gd_ff (not_d ?_)))
  by_cases d3 : 0 ≤ r.Class ∧ r.Class < 16
  case neg =>
    rw [decide_eq_false d3, Bool.not_false]
    repeat (first | refine gd_tt ?_ | refine gd_ff ?_ | refine gd_tf ?_ | refine gd_ft ?_ | refine gd_u ?_ | refine pk_t ?_ | refine pk_f ?_ | refine iff_t ?_ | refine iff_f ?_ | refine not_t ?_ | refine not_f ?_ | refine beq_s ?_ | refine bne_s ?_ | refine ncP_p ?_ | refine nc_p ?_ | refine fld_at ?_ | refine xt_02 ?_ | refine xt_12 ?_ | refine xt_03 ?_ | refine xt_13 ?_ | refine xt_23 ?_ | refine eq_t (by omega) ?_ | refine eq_f (by omega) ?_ | refine ne_t (by omega) ?_ | refine ne_f (by omega) ?_ | refine lt_t (by omega) ?_ | refine lt_f (by omega) ?_ | refine gt_t (by omega) ?_ | refine gt_f (by omega) ?_ | refine ge_t (by omega) ?_ | refine ge_f (by omega) ?_ | refine le_t (by omega) ?_ | refine le_f (by omega) ?_)
    exact hno (fun h => d3 ⟨h.2.2.2.2.1, h.2.2.2.2.2.1⟩) _ h1
  rw [decide_eq_true d3, Bool.not_true]
  repeat (first | refine gd_tt ?_ | refine gd_ff ?_ | refine gd_tf ?_ | refine gd_ft ?_ | refine gd_u ?_ | refine pk_t ?_ | refine pk_f ?_ | refine iff_t ?_ | refine iff_f ?_ | refine not_t ?_ | refine not_f ?_ | refine beq_s ?_ | refine bne_s ?_ | refine ncP_p ?_ | refine nc_p ?_ | refine fld_at ?_ | refine xt_02 ?_ | refine xt_12 ?_ | refine xt_03 ?_ | refine xt_13 ?_ | refine xt_23 ?_ | refine eq_t (by omega) ?_ | refine eq_f (by omega) ?_ | refine ne_t (by omega) ?_ | refine ne_f (by omega) ?_ | refine lt_t (by omega) ?_ | refine lt_f (by omega) ?_ | refine gt_t (by omega) ?_ | refine gt_f (by omega) ?_ | refine ge_t (by omega) ?_ | refine ge_f (by omega) ?_ | refine le_t (by omega) ?_ | refine le_f (by omega) ?_)
  refine ld1_at h1 0 rfl (v := r.sv) rfl ?_
  refine gd_ff (lnS_rd h1 (i + 1) hi1 hr ?_)
  by_cases d4 : 3 < r.Sends.length
  · repeat (first | refine gd_tt ?_ | refine gd_ff ?_ | refine gd_tf ?_ | refine gd_ft ?_ | refine gd_u ?_ | refine pk_t ?_ | refine pk_f ?_ | refine iff_t ?_ | refine iff_f ?_ | refine not_t ?_ | refine not_f ?_ | refine beq_s ?_ | refine bne_s ?_ | refine ncP_p ?_ | refine nc_p ?_ | refine fld_at ?_ | refine xt_02 ?_ | refine xt_12 ?_ | refine xt_03 ?_ | refine xt_13 ?_ | refine xt_23 ?_ | refine eq_t (by omega) ?_ | refine eq_f (by omega) ?_ | refine ne_t (by omega) ?_ | refine ne_f (by omega) ?_ | refine lt_t (by omega) ?_ | refine lt_f (by omega) ?_ | refine gt_t (by omega) ?_ | refine gt_f (by omega) ?_ | refine ge_t (by omega) ?_ | refine ge_f (by omega) ?_ | refine le_t (by omega) ?_ | refine le_f (by omega) ?_)
    exact hno (fun h => by have := h.2.2.2.2.2.2.1; simp only [RuleX.r] at this; omega) _ h1
  repeat (first | refine gd_tt ?_ | refine gd_ff ?_ | refine gd_tf ?_ | refine gd_ft ?_ | refine gd_u ?_ | refine pk_t ?_ | refine pk_f ?_ | refine iff_t ?_ | refine iff_f ?_ | refine not_t ?_ | refine not_f ?_ | refine beq_s ?_ | refine bne_s ?_ | refine ncP_p ?_ | refine nc_p ?_ | refine fld_at ?_ | refine xt_02 ?_ | refine xt_12 ?_ | refine xt_03 ?_ | refine xt_13 ?_ | refine xt_23 ?_ | refine eq_t (by omega) ?_ | refine eq_f (by omega) ?_ | refine ne_t (by omega) ?_ | refine ne_f (by omega) ?_ | refine lt_t (by omega) ?_ | refine lt_f (by omega) ?_ | refine gt_t (by omega) ?_ | refine gt_f (by omega) ?_ | refine ge_t (by omega) ?_ | refine ge_f (by omega) ?_ | refine le_t (by omega) ?_ | refine le_f (by omega) ?_)
  refine lpi1 (fun q t w => ∃ j : Nat, j ≤ r.Sends.length ∧ t = .int .i64 j ∧ q = r.Sends.length - j ∧ (∀ o ∈ r.Sends.take j, okOut o) ∧ Sat e w (blk tb 55 r.cs :: L)) r.Sends.length ⟨0, Nat.zero_le _, rfl, rfl, by simp, h1⟩ ?_
  rintro q _ w g ⟨j, hj, rfl, rfl, hall, h2⟩ hg
  refine fld_at (ld1_at h2 0 rfl (v := r.sv) rfl ?_)
  refine lnS_rd h2 (i + 1) hi1 hr ?_
  refine lt_c (fun c => iff_t ?_) (fun c => iff_f ?_)
  · obtain ⟨o, ho⟩ := get_of_lt (l := r.Sends) (j := j) (by omega)
    have hom := List.mem_of_getElem? ho
    refine fld_at (ld1_at h2 0 rfl (v := r.sv) rfl ?_)
    refine ixS_rd h2 (i + 1) hi1 hr (fun _ => rfl) ho fun a ha => ?_
    refine ldN_of h2 (i + 1) hi1 ha rfl ?_
    rw [zero_63]
    refine al_s (cs := ints [0, 0, 0]) h2 rfl fun t2 w3 h3 => ?_
    refine stN_at h3 0 rfl (vs := o.cs) rfl rfl (by decide) (ints_flat _) (cs' := o.cs) (by rfl) fun w4 h4 => ?_
    have hno2 : ¬ okOut o → K (.bool false) w4 := fun h => hno (fun h2 => h (h2.2.2.2.2.2.2.2 o hom)) _ h4.drop
    refine fld_at (ld1_at h4 0 rfl (v := .int .i64 o.Class) rfl ?_)
    refine ref07_in_s (not_d ?_)
    by_cases d1 : 0 ≤ o.Class ∧ o.Class < 16
    case neg =>
      rw [decide_eq_false d1, Bool.not_false]
      repeat (first | refine gd_tt ?_ | refine gd_ff ?_ | refine gd_tf ?_ | refine gd_ft ?_ | refine gd_u ?_ | refine pk_t ?_ | refine pk_f ?_ | refine iff_t ?_ | refine iff_f ?_ | refine not_t ?_ | refine not_f ?_ | refine beq_s ?_ | refine bne_s ?_ | refine ncP_p ?_ | refine nc_p ?_ | refine fld_at ?_ | refine xt_02 ?_ | refine xt_12 ?_ | refine xt_03 ?_ | refine xt_13 ?_ | refine xt_23 ?_ | refine eq_t (by omega) ?_ | refine eq_f (by omega) ?_ | refine ne_t (by omega) ?_ | refine ne_f (by omega) ?_ | refine lt_t (by omega) ?_ | refine lt_f (by omega) ?_ | refine gt_t (by omega) ?_ | refine gt_f (by omega) ?_ | refine ge_t (by omega) ?_ | refine ge_f (by omega) ?_ | refine le_t (by omega) ?_ | refine le_f (by omega) ?_)
      exact hno2 fun h => d1 ⟨h.1, h.2.1⟩
    rw [decide_eq_true d1, Bool.not_true]
    repeat (first | refine gd_tt ?_ | refine gd_ff ?_ | refine gd_tf ?_ | refine gd_ft ?_ | refine gd_u ?_ | refine pk_t ?_ | refine pk_f ?_ | refine iff_t ?_ | refine iff_f ?_ | refine not_t ?_ | refine not_f ?_ | refine beq_s ?_ | refine bne_s ?_ | refine ncP_p ?_ | refine nc_p ?_ | refine fld_at ?_ | refine xt_02 ?_ | refine xt_12 ?_ | refine xt_03 ?_ | refine xt_13 ?_ | refine xt_23 ?_ | refine eq_t (by omega) ?_ | refine eq_f (by omega) ?_ | refine ne_t (by omega) ?_ | refine ne_f (by omega) ?_ | refine lt_t (by omega) ?_ | refine lt_f (by omega) ?_ | refine gt_t (by omega) ?_ | refine gt_f (by omega) ?_ | refine ge_t (by omega) ?_ | refine ge_f (by omega) ?_ | refine le_t (by omega) ?_ | refine le_f (by omega) ?_)
    refine ld1_at h4 0 rfl (v := .int .i64 o.Delay) rfl ?_
    refine gd_ff (ref07_in_s (gd_ff (not_d ?_)))
    by_cases d2 : 0 ≤ o.Delay ∧ o.Delay < 1048577
    case neg =>
      rw [decide_eq_false d2, Bool.not_false]
      repeat (first | refine gd_tt ?_ | refine gd_ff ?_ | refine gd_tf ?_ | refine gd_ft ?_ | refine gd_u ?_ | refine pk_t ?_ | refine pk_f ?_ | refine iff_t ?_ | refine iff_f ?_ | refine not_t ?_ | refine not_f ?_ | refine beq_s ?_ | refine bne_s ?_ | refine ncP_p ?_ | refine nc_p ?_ | refine fld_at ?_ | refine xt_02 ?_ | refine xt_12 ?_ | refine xt_03 ?_ | refine xt_13 ?_ | refine xt_23 ?_ | refine eq_t (by omega) ?_ | refine eq_f (by omega) ?_ | refine ne_t (by omega) ?_ | refine ne_f (by omega) ?_ | refine lt_t (by omega) ?_ | refine lt_f (by omega) ?_ | refine gt_t (by omega) ?_ | refine gt_f (by omega) ?_ | refine ge_t (by omega) ?_ | refine ge_f (by omega) ?_ | refine le_t (by omega) ?_ | refine le_f (by omega) ?_)
      exact hno2 fun h => d2 ⟨h.2.2.1, h.2.2.2.1⟩
    rw [decide_eq_true d2, Bool.not_true]
    repeat (first | refine gd_tt ?_ | refine gd_ff ?_ | refine gd_tf ?_ | refine gd_ft ?_ | refine gd_u ?_ | refine pk_t ?_ | refine pk_f ?_ | refine iff_t ?_ | refine iff_f ?_ | refine not_t ?_ | refine not_f ?_ | refine beq_s ?_ | refine bne_s ?_ | refine ncP_p ?_ | refine nc_p ?_ | refine fld_at ?_ | refine xt_02 ?_ | refine xt_12 ?_ | refine xt_03 ?_ | refine xt_13 ?_ | refine xt_23 ?_ | refine eq_t (by omega) ?_ | refine eq_f (by omega) ?_ | refine ne_t (by omega) ?_ | refine ne_f (by omega) ?_ | refine lt_t (by omega) ?_ | refine lt_f (by omega) ?_ | refine gt_t (by omega) ?_ | refine gt_f (by omega) ?_ | refine ge_t (by omega) ?_ | refine ge_f (by omega) ?_ | refine le_t (by omega) ?_ | refine le_f (by omega) ?_)
    refine ld1_at h4 0 rfl (v := .int .i64 o.Add) rfl ?_
    refine gd_ff (ref07_in_s (gd_ff (not_d ?_)))
    by_cases d3 : 0 ≤ o.Add ∧ o.Add < 1000
    case neg =>
      rw [decide_eq_false d3, Bool.not_false]
      repeat (first | refine gd_tt ?_ | refine gd_ff ?_ | refine gd_tf ?_ | refine gd_ft ?_ | refine gd_u ?_ | refine pk_t ?_ | refine pk_f ?_ | refine iff_t ?_ | refine iff_f ?_ | refine not_t ?_ | refine not_f ?_ | refine beq_s ?_ | refine bne_s ?_ | refine ncP_p ?_ | refine nc_p ?_ | refine fld_at ?_ | refine xt_02 ?_ | refine xt_12 ?_ | refine xt_03 ?_ | refine xt_13 ?_ | refine xt_23 ?_ | refine eq_t (by omega) ?_ | refine eq_f (by omega) ?_ | refine ne_t (by omega) ?_ | refine ne_f (by omega) ?_ | refine lt_t (by omega) ?_ | refine lt_f (by omega) ?_ | refine gt_t (by omega) ?_ | refine gt_f (by omega) ?_ | refine ge_t (by omega) ?_ | refine ge_f (by omega) ?_ | refine le_t (by omega) ?_ | refine le_f (by omega) ?_)
      exact hno2 fun h => d3 ⟨h.2.2.2.2.1, h.2.2.2.2.2⟩
    rw [decide_eq_true d3, Bool.not_true]
    repeat (first | refine gd_tt ?_ | refine gd_ff ?_ | refine gd_tf ?_ | refine gd_ft ?_ | refine gd_u ?_ | refine pk_t ?_ | refine pk_f ?_ | refine iff_t ?_ | refine iff_f ?_ | refine not_t ?_ | refine not_f ?_ | refine beq_s ?_ | refine bne_s ?_ | refine ncP_p ?_ | refine nc_p ?_ | refine fld_at ?_ | refine xt_02 ?_ | refine xt_12 ?_ | refine xt_03 ?_ | refine xt_13 ?_ | refine xt_23 ?_ | refine eq_t (by omega) ?_ | refine eq_f (by omega) ?_ | refine ne_t (by omega) ?_ | refine ne_f (by omega) ?_ | refine lt_t (by omega) ?_ | refine lt_f (by omega) ?_ | refine gt_t (by omega) ?_ | refine gt_f (by omega) ?_ | refine ge_t (by omega) ?_ | refine ge_f (by omega) ?_ | refine le_t (by omega) ?_ | refine le_f (by omega) ?_)
    refine inc_s (by omega) ?_
    refine hg _ _ _ (by omega) ⟨j + 1, by omega, rfl, rfl, fun x hx => ?_, h4.drop⟩
    rw [List.take_add_one, ho] at hx
    rcases List.mem_append.1 hx with h | h
    · exact hall x h
    · simp at h
      subst h
      exact ⟨d1.1, d1.2, d2.1, d2.2, d3.1, d3.2⟩
  · have ej : j = r.Sends.length := by omega
    rw [ej, List.take_length] at hall
    exact hk _ h2.drop true ⟨fun _ => ⟨d1.1, d1.2, d2.1, d2.2, d3.1, d3.2, by simp only [RuleX.r]; omega, hall⟩, fun _ => rfl⟩

def isOn (s c : Int) (r : RuleX) : Prop := r.State = s ∧ r.Class = c
theorem ref07_Find_s {v : Value} {l : List RuleX} {s c : Int} (i : Nat) (hi : L[i]? = some S) (hS : Sat e w L) (hr : ∀ g, S g → rdS 4 RuleX.cs v l g) (hl : l.length ≤ 1000000)
    (hno : (∀ r ∈ l, ¬ isOn s c r) → K (.int .i64 (-1)) w) (hyes : ∀ (j : Nat) r, l[j]? = some r → isOn s c r → (∀ y ∈ l.take j, ¬ isOn s c y) → K (.int .i64 j) w) : Cl prog 76 #[v, .int .i64 s, .int .i64 c] w K := by
  refine pacelineref07_Find_calls ?_
  unfold pacelineref07_Find
  refine lpi1 (fun q t w' => ∃ j : Nat, j ≤ l.length ∧ t = .int .i64 j ∧ q = l.length - j ∧ (∀ y ∈ l.take j, ¬ isOn s c y) ∧ w' = w) l.length ⟨0, Nat.zero_le _, rfl, rfl, by simp, rfl⟩ ?_
  rintro q _ w' g ⟨j, hj, rfl, rfl, hlo, rfl⟩ hg
  refine lnS_rd hS i hi hr ?_
  refine lt_c (fun c0 => iff_t ?_) (fun c0 => iff_f ?_)
  · obtain ⟨r, hrj⟩ := get_of_lt (l := l) (j := j) (by omega)
    have hnext : ¬ isOn s c r → bi .add .i64 (.int .i64 j) (.int .i64 1) w' fun t13 w => g [t13] w := by
      intro h
      refine inc_s (by omega) ?_
      refine hg _ _ _ (by omega) ⟨j + 1, by omega, rfl, rfl, fun y hy => ?_, rfl⟩
      rw [List.take_add_one, hrj] at hy
      rcases List.mem_append.1 hy with h' | h'
      · exact hlo y h'
      · simp at h'
        subst h'
        exact h
    refine ixS_rd hS i hi hr (fun _ => rfl) hrj fun a ha => ?_
    refine fld_of ha fun a1 ha1 => ?_
    refine ld1_of hS i hi ha1 (v := .int .i64 r.State) rfl ?_
    refine eq_c (fun c1 => ?_) (fun c1 => ?_)
    · refine gd_tt (gd_tt (gd_tt (ixS_rd hS i hi hr (fun _ => rfl) hrj fun a ha => ?_)))
      refine gd_tt (fld_of ha fun a1 ha1 => ?_)
      refine gd_tt (ld1_of hS i hi ha1 (v := .int .i64 r.Class) rfl ?_)
      refine gd_tt (gd_tt (eq_c (fun c2 => ?_) (fun c2 => ?_)))
      · exact pk_t (iff_t (hyes j r hrj ⟨c1, c2⟩ hlo))
      · exact pk_t (iff_f (hnext fun h => c2 h.2))
    · repeat (first | refine gd_tt ?_ | refine gd_ff ?_ | refine gd_tf ?_ | refine gd_ft ?_ | refine gd_u ?_ | refine pk_t ?_ | refine pk_f ?_ | refine iff_t ?_ | refine iff_f ?_ | refine not_t ?_ | refine not_f ?_ | refine beq_s ?_ | refine bne_s ?_ | refine ncP_p ?_ | refine nc_p ?_ | refine fld_at ?_ | refine xt_02 ?_ | refine xt_12 ?_ | refine xt_03 ?_ | refine xt_13 ?_ | refine xt_23 ?_ | refine eq_t (by omega) ?_ | refine eq_f (by omega) ?_ | refine ne_t (by omega) ?_ | refine ne_f (by omega) ?_ | refine lt_t (by omega) ?_ | refine lt_f (by omega) ?_ | refine gt_t (by omega) ?_ | refine gt_f (by omega) ?_ | refine ge_t (by omega) ?_ | refine ge_f (by omega) ?_ | refine le_t (by omega) ?_ | refine le_f (by omega) ?_)
      exact hnext fun h => c1 h.1
  · have ej : j = l.length := by omega
    rw [ej, List.take_length] at hlo
    exact hno hlo
theorem isOn_onK {r x : RuleX} : isOn r.State r.Class x ↔ onK x = onK r := by
  unfold isOn onK
  simp
open Classical in
theorem ref07_Check_s {v : Value} {l : List RuleX} (i : Nat) (hi : L[i]? = some S) (hS : Sat e w L) (hr : ∀ g, S g → RdRules v l g) (hl : ∀ r ∈ l, r.Sends.length ≤ 1000000) (hk : ∀ w', Sat e w' L → K (.int .i64 (if okRules (l.map RuleX.r) then 0 else 70)) w') :
    Cl prog 51 #[v] w K := by
  refine pacelineref07_Check_calls ?_
  unfold pacelineref07_Check
  have hbad : ¬ okRules (l.map RuleX.r) → ∀ w', Sat e w' L → K (.int .i64 70) w' := fun h w' h' => by have := hk w' h'; rw [if_neg h] at this; exact this
  refine lnS_rd hS i hi (fun g hg => (hr g hg).s) ?_
  by_cases c1 : 32 < l.length
  · repeat (first | refine gd_tt ?_ | refine gd_ff ?_ | refine gd_tf ?_ | refine gd_ft ?_ | refine gd_u ?_ | refine pk_t ?_ | refine pk_f ?_ | refine iff_t ?_ | refine iff_f ?_ | refine not_t ?_ | refine not_f ?_ | refine beq_s ?_ | refine bne_s ?_ | refine ncP_p ?_ | refine nc_p ?_ | refine fld_at ?_ | refine xt_02 ?_ | refine xt_12 ?_ | refine xt_03 ?_ | refine xt_13 ?_ | refine xt_23 ?_ | refine eq_t (by omega) ?_ | refine eq_f (by omega) ?_ | refine ne_t (by omega) ?_ | refine ne_f (by omega) ?_ | refine lt_t (by omega) ?_ | refine lt_f (by omega) ?_ | refine gt_t (by omega) ?_ | refine gt_f (by omega) ?_ | refine ge_t (by omega) ?_ | refine ge_f (by omega) ?_ | refine le_t (by omega) ?_ | refine le_f (by omega) ?_)
    exact hbad (fun h => by have := h.1; rw [List.length_map] at this; omega) _ hS
  refine gt_f (by omega) (iff_f ?_)
  refine lpi1 (fun q t14 w => ∃ j : Nat, j ≤ l.length ∧ t14 = .int .i64 j ∧ q = l.length - j ∧ (∀ r ∈ l.take j, okRule r.r) ∧ ((l.take j).map onK).Nodup ∧ Sat e w L) l.length
    ⟨0, Nat.zero_le _, rfl, rfl, by simp, by simp, hS⟩ ?_
  rintro q _ w g ⟨j, hj, rfl, rfl, hall, hnd, h2⟩ hg
  refine lnS_rd h2 i hi (fun g hg => (hr g hg).s) ?_
  refine lt_c (fun c => iff_t ?_) (fun c => iff_f ?_)
  · obtain ⟨r, hrj⟩ := get_of_lt (l := l) (j := j) (by omega)
    have hrm := List.mem_of_getElem? hrj
    refine dr_s h2 fun w3 h3 => ?_
    refine ixS_rd h3 i hi (fun g hg => (hr g hg).s) (fun _ => rfl) hrj fun a ha => ?_
    refine ldN_of h3 i hi ha rfl ?_
    refine ref07_fine_s i hi h3 (fun g hg => (hr g hg).e r hrm) (hl r hrm) fun w4 h4 b hb => ?_
    refine not_d ?_
    cases b with
    | false =>
      rw [Bool.not_false]
      repeat (first | refine gd_tt ?_ | refine gd_ff ?_ | refine gd_tf ?_ | refine gd_ft ?_ | refine gd_u ?_ | refine pk_t ?_ | refine pk_f ?_ | refine iff_t ?_ | refine iff_f ?_ | refine not_t ?_ | refine not_f ?_ | refine beq_s ?_ | refine bne_s ?_ | refine ncP_p ?_ | refine nc_p ?_ | refine fld_at ?_ | refine xt_02 ?_ | refine xt_12 ?_ | refine xt_03 ?_ | refine xt_13 ?_ | refine xt_23 ?_ | refine eq_t (by omega) ?_ | refine eq_f (by omega) ?_ | refine ne_t (by omega) ?_ | refine ne_f (by omega) ?_ | refine lt_t (by omega) ?_ | refine lt_f (by omega) ?_ | refine gt_t (by omega) ?_ | refine gt_f (by omega) ?_ | refine ge_t (by omega) ?_ | refine ge_f (by omega) ?_ | refine le_t (by omega) ?_ | refine le_f (by omega) ?_)
      exact hbad (fun h => by have := hb.2 ((okRules_x.1 h).2.1 r hrm); cases this) _ h4
    | true =>
      have hok := hb.1 rfl
      rw [Bool.not_true]
      refine gd_ff (gd_ff (gd_ff (gd_ff (ixS_rd h4 i hi (fun g hg => (hr g hg).s) (fun _ => rfl) hrj fun a ha => ?_))))
      refine gd_ff (fld_of ha fun a1 ha1 => ?_)
      refine gd_ff (ld1_of h4 i hi ha1 (v := .int .i64 r.State) rfl ?_)
      refine gd_ff (gd_ff (gd_ff (ixS_rd h4 i hi (fun g hg => (hr g hg).s) (fun _ => rfl) hrj fun a ha => ?_)))
      refine gd_ff (fld_of ha fun a1 ha1 => ?_)
      refine gd_ff (ld1_of h4 i hi ha1 (v := .int .i64 r.Class) rfl ?_)
      refine gd_ff (gd_ff ?_)
      refine ref07_Find_s i hi h4 (fun g hg => (hr g hg).s) (by omega) (fun h => absurd (⟨rfl, rfl⟩ : isOn r.State r.Class r) (h r hrm)) (fun n y hy hon hlo => ?_)
      refine gd_ff (ne_c (fun c2 => ?_) (fun c2 => ?_))
      · refine pk_f (iff_t (hbad (fun h => ?_) _ h4))
        have hnj : n < j := by
          rcases Nat.lt_or_ge n j with h | h
          · exact h
          · have hne : j < n := by omega
            refine absurd (⟨rfl, rfl⟩ : isOn r.State r.Class r) (hlo r ?_)
            refine List.mem_of_getElem? (i := j) ?_
            rw [List.getElem?_take_of_lt hne]
            exact hrj
        refine nodup_at (okRules_x.1 h).2.2 hrj ?_
        rw [← isOn_onK.1 hon]
        refine List.mem_map_of_mem (List.mem_of_getElem? (i := n) ?_)
        rw [List.getElem?_take_of_lt hnj]
        exact hy
      · refine pk_f (iff_f (inc_s (by omega) ?_))
        have e1 : n = j := by omega
        subst e1
        refine hg _ _ _ (by omega) ⟨n + 1, by omega, rfl, rfl, fun x hx => ?_, nodup_take hnd hrj fun hm => ?_, h4⟩
        · rw [List.take_add_one, hrj] at hx
          rcases List.mem_append.1 hx with h | h
          · exact hall x h
          · simp at h
            subst h
            exact hok
        · obtain ⟨x, hx, he⟩ := List.mem_map.1 hm
          exact hlo x hx (isOn_onK.2 he)
  · have ej : j = l.length := by omega
    rw [ej, List.take_length] at hall hnd
    have := hk _ h2
    rw [if_pos (okRules_x.2 ⟨by omega, hall, hnd⟩)] at this
    exact this
theorem rising_lo {most : Int} : ∀ {l : List Int} {lo : Int}, rising most lo l → ∀ c ∈ l, lo < c
  | [], _, _, c, hc => by cases hc
  | a :: l, lo, h, c, hc => by
    obtain ⟨h1, h2, h3⟩ := h
    rcases List.mem_cons.1 hc with rfl | hc
    · exact h1
    · have := rising_lo h3 c hc
      omega
open Classical in
theorem classes_s {v : Value} {l : List Int} {most : Int} (i : Nat) (hi : L[i]? = some S) (hS : Sat e w L) (hr : ∀ g, S g → rdS 1 (intsK .i64) v l g) (hl : l.length ≤ 1000) (hk : ∀ w', Sat e w' L → K (.bool (decide (rising most (-1) l))) w') :
    Cl prog 52 #[v, .int .i64 most] w K := by
  refine pacelineref08_classes_calls ?_
  unfold pacelineref08_classes
  have hbad : ¬ rising most (-1) l → ∀ w', Sat e w' L → K (.bool false) w' := fun h w' h' => by have := hk w' h'; rw [decide_eq_false h] at this; exact this
  refine lpi1 (fun q t w => ∃ j : Nat, j ≤ l.length ∧ t = .int .i64 j ∧ q = l.length - j ∧ (∀ (i : Nat) c, i < j → l[i]? = some c → (if i = 0 then -1 else l.getD (i - 1) 0) < c ∧ c < most) ∧ Sat e w L) l.length ⟨0, Nat.zero_le _, rfl, rfl, fun _ _ h => absurd h (by omega), hS⟩ ?_
  rintro q _ w g ⟨j, hj, rfl, rfl, hno, h1⟩ hg
  refine lnS_rd h1 i hi hr ?_
  refine lt_c (fun c => iff_t ?_) (fun c => iff_f ?_)
  · obtain ⟨y, hy⟩ := get_of_lt (l := l) (j := j) (by omega)
    have hym := List.mem_of_getElem? hy
    refine dr_s h1 fun w2 h2 => ?_
    refine ixS_rd h2 i hi hr (fun _ => rfl) hy fun a ha => ?_
    refine ld1_of h2 i hi ha (v := .int .i64 y) rfl ?_
    by_cases c1 : y < 0
    · repeat (first | refine gd_tt ?_ | refine gd_ff ?_ | refine gd_tf ?_ | refine gd_ft ?_ | refine gd_u ?_ | refine pk_t ?_ | refine pk_f ?_ | refine iff_t ?_ | refine iff_f ?_ | refine not_t ?_ | refine not_f ?_ | refine beq_s ?_ | refine bne_s ?_ | refine ncP_p ?_ | refine nc_p ?_ | refine fld_at ?_ | refine xt_02 ?_ | refine xt_12 ?_ | refine xt_03 ?_ | refine xt_13 ?_ | refine xt_23 ?_ | refine eq_t (by omega) ?_ | refine eq_f (by omega) ?_ | refine ne_t (by omega) ?_ | refine ne_f (by omega) ?_ | refine lt_t (by omega) ?_ | refine lt_f (by omega) ?_ | refine gt_t (by omega) ?_ | refine gt_f (by omega) ?_ | refine ge_t (by omega) ?_ | refine ge_f (by omega) ?_ | refine le_t (by omega) ?_ | refine le_f (by omega) ?_)
      refine hbad (fun h => ?_) _ h2
      have := rising_lo h y hym
      omega
    refine lt_f c1 ?_
    refine gd_ff (gd_ff (gd_ff (ixS_rd h2 i hi hr (fun _ => rfl) hy fun a ha => ?_)))
    refine gd_ff (ld1_of h2 i hi ha (v := .int .i64 y) rfl ?_)
    by_cases c2 : most ≤ y
    · repeat (first | refine gd_tt ?_ | refine gd_ff ?_ | refine gd_tf ?_ | refine gd_ft ?_ | refine gd_u ?_ | refine pk_t ?_ | refine pk_f ?_ | refine iff_t ?_ | refine iff_f ?_ | refine not_t ?_ | refine not_f ?_ | refine beq_s ?_ | refine bne_s ?_ | refine ncP_p ?_ | refine nc_p ?_ | refine fld_at ?_ | refine xt_02 ?_ | refine xt_12 ?_ | refine xt_03 ?_ | refine xt_13 ?_ | refine xt_23 ?_ | refine eq_t (by omega) ?_ | refine eq_f (by omega) ?_ | refine ne_t (by omega) ?_ | refine ne_f (by omega) ?_ | refine lt_t (by omega) ?_ | refine lt_f (by omega) ?_ | refine gt_t (by omega) ?_ | refine gt_f (by omega) ?_ | refine ge_t (by omega) ?_ | refine ge_f (by omega) ?_ | refine le_t (by omega) ?_ | refine le_f (by omega) ?_)
      refine hbad (fun h => ?_) _ h2
      have := (rising_drop.1 h j y hy).2
      omega
    refine gd_ff (gd_ff (ge_f (by omega) (pk_f ?_)))
    have hnext : (if j = 0 then (-1 : Int) else l.getD (j - 1) 0) < y → ∀ w', Sat e w' L → bi .add .i64 (.int .i64 j) (.int .i64 1) w' fun t11 w => g [t11] w := by
      intro hlt w' h'
      refine inc_s (by omega) ?_
      refine hg _ _ _ (by omega) ⟨j + 1, by omega, rfl, rfl, fun i c hi hc => ?_, h'⟩
      by_cases h : i = j
      · subst h
        rw [hy] at hc
        cases hc
        exact ⟨hlt, by omega⟩
      · exact hno i c (by omega) hc
    by_cases c3 : j = 0
    · subst c3
      repeat (first | refine gd_tt ?_ | refine gd_ff ?_ | refine gd_tf ?_ | refine gd_ft ?_ | refine gd_u ?_ | refine pk_t ?_ | refine pk_f ?_ | refine iff_t ?_ | refine iff_f ?_ | refine not_t ?_ | refine not_f ?_ | refine beq_s ?_ | refine bne_s ?_ | refine ncP_p ?_ | refine nc_p ?_ | refine fld_at ?_ | refine xt_02 ?_ | refine xt_12 ?_ | refine xt_03 ?_ | refine xt_13 ?_ | refine xt_23 ?_ | refine eq_t (by omega) ?_ | refine eq_f (by omega) ?_ | refine ne_t (by omega) ?_ | refine ne_f (by omega) ?_ | refine lt_t (by omega) ?_ | refine lt_f (by omega) ?_ | refine gt_t (by omega) ?_ | refine gt_f (by omega) ?_ | refine ge_t (by omega) ?_ | refine ge_f (by omega) ?_ | refine le_t (by omega) ?_ | refine le_f (by omega) ?_)
      exact hnext (by rw [if_pos rfl]; omega) _ h2
    · refine gd_ff (gd_ff (gt_t (by omega) (gd_ff ?_)))
      obtain ⟨z, hz⟩ := get_of_lt (l := l) (j := j - 1) (by omega)
      refine gd_tt (gd_tt (gd_tt (ixS_rd h2 i hi hr (fun _ => rfl) hy fun a ha => ?_)))
      refine gd_tt (ld1_of h2 i hi ha (v := .int .i64 y) rfl ?_)
      refine gd_tt (gd_tt (gd_tt (sub_s (by omega) (by omega) ?_)))
      rw [show (j : Int) - 1 = ((j - 1 : Nat) : Int) from by omega]
      refine gd_tt (ixS_rd h2 i hi hr (fun _ => rfl) hz fun a ha => ?_)
      refine gd_tt (ld1_of h2 i hi ha (v := .int .i64 z) rfl ?_)
      have hzz : l.getD (j - 1) 0 = z := by rw [List.getD_eq_getElem?_getD, hz]; rfl
      refine gd_tt (le_c (fun c4 => ?_) (fun c4 => ?_))
      · repeat (first | refine gd_tt ?_ | refine gd_ff ?_ | refine gd_tf ?_ | refine gd_ft ?_ | refine gd_u ?_ | refine pk_t ?_ | refine pk_f ?_ | refine iff_t ?_ | refine iff_f ?_ | refine not_t ?_ | refine not_f ?_ | refine beq_s ?_ | refine bne_s ?_ | refine ncP_p ?_ | refine nc_p ?_ | refine fld_at ?_ | refine xt_02 ?_ | refine xt_12 ?_ | refine xt_03 ?_ | refine xt_13 ?_ | refine xt_23 ?_ | refine eq_t (by omega) ?_ | refine eq_f (by omega) ?_ | refine ne_t (by omega) ?_ | refine ne_f (by omega) ?_ | refine lt_t (by omega) ?_ | refine lt_f (by omega) ?_ | refine gt_t (by omega) ?_ | refine gt_f (by omega) ?_ | refine ge_t (by omega) ?_ | refine ge_f (by omega) ?_ | refine le_t (by omega) ?_ | refine le_f (by omega) ?_)
        refine hbad (fun h => ?_) _ h2
        have := (rising_drop.1 h j y hy).1
        rw [if_neg c3, hzz] at this
        omega
      · repeat (first | refine gd_tt ?_ | refine gd_ff ?_ | refine gd_tf ?_ | refine gd_ft ?_ | refine gd_u ?_ | refine pk_t ?_ | refine pk_f ?_ | refine iff_t ?_ | refine iff_f ?_ | refine not_t ?_ | refine not_f ?_ | refine beq_s ?_ | refine bne_s ?_ | refine ncP_p ?_ | refine nc_p ?_ | refine fld_at ?_ | refine xt_02 ?_ | refine xt_12 ?_ | refine xt_03 ?_ | refine xt_13 ?_ | refine xt_23 ?_ | refine eq_t (by omega) ?_ | refine eq_f (by omega) ?_ | refine ne_t (by omega) ?_ | refine ne_f (by omega) ?_ | refine lt_t (by omega) ?_ | refine lt_f (by omega) ?_ | refine gt_t (by omega) ?_ | refine gt_f (by omega) ?_ | refine ge_t (by omega) ?_ | refine ge_f (by omega) ?_ | refine le_t (by omega) ?_ | refine le_f (by omega) ?_)
        exact hnext (by rw [if_neg c3, hzz]; omega) _ h2
  · have ej : j = l.length := by omega
    have := hk _ h1
    rw [decide_eq_true (rising_drop.2 fun i c hc => hno i c (by have := (List.getElem?_eq_some_iff.1 hc).1; omega) hc)] at this
    exact this
end Go.Proofs.Ytfcnjbannejchaa
