/- The document's Check of a federation. Conditions: the lists are short. The document's Check of a federate, a federation. Conditions: the lists are short. -/
import Derived.Test.YtenglfaeohgkfaaGreatSoloE
namespace Go.Proofs.YtenglfaeohgkfaaGreat
open Go Go.E
set_option maxRecDepth 100000
variable {e w : World} {L R : List HP} {K : KV} {S : HP}

theorem ref05_Check_s {v : Value} {l : List Int} (i : Nat) (hi : L[i]? = some S) (hS : Sat e w L) (hr : ∀ g, S g → rdS 1 (intsK .i64) v l g) (hk : K (.int .i64 (treeE l)) w) : Cl prog 66 #[v] w K := by
  refine pacelineref05_Check_calls ?_
  unfold pacelineref05_Check
  have hbad : ¬ okTree l → K (.int .i64 50) w := fun h => by unfold treeE at hk; rw [if_neg h] at hk; exact hk
  refine lnS_rd hS i hi hr ?_
  by_cases c1 : 1 ≤ l.length
  case neg =>
    repeat (first | refine gd_tt ?_ | refine gd_ff ?_ | refine gd_tf ?_ | refine gd_ft ?_ | refine gd_u ?_ | refine pk_t ?_ | refine pk_f ?_ | refine iff_t ?_ | refine iff_f ?_ | refine not_t ?_ | refine not_f ?_ | refine beq_s ?_ | refine bne_s ?_ | refine ncP_p ?_ | refine nc_p ?_ | refine fld_at ?_ | refine xt_02 ?_ | refine xt_12 ?_ | refine xt_03 ?_ | refine xt_13 ?_ | refine xt_23 ?_ | refine eq_t (by omega) ?_ | refine eq_f (by omega) ?_ | refine ne_t (by omega) ?_ | refine ne_f (by omega) ?_ | refine lt_t (by omega) ?_ | refine lt_f (by omega) ?_ | refine gt_t (by omega) ?_ | refine gt_f (by omega) ?_ | refine ge_t (by omega) ?_ | refine ge_f (by omega) ?_ | refine le_t (by omega) ?_ | refine le_f (by omega) ?_)
    exact hbad fun h => c1 h.1
  refine lt_f (by omega) (gd_ff (gd_ff (lnS_rd hS i hi hr ?_)))
  by_cases c2 : l.length ≤ 16
  case neg =>
    repeat (first | refine gd_tt ?_ | refine gd_ff ?_ | refine gd_tf ?_ | refine gd_ft ?_ | refine gd_u ?_ | refine pk_t ?_ | refine pk_f ?_ | refine iff_t ?_ | refine iff_f ?_ | refine not_t ?_ | refine not_f ?_ | refine beq_s ?_ | refine bne_s ?_ | refine ncP_p ?_ | refine nc_p ?_ | refine fld_at ?_ | refine xt_02 ?_ | refine xt_12 ?_ | refine xt_03 ?_ | refine xt_13 ?_ | refine xt_23 ?_ | refine eq_t (by omega) ?_ | refine eq_f (by omega) ?_ | refine ne_t (by omega) ?_ | refine ne_f (by omega) ?_ | refine lt_t (by omega) ?_ | refine lt_f (by omega) ?_ | refine gt_t (by omega) ?_ | refine gt_f (by omega) ?_ | refine ge_t (by omega) ?_ | refine ge_f (by omega) ?_ | refine le_t (by omega) ?_ | refine le_f (by omega) ?_)
    exact hbad fun h => c2 h.2.1
  repeat (first | refine gd_tt ?_ | refine gd_ff ?_ | refine gd_tf ?_ | refine gd_ft ?_ | refine gd_u ?_ | refine pk_t ?_ | refine pk_f ?_ | refine iff_t ?_ | refine iff_f ?_ | refine not_t ?_ | refine not_f ?_ | refine beq_s ?_ | refine bne_s ?_ | refine ncP_p ?_ | refine nc_p ?_ | refine fld_at ?_ | refine xt_02 ?_ | refine xt_12 ?_ | refine xt_03 ?_ | refine xt_13 ?_ | refine xt_23 ?_ | refine eq_t (by omega) ?_ | refine eq_f (by omega) ?_ | refine ne_t (by omega) ?_ | refine ne_f (by omega) ?_ | refine lt_t (by omega) ?_ | refine lt_f (by omega) ?_ | refine gt_t (by omega) ?_ | refine gt_f (by omega) ?_ | refine ge_t (by omega) ?_ | refine ge_f (by omega) ?_ | refine le_t (by omega) ?_ | refine le_f (by omega) ?_)
  refine lpi1 (fun q t8 w' => ∃ j : Nat, j ≤ l.length ∧ t8 = .int .i64 j ∧ q = l.length - j ∧ (∀ (i : Nat) p, i < j → l[i]? = some p → -1 ≤ p ∧ p < i) ∧ w' = w) l.length ⟨0, Nat.zero_le _, rfl, rfl, fun _ _ h => absurd h (by omega), rfl⟩ ?_
  rintro q _ w' g ⟨j, hj, rfl, rfl, hno, rfl⟩ hg
  refine lnS_rd hS i hi hr ?_
  refine lt_c (fun c => iff_t ?_) (fun c => iff_f ?_)
  · obtain ⟨y, hy⟩ := get_of_lt (l := l) (j := j) (by omega)
    refine ixS_rd hS i hi hr (fun _ => rfl) hy fun a ha => ?_
    refine ld1_of hS i hi ha (v := .int .i64 y) rfl ?_
    by_cases c3 : y < -1
    · repeat (first | refine gd_tt ?_ | refine gd_ff ?_ | refine gd_tf ?_ | refine gd_ft ?_ | refine gd_u ?_ | refine pk_t ?_ | refine pk_f ?_ | refine iff_t ?_ | refine iff_f ?_ | refine not_t ?_ | refine not_f ?_ | refine beq_s ?_ | refine bne_s ?_ | refine ncP_p ?_ | refine nc_p ?_ | refine fld_at ?_ | refine xt_02 ?_ | refine xt_12 ?_ | refine xt_03 ?_ | refine xt_13 ?_ | refine xt_23 ?_ | refine eq_t (by omega) ?_ | refine eq_f (by omega) ?_ | refine ne_t (by omega) ?_ | refine ne_f (by omega) ?_ | refine lt_t (by omega) ?_ | refine lt_f (by omega) ?_ | refine gt_t (by omega) ?_ | refine gt_f (by omega) ?_ | refine ge_t (by omega) ?_ | refine ge_f (by omega) ?_ | refine le_t (by omega) ?_ | refine le_f (by omega) ?_)
      exact hbad fun h => by have := h.2.2 j y hy; omega
    · refine lt_f c3 (gd_ff (gd_ff (gd_ff (ixS_rd hS i hi hr (fun _ => rfl) hy fun a ha => ?_))))
      refine gd_ff (ld1_of hS i hi ha (v := .int .i64 y) rfl ?_)
      by_cases c4 : (j : Int) ≤ y
      · repeat (first | refine gd_tt ?_ | refine gd_ff ?_ | refine gd_tf ?_ | refine gd_ft ?_ | refine gd_u ?_ | refine pk_t ?_ | refine pk_f ?_ | refine iff_t ?_ | refine iff_f ?_ | refine not_t ?_ | refine not_f ?_ | refine beq_s ?_ | refine bne_s ?_ | refine ncP_p ?_ | refine nc_p ?_ | refine fld_at ?_ | refine xt_02 ?_ | refine xt_12 ?_ | refine xt_03 ?_ | refine xt_13 ?_ | refine xt_23 ?_ | refine eq_t (by omega) ?_ | refine eq_f (by omega) ?_ | refine ne_t (by omega) ?_ | refine ne_f (by omega) ?_ | refine lt_t (by omega) ?_ | refine lt_f (by omega) ?_ | refine gt_t (by omega) ?_ | refine gt_f (by omega) ?_ | refine ge_t (by omega) ?_ | refine ge_f (by omega) ?_ | refine le_t (by omega) ?_ | refine le_f (by omega) ?_)
        exact hbad fun h => by have := h.2.2 j y hy; omega
      · repeat (first | refine gd_tt ?_ | refine gd_ff ?_ | refine gd_tf ?_ | refine gd_ft ?_ | refine gd_u ?_ | refine pk_t ?_ | refine pk_f ?_ | refine iff_t ?_ | refine iff_f ?_ | refine not_t ?_ | refine not_f ?_ | refine beq_s ?_ | refine bne_s ?_ | refine ncP_p ?_ | refine nc_p ?_ | refine fld_at ?_ | refine xt_02 ?_ | refine xt_12 ?_ | refine xt_03 ?_ | refine xt_13 ?_ | refine xt_23 ?_ | refine eq_t (by omega) ?_ | refine eq_f (by omega) ?_ | refine ne_t (by omega) ?_ | refine ne_f (by omega) ?_ | refine lt_t (by omega) ?_ | refine lt_f (by omega) ?_ | refine gt_t (by omega) ?_ | refine gt_f (by omega) ?_ | refine ge_t (by omega) ?_ | refine ge_f (by omega) ?_ | refine le_t (by omega) ?_ | refine le_f (by omega) ?_)
        refine inc_s (by omega) ?_
        refine hg _ _ _ (by omega) ⟨j + 1, by omega, rfl, rfl, fun i p hi hp => ?_, rfl⟩
        by_cases h : i = j
        · subst h
          rw [hy] at hp
          cases hp
          omega
        · exact hno i p (by omega) hp
  · have ej : j = l.length := by omega
    unfold treeE at hk
    rw [if_pos ⟨c1, c2, fun i p hp => hno i p (by have := (List.getElem?_eq_some_iff.1 hp).1; omega) hp⟩] at hk
    exact hk
theorem ref05_Has_s {v : Value} {l : List Int} {x : Int} (i : Nat) (hi : L[i]? = some S) (hS : Sat e w L) (hr : ∀ g, S g → rdS 1 (intsK .i64) v l g) (hl : l.length ≤ 1000000) (hk : K (.bool (decide (x ∈ l))) w) : Cl prog 100 #[v, .int .i64 x] w K := by
  refine pacelineref05_Has_calls ?_
  unfold pacelineref05_Has
  refine lpi1 (fun q t8 w' => ∃ j : Nat, j ≤ l.length ∧ t8 = .int .i64 j ∧ q = l.length - j ∧ x ∉ l.take j ∧ w' = w) l.length ⟨0, Nat.zero_le _, rfl, rfl, by simp, rfl⟩ ?_
  rintro q _ w' g ⟨j, hj, rfl, rfl, hno, rfl⟩ hg
  refine lnS_rd hS i hi hr ?_
  refine lt_c (fun c => iff_t ?_) (fun c => iff_f ?_)
  · obtain ⟨y, hy⟩ := get_of_lt (l := l) (j := j) (by omega)
    refine ixS_rd hS i hi hr (fun _ => rfl) hy fun a ha => ?_
    refine ld1_of hS i hi ha (v := .int .i64 y) rfl ?_
    refine eq_c (fun c2 => iff_t ?_) (fun c2 => iff_f ?_)
    · rw [decide_eq_true (c2 ▸ List.mem_of_getElem? hy)] at hk
      exact hk
    · refine inc_s (by omega) ?_
      refine hg _ _ _ (by omega) ⟨j + 1, by omega, rfl, rfl, ?_, rfl⟩
      rw [List.take_add_one, hy]
      simp [hno, Ne.symm c2]
  · have ej : j = l.length := by omega
    rw [ej, List.take_length] at hno
    rw [decide_eq_false hno] at hk
    exact hk
theorem ref07_in_s {n m : Int} (hk : K (.bool (decide (0 ≤ n ∧ n < m))) w) : Cl prog 135 #[.int .i64 n, .int .i64 m] w K := by
  refine pacelineref07_in_calls ?_
  unfold pacelineref07_in
  by_cases c1 : 0 ≤ n
  · by_cases c2 : n < m
    · rw [decide_eq_true ⟨c1, c2⟩] at hk
      repeat (first | refine gd_tt ?_ | refine gd_ff ?_ | refine gd_tf ?_ | refine gd_ft ?_ | refine gd_u ?_ | refine pk_t ?_ | refine pk_f ?_ | refine iff_t ?_ | refine iff_f ?_ | refine not_t ?_ | refine not_f ?_ | refine beq_s ?_ | refine bne_s ?_ | refine ncP_p ?_ | refine nc_p ?_ | refine fld_at ?_ | refine xt_02 ?_ | refine xt_12 ?_ | refine xt_03 ?_ | refine xt_13 ?_ | refine xt_23 ?_ | refine eq_t (by omega) ?_ | refine eq_f (by omega) ?_ | refine ne_t (by omega) ?_ | refine ne_f (by omega) ?_ | refine lt_t (by omega) ?_ | refine lt_f (by omega) ?_ | refine gt_t (by omega) ?_ | refine gt_f (by omega) ?_ | refine ge_t (by omega) ?_ | refine ge_f (by omega) ?_ | refine le_t (by omega) ?_ | refine le_f (by omega) ?_)
      exact hk
    · rw [decide_eq_false fun h => c2 h.2] at hk
      repeat (first | refine gd_tt ?_ | refine gd_ff ?_ | refine gd_tf ?_ | refine gd_ft ?_ | refine gd_u ?_ | refine pk_t ?_ | refine pk_f ?_ | refine iff_t ?_ | refine iff_f ?_ | refine not_t ?_ | refine not_f ?_ | refine beq_s ?_ | refine bne_s ?_ | refine ncP_p ?_ | refine nc_p ?_ | refine fld_at ?_ | refine xt_02 ?_ | refine xt_12 ?_ | refine xt_03 ?_ | refine xt_13 ?_ | refine xt_23 ?_ | refine eq_t (by omega) ?_ | refine eq_f (by omega) ?_ | refine ne_t (by omega) ?_ | refine ne_f (by omega) ?_ | refine lt_t (by omega) ?_ | refine lt_f (by omega) ?_ | refine gt_t (by omega) ?_ | refine gt_f (by omega) ?_ | refine ge_t (by omega) ?_ | refine ge_f (by omega) ?_ | refine le_t (by omega) ?_ | refine le_f (by omega) ?_)
      exact hk
  · rw [decide_eq_false fun h => c1 h.1] at hk
    repeat (first | refine gd_tt ?_ | refine gd_ff ?_ | refine gd_tf ?_ | refine gd_ft ?_ | refine gd_u ?_ | refine pk_t ?_ | refine pk_f ?_ | refine iff_t ?_ | refine iff_f ?_ | refine not_t ?_ | refine not_f ?_ | refine beq_s ?_ | refine bne_s ?_ | refine ncP_p ?_ | refine nc_p ?_ | refine fld_at ?_ | refine xt_02 ?_ | refine xt_12 ?_ | refine xt_03 ?_ | refine xt_13 ?_ | refine xt_23 ?_ | refine eq_t (by omega) ?_ | refine eq_f (by omega) ?_ | refine ne_t (by omega) ?_ | refine ne_f (by omega) ?_ | refine lt_t (by omega) ?_ | refine lt_f (by omega) ?_ | refine gt_t (by omega) ?_ | refine gt_f (by omega) ?_ | refine ge_t (by omega) ?_ | refine ge_f (by omega) ?_ | refine le_t (by omega) ?_ | refine le_f (by omega) ?_)
    exact hk
theorem ref07_fine_s {r : RuleX} (i : Nat) (hi : L[i]? = some S) (hS : Sat e w L) (hr : ∀ g, S g → rdS 3 Out.cs r.sv r.Sends g) (hl : r.Sends.length ≤ 1000000) (hk : ∀ w', Sat e w' L → ∀ b : Bool, (b = true ↔ okRule r.r) → K (.bool b) w') :
    Cl prog 121 #[.agg r.cs.toArray] w K := by
  refine pacelineref07_fine_calls ?_
  unfold pacelineref07_fine
  refine al_s (cs := r.cs) hS rfl fun tb w1 h1 => ?_
  have hi1 : (blk tb 80 r.cs :: L)[i + 1]? = some S := by simpa using hi
  have hno : ¬ okRule r.r → ∀ w', Sat e w' (blk tb 80 r.cs :: L) → K (.bool false) w' := fun h w' h' => hk _ h'.drop false ⟨(fun h => by cases h), fun h2 => absurd h2 h⟩
  refine fld_at (ld1_at h1 0 rfl (v := .int .i64 r.State) rfl ?_)
  refine ref07_in_s (not_d ?_)
  by_cases d1 : 0 ≤ r.State ∧ r.State < 8
  case neg =>
    rw [decide_eq_false d1, Bool.not_false]
    repeat (first | refine gd_tt ?_ | refine gd_ff ?_ | refine gd_tf ?_ | refine gd_ft ?_ | refine gd_u ?_ | refine pk_t ?_ | refine pk_f ?_ | refine iff_t ?_ | refine iff_f ?_ | refine not_t ?_ | refine not_f ?_ | refine beq_s ?_ | refine bne_s ?_ | refine ncP_p ?_ | refine nc_p ?_ | refine fld_at ?_ | refine xt_02 ?_ | refine xt_12 ?_ | refine xt_03 ?_ | refine xt_13 ?_ | refine xt_23 ?_ | refine eq_t (by omega) ?_ | refine eq_f (by omega) ?_ | refine ne_t (by omega) ?_ | refine ne_f (by omega) ?_ | refine lt_t (by omega) ?_ | refine lt_f (by omega) ?_ | refine gt_t (by omega) ?_ | refine gt_f (by omega) ?_ | refine ge_t (by omega) ?_ | refine ge_f (by omega) ?_ | refine le_t (by omega) ?_ | refine le_f (by omega) ?_)
    exact hno (fun h => d1 ⟨h.1, h.2.1⟩) _ h1
  rw [decide_eq_true d1, Bool.not_true]
  repeat (first | refine gd_tt ?_ | refine gd_ff ?_ | refine gd_tf ?_ | refine gd_ft ?_ | refine gd_u ?_ | refine pk_t ?_ | refine pk_f ?_ | refine iff_t ?_ | refine iff_f ?_ | refine not_t ?_ | refine not_f ?_ | refine beq_s ?_ | refine bne_s ?_ | refine ncP_p ?_ | refine nc_p ?_ | refine fld_at ?_ | refine xt_02 ?_ | refine xt_12 ?_ | refine xt_03 ?_ | refine xt_13 ?_ | refine xt_23 ?_ | refine eq_t (by omega) ?_ | refine eq_f (by omega) ?_ | refine ne_t (by omega) ?_ | refine ne_f (by omega) ?_ | refine lt_t (by omega) ?_ | refine lt_f (by omega) ?_ | refine gt_t (by omega) ?_ | refine gt_f (by omega) ?_ | refine ge_t (by omega) ?_ | refine ge_f (by omega) ?_ | refine le_t (by omega) ?_ | refine le_f (by omega) ?_)
  refine ld1_at h1 0 rfl (v := .int .i64 r.Next) rfl ?_
  refine gd_ff (ref07_in_s (gd_ff (not_d ?_)))
  by_cases d2 : 0 ≤ r.Next ∧ r.Next < 8
  case neg =>
    rw [decide_eq_false d2, Bool.not_false]
    repeat (first | refine gd_tt ?_ | refine gd_ff ?_ | refine gd_tf ?_ | refine gd_ft ?_ | refine gd_u ?_ | refine pk_t ?_ | refine pk_f ?_ | refine iff_t ?_ | refine iff_f ?_ | refine not_t ?_ | refine not_f ?_ | refine beq_s ?_ | refine bne_s ?_ | refine ncP_p ?_ | refine nc_p ?_ | refine fld_at ?_ | refine xt_02 ?_ | refine xt_12 ?_ | refine xt_03 ?_ | refine xt_13 ?_ | refine xt_23 ?_ | refine eq_t (by omega) ?_ | refine eq_f (by omega) ?_ | refine ne_t (by omega) ?_ | refine ne_f (by omega) ?_ | refine lt_t (by omega) ?_ | refine lt_f (by omega) ?_ | refine gt_t (by omega) ?_ | refine gt_f (by omega) ?_ | refine ge_t (by omega) ?_ | refine ge_f (by omega) ?_ | refine le_t (by omega) ?_ | refine le_f (by omega) ?_)
    exact hno (fun h => d2 ⟨h.2.2.1, h.2.2.2.1⟩) _ h1
  rw [decide_eq_true d2, Bool.not_true]
  repeat (first | refine gd_tt ?_ | refine gd_ff ?_ | refine gd_tf ?_ | refine gd_ft ?_ | refine gd_u ?_ | refine pk_t ?_ | refine pk_f ?_ | refine iff_t ?_ | refine iff_f ?_ | refine not_t ?_ | refine not_f ?_ | refine beq_s ?_ | refine bne_s ?_ | refine ncP_p ?_ | refine nc_p ?_ | refine fld_at ?_ | refine xt_02 ?_ | refine xt_12 ?_ | refine xt_03 ?_ | refine xt_13 ?_ | refine xt_23 ?_ | refine eq_t (by omega) ?_ | refine eq_f (by omega) ?_ | refine ne_t (by omega) ?_ | refine ne_f (by omega) ?_ | refine lt_t (by omega) ?_ | refine lt_f (by omega) ?_ | refine gt_t (by omega) ?_ | refine gt_f (by omega) ?_ | refine ge_t (by omega) ?_ | refine ge_f (by omega) ?_ | refine le_t (by omega) ?_ | refine le_f (by omega) ?_)
  refine ld1_at h1 0 rfl (v := .int .i64 r.Class) rfl ?_
  refine gd_ff (ref07_in_s (gd_ff (not_d ?_)))
  by_cases d3 : 0 ≤ r.Class ∧ r.Class < 16
  case neg =>
    rw [decide_eq_false d3, Bool.not_false]
    repeat (first | refine gd_tt ?_ | refine gd_ff ?_ | refine gd_tf ?_ | refine gd_ft ?_ | refine gd_u ?_ | refine pk_t ?_ | refine pk_f ?_ | refine iff_t ?_ | refine iff_f ?_ | refine not_t ?_ | refine not_f ?_ | refine beq_s ?_ | refine bne_s ?_ | refine ncP_p ?_ | refine nc_p ?_ | refine fld_at ?_ | refine xt_02 ?_ | refine xt_12 ?_ | refine xt_03 ?_ | refine xt_13 ?_ | refine xt_23 ?_ | refine eq_t (by omega) ?_ | refine eq_f (by omega) ?_ | refine ne_t (by omega) ?_ | refine ne_f (by omega) ?_ | refine lt_t (by omega) ?_ | refine lt_f (by omega) ?_ | refine gt_t (by omega) ?_ | refine gt_f (by omega) ?_ | refine ge_t (by omega) ?_ | refine ge_f (by omega) ?_ | refine le_t (by omega) ?_ | refine le_f (by omega) ?_)
    exact hno (fun h => d3 ⟨h.2.2.2.2.1, h.2.2.2.2.2.1⟩) _ h1
  rw [decide_eq_true d3, Bool.not_true]
  repeat (first | refine gd_tt ?_ | refine gd_ff ?_ | refine gd_tf ?_ | refine gd_ft ?_ | refine gd_u ?_ | refine pk_t ?_ | refine pk_f ?_ | refine iff_t ?_ | refine iff_f ?_ | refine not_t ?_ | refine not_f ?_ | refine beq_s ?_ | refine bne_s ?_ | refine ncP_p ?_ | refine nc_p ?_ | refine fld_at ?_ | refine xt_02 ?_ | refine xt_12 ?_ | refine xt_03 ?_ | refine xt_13 ?_ | refine xt_23 ?_ | refine eq_t (by omega) ?_ | refine eq_f (by omega) ?_ | refine ne_t (by omega) ?_ | refine ne_f (by omega) ?_ | refine lt_t (by omega) ?_ | refine lt_f (by omega) ?_ | refine gt_t (by omega) ?_ | refine gt_f (by omega) ?_ | refine ge_t (by omega) ?_ | refine ge_f (by omega) ?_ | refine le_t (by omega) ?_ | refine le_f (by omega) ?_)
  refine ld1_at h1 0 rfl (v := r.sv) rfl ?_
  refine gd_ff (lnS_rd h1 (i + 1) hi1 hr ?_)
  by_cases d4 : 3 < r.Sends.length
  · repeat (first | refine gd_tt ?_ | refine gd_ff ?_ | refine gd_tf ?_ | refine gd_ft ?_ | refine gd_u ?_ | refine pk_t ?_ | refine pk_f ?_ | refine iff_t ?_ | refine iff_f ?_ | refine not_t ?_ | refine not_f ?_ | refine beq_s ?_ | refine bne_s ?_ | refine ncP_p ?_ | refine nc_p ?_ | refine fld_at ?_ | refine xt_02 ?_ | refine xt_12 ?_ | refine xt_03 ?_ | refine xt_13 ?_ | refine xt_23 ?_ | refine eq_t (by omega) ?_ | refine eq_f (by omega) ?_ | refine ne_t (by omega) ?_ | refine ne_f (by omega) ?_ | refine lt_t (by omega) ?_ | refine lt_f (by omega) ?_ | refine gt_t (by omega) ?_ | refine gt_f (by omega) ?_ | refine ge_t (by omega) ?_ | refine ge_f (by omega) ?_ | refine le_t (by omega) ?_ | refine le_f (by omega) ?_)
    exact hno (fun h => by have := h.2.2.2.2.2.2.1; simp only [RuleX.r] at this; omega) _ h1
  repeat (first | refine gd_tt ?_ | refine gd_ff ?_ | refine gd_tf ?_ | refine gd_ft ?_ | refine gd_u ?_ | refine pk_t ?_ | refine pk_f ?_ | refine iff_t ?_ | refine iff_f ?_ | refine not_t ?_ | refine not_f ?_ | refine beq_s ?_ | refine bne_s ?_ | refine ncP_p ?_ | refine nc_p ?_ | refine fld_at ?_ | refine xt_02 ?_ | refine xt_12 ?_ | refine xt_03 ?_ | refine xt_13 ?_ | refine xt_23 ?_ | refine eq_t (by omega) ?_ | refine eq_f (by omega) ?_ | refine ne_t (by omega) ?_ | refine ne_f (by omega) ?_ | refine lt_t (by omega) ?_ | refine lt_f (by omega) ?_ | refine gt_t (by omega) ?_ | refine gt_f (by omega) ?_ | refine ge_t (by omega) ?_ | refine ge_f (by omega) ?_ | refine le_t (by omega) ?_ | refine le_f (by omega) ?_)
  refine lpi1 (fun q t w => ∃ j : Nat, j ≤ r.Sends.length ∧ t = .int .i64 j ∧ q = r.Sends.length - j ∧ (∀ o ∈ r.Sends.take j, okOut o) ∧ Sat e w (blk tb 80 r.cs :: L)) r.Sends.length ⟨0, Nat.zero_le _, rfl, rfl, by simp, h1⟩ ?_
  rintro q _ w g ⟨j, hj, rfl, rfl, hall, h2⟩ hg
  refine fld_at (ld1_at h2 0 rfl (v := r.sv) rfl ?_)
  refine lnS_rd h2 (i + 1) hi1 hr ?_
  refine lt_c (fun c => iff_t ?_) (fun c => iff_f ?_)
  · obtain ⟨o, ho⟩ := get_of_lt (l := r.Sends) (j := j) (by omega)
    have hom := List.mem_of_getElem? ho
    refine fld_at (ld1_at h2 0 rfl (v := r.sv) rfl ?_)
    refine ixS_rd h2 (i + 1) hi1 hr (fun _ => rfl) ho fun a ha => ?_
    refine ldN_of h2 (i + 1) hi1 ha rfl ?_
    rw [zero_78]
    refine al_s (cs := ints [0, 0, 0]) h2 rfl fun t2 w3 h3 => ?_
    refine stN_at h3 0 rfl (vs := o.cs) rfl rfl (by decide) (ints_flat _) (cs' := o.cs) (by rfl) fun w4 h4 => ?_
    have hno2 : ¬ okOut o → K (.bool false) w4 := fun h => hno (fun h2 => h (h2.2.2.2.2.2.2.2 o hom)) _ h4.drop
    refine fld_at (ld1_at h4 0 rfl (v := .int .i64 o.Class) rfl ?_)
    refine ref07_in_s (not_d ?_)
    by_cases d1 : 0 ≤ o.Class ∧ o.Class < 16
    case neg =>
      rw [decide_eq_false d1, Bool.not_false]
      repeat (first | refine gd_tt ?_ | refine gd_ff ?_ | refine gd_tf ?_ | refine gd_ft ?_ | refine gd_u ?_ | refine pk_t ?_ | refine pk_f ?_ | refine iff_t ?_ | refine iff_f ?_ | refine not_t ?_ | refine not_f ?_ | refine beq_s ?_ | refine bne_s ?_ | refine ncP_p ?_ | refine nc_p ?_ | refine fld_at ?_ | refine xt_02 ?_ | refine xt_12 ?_ | refine xt_03 ?_ | refine xt_13 ?_ | refine xt_23 ?_ | refine eq_t (by omega) ?_ | refine eq_f (by omega) ?_ | refine ne_t (by omega) ?_ | refine ne_f (by omega) ?_ | refine lt_t (by omega) ?_ | refine lt_f (by omega) ?_ | refine gt_t (by omega) ?_ | refine gt_f (by omega) ?_ | refine ge_t (by omega) ?_ | refine ge_f (by omega) ?_ | refine le_t (by omega) ?_ | refine le_f (by omega) ?_)
      exact hno2 fun h => d1 ⟨h.1, h.2.1⟩
    rw [decide_eq_true d1, Bool.not_true]
    repeat (first | refine gd_tt ?_ | refine gd_ff ?_ | refine gd_tf ?_ | refine gd_ft ?_ | refine gd_u ?_ | refine pk_t ?_ | refine pk_f ?_ | refine iff_t ?_ | refine iff_f ?_ | refine not_t ?_ | refine not_f ?_ | refine beq_s ?_ | refine bne_s ?_ | refine ncP_p ?_ | refine nc_p ?_ | refine fld_at ?_ | refine xt_02 ?_ | refine xt_12 ?_ | refine xt_03 ?_ | refine xt_13 ?_ | refine xt_23 ?_ | refine eq_t (by omega) ?_ | refine eq_f (by omega) ?_ | refine ne_t (by omega) ?_ | refine ne_f (by omega) ?_ | refine lt_t (by omega) ?_ | refine lt_f (by omega) ?_ | refine gt_t (by omega) ?_ | refine gt_f (by omega) ?_ | refine ge_t (by omega) ?_ | refine ge_f (by omega) ?_ | refine le_t (by omega) ?_ | refine le_f (by omega) ?_)
    refine ld1_at h4 0 rfl (v := .int .i64 o.Delay) rfl ?_
    refine gd_ff (ref07_in_s (gd_ff (not_d ?_)))
    by_cases d2 : 0 ≤ o.Delay ∧ o.Delay < 1048577
    case neg =>
      rw [decide_eq_false d2, Bool.not_false]
      repeat (first | refine gd_tt ?_ | refine gd_ff ?_ | refine gd_tf ?_ | refine gd_ft ?_ | refine gd_u ?_ | refine pk_t ?_ | refine pk_f ?_ | refine iff_t ?_ | refine iff_f ?_ | refine not_t ?_ | refine not_f ?_ | refine beq_s ?_ | refine bne_s ?_ | refine ncP_p ?_ | refine nc_p ?_ | refine fld_at ?_ | refine xt_02 ?_ | refine xt_12 ?_ | refine xt_03 ?_ | refine xt_13 ?_ | refine xt_23 ?_ | refine eq_t (by omega) ?_ | refine eq_f (by omega) ?_ | refine ne_t (by omega) ?_ | refine ne_f (by omega) ?_ | refine lt_t (by omega) ?_ | refine lt_f (by omega) ?_ | refine gt_t (by omega) ?_ | refine gt_f (by omega) ?_ | refine ge_t (by omega) ?_ | refine ge_f (by omega) ?_ | refine le_t (by omega) ?_ | refine le_f (by omega) ?_)
      exact hno2 fun h => d2 ⟨h.2.2.1, h.2.2.2.1⟩
    rw [decide_eq_true d2, Bool.not_true]
    repeat (first | refine gd_tt ?_ | refine gd_ff ?_ | refine gd_tf ?_ | refine gd_ft ?_ | refine gd_u ?_ | refine pk_t ?_ | refine pk_f ?_ | refine iff_t ?_ | refine iff_f ?_ | refine not_t ?_ | refine not_f ?_ | refine beq_s ?_ | refine bne_s ?_ | refine ncP_p ?_ | refine nc_p ?_ | refine fld_at ?_ | refine xt_02 ?_ | refine xt_12 ?_ | refine xt_03 ?_ | refine xt_13 ?_ | refine xt_23 ?_ | refine eq_t (by omega) ?_ | refine eq_f (by omega) ?_ | refine ne_t (by omega) ?_ | refine ne_f (by omega) ?_ | refine lt_t (by omega) ?_ | refine lt_f (by omega) ?_ | refine gt_t (by omega) ?_ | refine gt_f (by omega) ?_ | refine ge_t (by omega) ?_ | refine ge_f (by omega) ?_ | refine le_t (by omega) ?_ | refine le_f (by omega) ?_)
    refine ld1_at h4 0 rfl (v := .int .i64 o.Add) rfl ?_
    refine gd_ff (ref07_in_s (gd_ff (not_d ?_)))
    by_cases d3 : 0 ≤ o.Add ∧ o.Add < 1000
    case neg =>
      rw [decide_eq_false d3, Bool.not_false]
      repeat (first | refine gd_tt ?_ | refine gd_ff ?_ | refine gd_tf ?_ | refine gd_ft ?_ | refine gd_u ?_ | refine pk_t ?_ | refine pk_f ?_ | refine iff_t ?_ | refine iff_f ?_ | refine not_t ?_ | refine not_f ?_ | refine beq_s ?_ | refine bne_s ?_ | refine ncP_p ?_ | refine nc_p ?_ | refine fld_at ?_ | refine xt_02 ?_ | refine xt_12 ?_ | refine xt_03 ?_ | refine xt_13 ?_ | refine xt_23 ?_ | refine eq_t (by omega) ?_ | refine eq_f (by omega) ?_ | refine ne_t (by omega) ?_ | refine ne_f (by omega) ?_ | refine lt_t (by omega) ?_ | refine lt_f (by omega) ?_ | refine gt_t (by omega) ?_ | refine gt_f (by omega) ?_ | refine ge_t (by omega) ?_ | refine ge_f (by omega) ?_ | refine le_t (by omega) ?_ | refine le_f (by omega) ?_)
      exact hno2 fun h => d3 ⟨h.2.2.2.2.1, h.2.2.2.2.2⟩
    rw [decide_eq_true d3, Bool.not_true]
    repeat (first | refine gd_tt ?_ | refine gd_ff ?_ | refine gd_tf ?_ | refine gd_ft ?_ | refine gd_u ?_ | refine pk_t ?_ | refine pk_f ?_ | refine iff_t ?_ | refine iff_f ?_ | refine not_t ?_ | refine not_f ?_ | refine beq_s ?_ | refine bne_s ?_ | refine ncP_p ?_ | refine nc_p ?_ | refine fld_at ?_ | refine xt_02 ?_ | refine xt_12 ?_ | refine xt_03 ?_ | refine xt_13 ?_ | refine xt_23 ?_ | refine eq_t (by omega) ?_ | refine eq_f (by omega) ?_ | refine ne_t (by omega) ?_ | refine ne_f (by omega) ?_ | refine lt_t (by omega) ?_ | refine lt_f (by omega) ?_ | refine gt_t (by omega) ?_ | refine gt_f (by omega) ?_ | refine ge_t (by omega) ?_ | refine ge_f (by omega) ?_ | refine le_t (by omega) ?_ | refine le_f (by omega) ?_)
    refine inc_s (by omega) ?_
    refine hg _ _ _ (by omega) ⟨j + 1, by omega, rfl, rfl, fun x hx => ?_, h4.drop⟩
    rw [List.take_add_one, ho] at hx
    rcases List.mem_append.1 hx with h | h
    · exact hall x h
    · simp at h
      subst h
      exact ⟨d1.1, d1.2, d2.1, d2.2, d3.1, d3.2⟩
  · have ej : j = r.Sends.length := by omega
    rw [ej, List.take_length] at hall
    exact hk _ h2.drop true ⟨fun _ => ⟨d1.1, d1.2, d2.1, d2.2, d3.1, d3.2, by simp only [RuleX.r]; omega, hall⟩, fun _ => rfl⟩

def isOn (s c : Int) (r : RuleX) : Prop := r.State = s ∧ r.Class = c
theorem ref07_Find_s {v : Value} {l : List RuleX} {s c : Int} (i : Nat) (hi : L[i]? = some S) (hS : Sat e w L) (hr : ∀ g, S g → rdS 4 RuleX.cs v l g) (hl : l.length ≤ 1000000)
    (hno : (∀ r ∈ l, ¬ isOn s c r) → K (.int .i64 (-1)) w) (hyes : ∀ (j : Nat) r, l[j]? = some r → isOn s c r → (∀ y ∈ l.take j, ¬ isOn s c y) → K (.int .i64 j) w) : Cl prog 78 #[v, .int .i64 s, .int .i64 c] w K := by
  refine pacelineref07_Find_calls ?_
  unfold pacelineref07_Find
  refine lpi1 (fun q t w' => ∃ j : Nat, j ≤ l.length ∧ t = .int .i64 j ∧ q = l.length - j ∧ (∀ y ∈ l.take j, ¬ isOn s c y) ∧ w' = w) l.length ⟨0, Nat.zero_le _, rfl, rfl, by simp, rfl⟩ ?_
  rintro q _ w' g ⟨j, hj, rfl, rfl, hlo, rfl⟩ hg
  refine lnS_rd hS i hi hr ?_
  refine lt_c (fun c0 => iff_t ?_) (fun c0 => iff_f ?_)
  · obtain ⟨r, hrj⟩ := get_of_lt (l := l) (j := j) (by omega)
    have hnext : ¬ isOn s c r → bi .add .i64 (.int .i64 j) (.int .i64 1) w' fun t13 w => g [t13] w := by
      intro h
      refine inc_s (by omega) ?_
      refine hg _ _ _ (by omega) ⟨j + 1, by omega, rfl, rfl, fun y hy => ?_, rfl⟩
      rw [List.take_add_one, hrj] at hy
      rcases List.mem_append.1 hy with h' | h'
      · exact hlo y h'
      · simp at h'
        subst h'
        exact h
    refine ixS_rd hS i hi hr (fun _ => rfl) hrj fun a ha => ?_
    refine fld_of ha fun a1 ha1 => ?_
    refine ld1_of hS i hi ha1 (v := .int .i64 r.State) rfl ?_
    refine eq_c (fun c1 => ?_) (fun c1 => ?_)
    · refine gd_tt (gd_tt (gd_tt (ixS_rd hS i hi hr (fun _ => rfl) hrj fun a ha => ?_)))
      refine gd_tt (fld_of ha fun a1 ha1 => ?_)
      refine gd_tt (ld1_of hS i hi ha1 (v := .int .i64 r.Class) rfl ?_)
      refine gd_tt (gd_tt (eq_c (fun c2 => ?_) (fun c2 => ?_)))
      · exact pk_t (iff_t (hyes j r hrj ⟨c1, c2⟩ hlo))
      · exact pk_t (iff_f (hnext fun h => c2 h.2))
    · repeat (first | refine gd_tt ?_ | refine gd_ff ?_ | refine gd_tf ?_ | refine gd_ft ?_ | refine gd_u ?_ | refine pk_t ?_ | refine pk_f ?_ | refine iff_t ?_ | refine iff_f ?_ | refine not_t ?_ | refine not_f ?_ | refine beq_s ?_ | refine bne_s ?_ | refine ncP_p ?_ | refine nc_p ?_ | refine fld_at ?_ | refine xt_02 ?_ | refine xt_12 ?_ | refine xt_03 ?_ | refine xt_13 ?_ | refine xt_23 ?_ | refine eq_t (by omega) ?_ | refine eq_f (by omega) ?_ | refine ne_t (by omega) ?_ | refine ne_f (by omega) ?_ | refine lt_t (by omega) ?_ | refine lt_f (by omega) ?_ | refine gt_t (by omega) ?_ | refine gt_f (by omega) ?_ | refine ge_t (by omega) ?_ | refine ge_f (by omega) ?_ | refine le_t (by omega) ?_ | refine le_f (by omega) ?_)
      exact hnext fun h => c1 h.1
  · have ej : j = l.length := by omega
    rw [ej, List.take_length] at hlo
    exact hno hlo
theorem isOn_onK {r x : RuleX} : isOn r.State r.Class x ↔ onK x = onK r := by
  unfold isOn onK
  simp
open Classical in
theorem ref07_Check_s {v : Value} {l : List RuleX} (i : Nat) (hi : L[i]? = some S) (hS : Sat e w L) (hr : ∀ g, S g → RdRules v l g) (hl : ∀ r ∈ l, r.Sends.length ≤ 1000000) (hk : ∀ w', Sat e w' L → K (.int .i64 (if okRules (l.map RuleX.r) then 0 else 70)) w') :
    Cl prog 98 #[v] w K := by
  refine pacelineref07_Check_calls ?_
  unfold pacelineref07_Check
  have hbad : ¬ okRules (l.map RuleX.r) → ∀ w', Sat e w' L → K (.int .i64 70) w' := fun h w' h' => by have := hk w' h'; rw [if_neg h] at this; exact this
  refine lnS_rd hS i hi (fun g hg => (hr g hg).s) ?_
  by_cases c1 : 32 < l.length
  · repeat (first | refine gd_tt ?_ | refine gd_ff ?_ | refine gd_tf ?_ | refine gd_ft ?_ | refine gd_u ?_ | refine pk_t ?_ | refine pk_f ?_ | refine iff_t ?_ | refine iff_f ?_ | refine not_t ?_ | refine not_f ?_ | refine beq_s ?_ | refine bne_s ?_ | refine ncP_p ?_ | refine nc_p ?_ | refine fld_at ?_ | refine xt_02 ?_ | refine xt_12 ?_ | refine xt_03 ?_ | refine xt_13 ?_ | refine xt_23 ?_ | refine eq_t (by omega) ?_ | refine eq_f (by omega) ?_ | refine ne_t (by omega) ?_ | refine ne_f (by omega) ?_ | refine lt_t (by omega) ?_ | refine lt_f (by omega) ?_ | refine gt_t (by omega) ?_ | refine gt_f (by omega) ?_ | refine ge_t (by omega) ?_ | refine ge_f (by omega) ?_ | refine le_t (by omega) ?_ | refine le_f (by omega) ?_)
    exact hbad (fun h => by have := h.1; rw [List.length_map] at this; omega) _ hS
  refine gt_f (by omega) (iff_f ?_)
  refine lpi1 (fun q t14 w => ∃ j : Nat, j ≤ l.length ∧ t14 = .int .i64 j ∧ q = l.length - j ∧ (∀ r ∈ l.take j, okRule r.r) ∧ ((l.take j).map onK).Nodup ∧ Sat e w L) l.length
    ⟨0, Nat.zero_le _, rfl, rfl, by simp, by simp, hS⟩ ?_
  rintro q _ w g ⟨j, hj, rfl, rfl, hall, hnd, h2⟩ hg
  refine lnS_rd h2 i hi (fun g hg => (hr g hg).s) ?_
  refine lt_c (fun c => iff_t ?_) (fun c => iff_f ?_)
  · obtain ⟨r, hrj⟩ := get_of_lt (l := l) (j := j) (by omega)
    have hrm := List.mem_of_getElem? hrj
    refine dr_s h2 fun w3 h3 => ?_
    refine ixS_rd h3 i hi (fun g hg => (hr g hg).s) (fun _ => rfl) hrj fun a ha => ?_
    refine ldN_of h3 i hi ha rfl ?_
    refine ref07_fine_s i hi h3 (fun g hg => (hr g hg).e r hrm) (hl r hrm) fun w4 h4 b hb => ?_
    refine not_d ?_
    cases b with
    | false =>
      rw [Bool.not_false]
      repeat (first | refine gd_tt ?_ | refine gd_ff ?_ | refine gd_tf ?_ | refine gd_ft ?_ | refine gd_u ?_ | refine pk_t ?_ | refine pk_f ?_ | refine iff_t ?_ | refine iff_f ?_ | refine not_t ?_ | refine not_f ?_ | refine beq_s ?_ | refine bne_s ?_ | refine ncP_p ?_ | refine nc_p ?_ | refine fld_at ?_ | refine xt_02 ?_ | refine xt_12 ?_ | refine xt_03 ?_ | refine xt_13 ?_ | refine xt_23 ?_ | refine eq_t (by omega) ?_ | refine eq_f (by omega) ?_ | refine ne_t (by omega) ?_ | refine ne_f (by omega) ?_ | refine lt_t (by omega) ?_ | refine lt_f (by omega) ?_ | refine gt_t (by omega) ?_ | refine gt_f (by omega) ?_ | refine ge_t (by omega) ?_ | refine ge_f (by omega) ?_ | refine le_t (by omega) ?_ | refine le_f (by omega) ?_)
      exact hbad (fun h => by have := hb.2 ((okRules_x.1 h).2.1 r hrm); cases this) _ h4
    | true =>
      have hok := hb.1 rfl
      rw [Bool.not_true]
      refine gd_ff (gd_ff (gd_ff (gd_ff (ixS_rd h4 i hi (fun g hg => (hr g hg).s) (fun _ => rfl) hrj fun a ha => ?_))))
      refine gd_ff (fld_of ha fun a1 ha1 => ?_)
      refine gd_ff (ld1_of h4 i hi ha1 (v := .int .i64 r.State) rfl ?_)
      refine gd_ff (gd_ff (gd_ff (ixS_rd h4 i hi (fun g hg => (hr g hg).s) (fun _ => rfl) hrj fun a ha => ?_)))
      refine gd_ff (fld_of ha fun a1 ha1 => ?_)
      refine gd_ff (ld1_of h4 i hi ha1 (v := .int .i64 r.Class) rfl ?_)
      refine gd_ff (gd_ff ?_)
      refine ref07_Find_s i hi h4 (fun g hg => (hr g hg).s) (by omega) (fun h => absurd (⟨rfl, rfl⟩ : isOn r.State r.Class r) (h r hrm)) (fun n y hy hon hlo => ?_)
      refine gd_ff (ne_c (fun c2 => ?_) (fun c2 => ?_))
      · refine pk_f (iff_t (hbad (fun h => ?_) _ h4))
        have hnj : n < j := by
          rcases Nat.lt_or_ge n j with h | h
          · exact h
          · have hne : j < n := by omega
            refine absurd (⟨rfl, rfl⟩ : isOn r.State r.Class r) (hlo r ?_)
            refine List.mem_of_getElem? (i := j) ?_
            rw [List.getElem?_take_of_lt hne]
            exact hrj
        refine nodup_at (okRules_x.1 h).2.2 hrj ?_
        rw [← isOn_onK.1 hon]
        refine List.mem_map_of_mem (List.mem_of_getElem? (i := n) ?_)
        rw [List.getElem?_take_of_lt hnj]
        exact hy
      · refine pk_f (iff_f (inc_s (by omega) ?_))
        have e1 : n = j := by omega
        subst e1
        refine hg _ _ _ (by omega) ⟨n + 1, by omega, rfl, rfl, fun x hx => ?_, nodup_take hnd hrj fun hm => ?_, h4⟩
        · rw [List.take_add_one, hrj] at hx
          rcases List.mem_append.1 hx with h | h
          · exact hall x h
          · simp at h
            subst h
            exact hok
        · obtain ⟨x, hx, he⟩ := List.mem_map.1 hm
          exact hlo x hx (isOn_onK.2 he)
  · have ej : j = l.length := by omega
    rw [ej, List.take_length] at hall hnd
    have := hk _ h2
    rw [if_pos (okRules_x.2 ⟨by omega, hall, hnd⟩)] at this
    exact this
theorem rising_lo {most : Int} : ∀ {l : List Int} {lo : Int}, rising most lo l → ∀ c ∈ l, lo < c
  | [], _, _, c, hc => by cases hc
  | a :: l, lo, h, c, hc => by
    obtain ⟨h1, h2, h3⟩ := h
    rcases List.mem_cons.1 hc with rfl | hc
    · exact h1
    · have := rising_lo h3 c hc
      omega
open Classical in
theorem classes_s {v : Value} {l : List Int} {most : Int} (i : Nat) (hi : L[i]? = some S) (hS : Sat e w L) (hr : ∀ g, S g → rdS 1 (intsK .i64) v l g) (hl : l.length ≤ 1000) (hk : ∀ w', Sat e w' L → K (.bool (decide (rising most (-1) l))) w') :
    Cl prog 99 #[v, .int .i64 most] w K := by
  refine pacelineref08_classes_calls ?_
  unfold pacelineref08_classes
  have hbad : ¬ rising most (-1) l → ∀ w', Sat e w' L → K (.bool false) w' := fun h w' h' => by have := hk w' h'; rw [decide_eq_false h] at this; exact this
  refine lpi1 (fun q t w => ∃ j : Nat, j ≤ l.length ∧ t = .int .i64 j ∧ q = l.length - j ∧ (∀ (i : Nat) c, i < j → l[i]? = some c → (if i = 0 then -1 else l.getD (i - 1) 0) < c ∧ c < most) ∧ Sat e w L) l.length ⟨0, Nat.zero_le _, rfl, rfl, fun _ _ h => absurd h (by omega), hS⟩ ?_
  rintro q _ w g ⟨j, hj, rfl, rfl, hno, h1⟩ hg
  refine lnS_rd h1 i hi hr ?_
  refine lt_c (fun c => iff_t ?_) (fun c => iff_f ?_)
  · obtain ⟨y, hy⟩ := get_of_lt (l := l) (j := j) (by omega)
    have hym := List.mem_of_getElem? hy
    refine dr_s h1 fun w2 h2 => ?_
    refine ixS_rd h2 i hi hr (fun _ => rfl) hy fun a ha => ?_
    refine ld1_of h2 i hi ha (v := .int .i64 y) rfl ?_
    by_cases c1 : y < 0
    · repeat (first | refine gd_tt ?_ | refine gd_ff ?_ | refine gd_tf ?_ | refine gd_ft ?_ | refine gd_u ?_ | refine pk_t ?_ | refine pk_f ?_ | refine iff_t ?_ | refine iff_f ?_ | refine not_t ?_ | refine not_f ?_ | refine beq_s ?_ | refine bne_s ?_ | refine ncP_p ?_ | refine nc_p ?_ | refine fld_at ?_ | refine xt_02 ?_ | refine xt_12 ?_ | refine xt_03 ?_ | refine xt_13 ?_ | refine xt_23 ?_ | refine eq_t (by omega) ?_ | refine eq_f (by omega) ?_ | refine ne_t (by omega) ?_ | refine ne_f (by omega) ?_ | refine lt_t (by omega) ?_ | refine lt_f (by omega) ?_ | refine gt_t (by omega) ?_ | refine gt_f (by omega) ?_ | refine ge_t (by omega) ?_ | refine ge_f (by omega) ?_ | refine le_t (by omega) ?_ | refine le_f (by omega) ?_)
      refine hbad (fun h => ?_) _ h2
      have := rising_lo h y hym
      omega
    refine lt_f c1 ?_
    refine gd_ff (gd_ff (gd_ff (ixS_rd h2 i hi hr (fun _ => rfl) hy fun a ha => ?_)))
    refine gd_ff (ld1_of h2 i hi ha (v := .int .i64 y) rfl ?_)
    by_cases c2 : most ≤ y
    · repeat (first | refine gd_tt ?_ | refine gd_ff ?_ | refine gd_tf ?_ | refine gd_ft ?_ | refine gd_u ?_ | refine pk_t ?_ | refine pk_f ?_ | refine iff_t ?_ | refine iff_f ?_ | refine not_t ?_ | refine not_f ?_ | refine beq_s ?_ | refine bne_s ?_ | refine ncP_p ?_ | refine nc_p ?_ | refine fld_at ?_ | refine xt_02 ?_ | refine xt_12 ?_ | refine xt_03 ?_ | refine xt_13 ?_ | refine xt_23 ?_ | refine eq_t (by omega) ?_ | refine eq_f (by omega) ?_ | refine ne_t (by omega) ?_ | refine ne_f (by omega) ?_ | refine lt_t (by omega) ?_ | refine lt_f (by omega) ?_ | refine gt_t (by omega) ?_ | refine gt_f (by omega) ?_ | refine ge_t (by omega) ?_ | refine ge_f (by omega) ?_ | refine le_t (by omega) ?_ | refine le_f (by omega) ?_)
      refine hbad (fun h => ?_) _ h2
      have := (rising_drop.1 h j y hy).2
      omega
    refine gd_ff (gd_ff (ge_f (by omega) (pk_f ?_)))
    have hnext : (if j = 0 then (-1 : Int) else l.getD (j - 1) 0) < y → ∀ w', Sat e w' L → bi .add .i64 (.int .i64 j) (.int .i64 1) w' fun t11 w => g [t11] w := by
      intro hlt w' h'
      refine inc_s (by omega) ?_
      refine hg _ _ _ (by omega) ⟨j + 1, by omega, rfl, rfl, fun i c hi hc => ?_, h'⟩
      by_cases h : i = j
      · subst h
        rw [hy] at hc
        cases hc
        exact ⟨hlt, by omega⟩
      · exact hno i c (by omega) hc
    by_cases c3 : j = 0
    · subst c3
      repeat (first | refine gd_tt ?_ | refine gd_ff ?_ | refine gd_tf ?_ | refine gd_ft ?_ | refine gd_u ?_ | refine pk_t ?_ | refine pk_f ?_ | refine iff_t ?_ | refine iff_f ?_ | refine not_t ?_ | refine not_f ?_ | refine beq_s ?_ | refine bne_s ?_ | refine ncP_p ?_ | refine nc_p ?_ | refine fld_at ?_ | refine xt_02 ?_ | refine xt_12 ?_ | refine xt_03 ?_ | refine xt_13 ?_ | refine xt_23 ?_ | refine eq_t (by omega) ?_ | refine eq_f (by omega) ?_ | refine ne_t (by omega) ?_ | refine ne_f (by omega) ?_ | refine lt_t (by omega) ?_ | refine lt_f (by omega) ?_ | refine gt_t (by omega) ?_ | refine gt_f (by omega) ?_ | refine ge_t (by omega) ?_ | refine ge_f (by omega) ?_ | refine le_t (by omega) ?_ | refine le_f (by omega) ?_)
      exact hnext (by rw [if_pos rfl]; omega) _ h2
    · refine gd_ff (gd_ff (gt_t (by omega) (gd_ff ?_)))
      obtain ⟨z, hz⟩ := get_of_lt (l := l) (j := j - 1) (by omega)
      refine gd_tt (gd_tt (gd_tt (ixS_rd h2 i hi hr (fun _ => rfl) hy fun a ha => ?_)))
      refine gd_tt (ld1_of h2 i hi ha (v := .int .i64 y) rfl ?_)
      refine gd_tt (gd_tt (gd_tt (sub_s (by omega) (by omega) ?_)))
      rw [show (j : Int) - 1 = ((j - 1 : Nat) : Int) from by omega]
      refine gd_tt (ixS_rd h2 i hi hr (fun _ => rfl) hz fun a ha => ?_)
      refine gd_tt (ld1_of h2 i hi ha (v := .int .i64 z) rfl ?_)
      have hzz : l.getD (j - 1) 0 = z := by rw [List.getD_eq_getElem?_getD, hz]; rfl
      refine gd_tt (le_c (fun c4 => ?_) (fun c4 => ?_))
      · repeat (first | refine gd_tt ?_ | refine gd_ff ?_ | refine gd_tf ?_ | refine gd_ft ?_ | refine gd_u ?_ | refine pk_t ?_ | refine pk_f ?_ | refine iff_t ?_ | refine iff_f ?_ | refine not_t ?_ | refine not_f ?_ | refine beq_s ?_ | refine bne_s ?_ | refine ncP_p ?_ | refine nc_p ?_ | refine fld_at ?_ | refine xt_02 ?_ | refine xt_12 ?_ | refine xt_03 ?_ | refine xt_13 ?_ | refine xt_23 ?_ | refine eq_t (by omega) ?_ | refine eq_f (by omega) ?_ | refine ne_t (by omega) ?_ | refine ne_f (by omega) ?_ | refine lt_t (by omega) ?_ | refine lt_f (by omega) ?_ | refine gt_t (by omega) ?_ | refine gt_f (by omega) ?_ | refine ge_t (by omega) ?_ | refine ge_f (by omega) ?_ | refine le_t (by omega) ?_ | refine le_f (by omega) ?_)
        refine hbad (fun h => ?_) _ h2
        have := (rising_drop.1 h j y hy).1
        rw [if_neg c3, hzz] at this
        omega
      · repeat (first | refine gd_tt ?_ | refine gd_ff ?_ | refine gd_tf ?_ | refine gd_ft ?_ | refine gd_u ?_ | refine pk_t ?_ | refine pk_f ?_ | refine iff_t ?_ | refine iff_f ?_ | refine not_t ?_ | refine not_f ?_ | refine beq_s ?_ | refine bne_s ?_ | refine ncP_p ?_ | refine nc_p ?_ | refine fld_at ?_ | refine xt_02 ?_ | refine xt_12 ?_ | refine xt_03 ?_ | refine xt_13 ?_ | refine xt_23 ?_ | refine eq_t (by omega) ?_ | refine eq_f (by omega) ?_ | refine ne_t (by omega) ?_ | refine ne_f (by omega) ?_ | refine lt_t (by omega) ?_ | refine lt_f (by omega) ?_ | refine gt_t (by omega) ?_ | refine gt_f (by omega) ?_ | refine ge_t (by omega) ?_ | refine ge_f (by omega) ?_ | refine le_t (by omega) ?_ | refine le_f (by omega) ?_)
        exact hnext (by rw [if_neg c3, hzz]; omega) _ h2
  · have ej : j = l.length := by omega
    have := hk _ h1
    rw [decide_eq_true (rising_drop.2 fun i c hc => hno i c (by have := (List.getElem?_eq_some_iff.1 hc).1; omega) hc)] at this
    exact this
end Go.Proofs.YtenglfaeohgkfaaGreat
namespace Go.Proofs.YtenglfaeohgkfaaGreat
open Go Go.E
set_option maxRecDepth 100000
variable {e w : World} {L R : List HP} {K : KV} {S : HP}

open Classical in
theorem fedE_chain (f : Fed) (most : Int) : fedE f most = if ¬ (0 ≤ f.Kind ∧ f.Kind ≤ 1) then 1 else if ¬ (1 ≤ f.Look ∧ f.Look ≤ 1048576) then 80 else if ¬ (0 ≤ f.Start ∧ f.Start ≤ 7) then 70 else if ¬ okRules f.Rules then 70
    else if ¬ (rising most (-1) f.Pubs ∧ rising most (-1) f.Subs) then 81 else if rulesE f most f.Rules ≠ 0 then rulesE f most f.Rules else if ¬ okInit f then 82 else 0 := by
  unfold fedE fedEs
  simp only [firstE_cons, firstE_nil]
  by_cases p1 : 0 ≤ f.Kind ∧ f.Kind ≤ 1
  case neg => simp [p1]
  by_cases p2 : 1 ≤ f.Look ∧ f.Look ≤ 1048576
  case neg => simp [p1, p2]
  by_cases p3 : 0 ≤ f.Start ∧ f.Start ≤ 7
  case neg => simp [p1, p2, p3]
  by_cases p4 : okRules f.Rules
  case neg => simp [p1, p2, p3, p4]
  by_cases p5 : rising most (-1) f.Pubs ∧ rising most (-1) f.Subs
  case neg => simp [p1, p2, p3, p4, p5]
  by_cases p6 : rulesE f most f.Rules = 0
  case neg => simp [p1, p2, p3, p4, p5, p6]
  by_cases p7 : okInit f <;> simp [p1, p2, p3, p4, p5, p6, p7]
open Classical in
theorem ref08_Fed_s {f : FedX} {most : Int} (i : Nat) (hi : L[i]? = some S) (hS : Sat e w L) (hr : ∀ g, S g → RdFed f g) (hs : f.short)
    (hk : ∀ w', Sat e w' L → K (.int .i64 (fedE f.f most)) w') : Cl prog 67 #[.agg f.cs.toArray, .int .i64 most] w K := by
  refine pacelineref08_Fed_calls ?_
  unfold pacelineref08_Fed
  refine al_s (cs := f.cs) hS rfl fun b w1 h1 => ?_
  have hi1 : (blk b 72 f.cs :: L)[i + 1]? = some S := by simpa using hi
  rw [fedE_chain] at hk
  refine fld_at (ld1_at h1 0 rfl (v := .int .i64 f.Kind) rfl ?_)
  have hmid : ∀ K : KV, K (.bool (decide (¬ (0 ≤ f.Kind ∧ f.Kind ≤ 1)))) w1 → bi .neq .i64 (.int .i64 f.Kind) (.int .i64 0) w1 fun t12 w =>
      gd t12 true (fun k => fld 0 (.pointer (some ⟨b, 0, none⟩)) w k) w fun t14 w =>
      gd t12 true (fun k => ld1 t14 w k) w fun t15 w =>
      gd t12 true (fun k => bi .neq .i64 t15 (.int .i64 1) w k) w fun t16 w =>
      pk t12 t16 (.bool false) w K := by
    intro K hK
    by_cases q : f.Kind = 0
    · rw [decide_eq_false (by omega)] at hK
      repeat (first | refine gd_tt ?_ | refine gd_ff ?_ | refine gd_tf ?_ | refine gd_ft ?_ | refine gd_u ?_ | refine pk_t ?_ | refine pk_f ?_ | refine iff_t ?_ | refine iff_f ?_ | refine not_t ?_ | refine not_f ?_ | refine beq_s ?_ | refine bne_s ?_ | refine ncP_p ?_ | refine nc_p ?_ | refine fld_at ?_ | refine xt_02 ?_ | refine xt_12 ?_ | refine xt_03 ?_ | refine xt_13 ?_ | refine xt_23 ?_ | refine eq_t (by omega) ?_ | refine eq_f (by omega) ?_ | refine ne_t (by omega) ?_ | refine ne_f (by omega) ?_ | refine lt_t (by omega) ?_ | refine lt_f (by omega) ?_ | refine gt_t (by omega) ?_ | refine gt_f (by omega) ?_ | refine ge_t (by omega) ?_ | refine ge_f (by omega) ?_ | refine le_t (by omega) ?_ | refine le_f (by omega) ?_)
      exact hK
    · repeat (first | refine gd_tt ?_ | refine gd_ff ?_ | refine gd_tf ?_ | refine gd_ft ?_ | refine gd_u ?_ | refine pk_t ?_ | refine pk_f ?_ | refine iff_t ?_ | refine iff_f ?_ | refine not_t ?_ | refine not_f ?_ | refine beq_s ?_ | refine bne_s ?_ | refine ncP_p ?_ | refine nc_p ?_ | refine fld_at ?_ | refine xt_02 ?_ | refine xt_12 ?_ | refine xt_03 ?_ | refine xt_13 ?_ | refine xt_23 ?_ | refine eq_t (by omega) ?_ | refine eq_f (by omega) ?_ | refine ne_t (by omega) ?_ | refine ne_f (by omega) ?_ | refine lt_t (by omega) ?_ | refine lt_f (by omega) ?_ | refine gt_t (by omega) ?_ | refine gt_f (by omega) ?_ | refine ge_t (by omega) ?_ | refine ge_f (by omega) ?_ | refine le_t (by omega) ?_ | refine le_f (by omega) ?_)
      refine ld1_at h1 0 rfl (v := .int .i64 f.Kind) rfl ?_
      by_cases q2 : f.Kind = 1
      · rw [decide_eq_false (by omega)] at hK
        repeat (first | refine gd_tt ?_ | refine gd_ff ?_ | refine gd_tf ?_ | refine gd_ft ?_ | refine gd_u ?_ | refine pk_t ?_ | refine pk_f ?_ | refine iff_t ?_ | refine iff_f ?_ | refine not_t ?_ | refine not_f ?_ | refine beq_s ?_ | refine bne_s ?_ | refine ncP_p ?_ | refine nc_p ?_ | refine fld_at ?_ | refine xt_02 ?_ | refine xt_12 ?_ | refine xt_03 ?_ | refine xt_13 ?_ | refine xt_23 ?_ | refine eq_t (by omega) ?_ | refine eq_f (by omega) ?_ | refine ne_t (by omega) ?_ | refine ne_f (by omega) ?_ | refine lt_t (by omega) ?_ | refine lt_f (by omega) ?_ | refine gt_t (by omega) ?_ | refine gt_f (by omega) ?_ | refine ge_t (by omega) ?_ | refine ge_f (by omega) ?_ | refine le_t (by omega) ?_ | refine le_f (by omega) ?_)
        exact hK
      · rw [decide_eq_true (by omega)] at hK
        repeat (first | refine gd_tt ?_ | refine gd_ff ?_ | refine gd_tf ?_ | refine gd_ft ?_ | refine gd_u ?_ | refine pk_t ?_ | refine pk_f ?_ | refine iff_t ?_ | refine iff_f ?_ | refine not_t ?_ | refine not_f ?_ | refine beq_s ?_ | refine bne_s ?_ | refine ncP_p ?_ | refine nc_p ?_ | refine fld_at ?_ | refine xt_02 ?_ | refine xt_12 ?_ | refine xt_03 ?_ | refine xt_13 ?_ | refine xt_23 ?_ | refine eq_t (by omega) ?_ | refine eq_f (by omega) ?_ | refine ne_t (by omega) ?_ | refine ne_f (by omega) ?_ | refine lt_t (by omega) ?_ | refine lt_f (by omega) ?_ | refine gt_t (by omega) ?_ | refine gt_f (by omega) ?_ | refine ge_t (by omega) ?_ | refine ge_f (by omega) ?_ | refine le_t (by omega) ?_ | refine le_f (by omega) ?_)
        exact hK
  refine hmid _ ?_
  clear hmid
  by_cases p1 : 0 ≤ f.Kind ∧ f.Kind ≤ 1
  case neg =>
    rw [if_pos (show ¬ (0 ≤ f.f.Kind ∧ f.f.Kind ≤ 1) from p1)] at hk
    rw [decide_eq_true p1]
    exact iff_t (hk _ h1.drop)
  rw [if_neg (show ¬ ¬ (0 ≤ f.f.Kind ∧ f.f.Kind ≤ 1) from fun h => h p1)] at hk
  rw [decide_eq_false fun h => h p1]
  refine iff_f (fld_at (ld1_at h1 0 rfl (v := .int .i64 f.Look) rfl ?_))
  by_cases p2 : 1 ≤ f.Look ∧ f.Look ≤ 1048576
  case neg =>
    rw [if_pos (show ¬ (1 ≤ f.f.Look ∧ f.f.Look ≤ 1048576) from p2)] at hk
    by_cases q : f.Look < 1
    · repeat (first | refine gd_tt ?_ | refine gd_ff ?_ | refine gd_tf ?_ | refine gd_ft ?_ | refine gd_u ?_ | refine pk_t ?_ | refine pk_f ?_ | refine iff_t ?_ | refine iff_f ?_ | refine not_t ?_ | refine not_f ?_ | refine beq_s ?_ | refine bne_s ?_ | refine ncP_p ?_ | refine nc_p ?_ | refine fld_at ?_ | refine xt_02 ?_ | refine xt_12 ?_ | refine xt_03 ?_ | refine xt_13 ?_ | refine xt_23 ?_ | refine eq_t (by omega) ?_ | refine eq_f (by omega) ?_ | refine ne_t (by omega) ?_ | refine ne_f (by omega) ?_ | refine lt_t (by omega) ?_ | refine lt_f (by omega) ?_ | refine gt_t (by omega) ?_ | refine gt_f (by omega) ?_ | refine ge_t (by omega) ?_ | refine ge_f (by omega) ?_ | refine le_t (by omega) ?_ | refine le_f (by omega) ?_)
      exact hk _ h1.drop
    · repeat (first | refine gd_tt ?_ | refine gd_ff ?_ | refine gd_tf ?_ | refine gd_ft ?_ | refine gd_u ?_ | refine pk_t ?_ | refine pk_f ?_ | refine iff_t ?_ | refine iff_f ?_ | refine not_t ?_ | refine not_f ?_ | refine beq_s ?_ | refine bne_s ?_ | refine ncP_p ?_ | refine nc_p ?_ | refine fld_at ?_ | refine xt_02 ?_ | refine xt_12 ?_ | refine xt_03 ?_ | refine xt_13 ?_ | refine xt_23 ?_ | refine eq_t (by omega) ?_ | refine eq_f (by omega) ?_ | refine ne_t (by omega) ?_ | refine ne_f (by omega) ?_ | refine lt_t (by omega) ?_ | refine lt_f (by omega) ?_ | refine gt_t (by omega) ?_ | refine gt_f (by omega) ?_ | refine ge_t (by omega) ?_ | refine ge_f (by omega) ?_ | refine le_t (by omega) ?_ | refine le_f (by omega) ?_)
      refine ld1_at h1 0 rfl (v := .int .i64 f.Look) rfl ?_
      repeat (first | refine gd_tt ?_ | refine gd_ff ?_ | refine gd_tf ?_ | refine gd_ft ?_ | refine gd_u ?_ | refine pk_t ?_ | refine pk_f ?_ | refine iff_t ?_ | refine iff_f ?_ | refine not_t ?_ | refine not_f ?_ | refine beq_s ?_ | refine bne_s ?_ | refine ncP_p ?_ | refine nc_p ?_ | refine fld_at ?_ | refine xt_02 ?_ | refine xt_12 ?_ | refine xt_03 ?_ | refine xt_13 ?_ | refine xt_23 ?_ | refine eq_t (by omega) ?_ | refine eq_f (by omega) ?_ | refine ne_t (by omega) ?_ | refine ne_f (by omega) ?_ | refine lt_t (by omega) ?_ | refine lt_f (by omega) ?_ | refine gt_t (by omega) ?_ | refine gt_f (by omega) ?_ | refine ge_t (by omega) ?_ | refine ge_f (by omega) ?_ | refine le_t (by omega) ?_ | refine le_f (by omega) ?_)
      exact hk _ h1.drop
  rw [if_neg (show ¬ ¬ (1 ≤ f.f.Look ∧ f.f.Look ≤ 1048576) from fun h => h p2)] at hk
  repeat (first | refine gd_tt ?_ | refine gd_ff ?_ | refine gd_tf ?_ | refine gd_ft ?_ | refine gd_u ?_ | refine pk_t ?_ | refine pk_f ?_ | refine iff_t ?_ | refine iff_f ?_ | refine not_t ?_ | refine not_f ?_ | refine beq_s ?_ | refine bne_s ?_ | refine ncP_p ?_ | refine nc_p ?_ | refine fld_at ?_ | refine xt_02 ?_ | refine xt_12 ?_ | refine xt_03 ?_ | refine xt_13 ?_ | refine xt_23 ?_ | refine eq_t (by omega) ?_ | refine eq_f (by omega) ?_ | refine ne_t (by omega) ?_ | refine ne_f (by omega) ?_ | refine lt_t (by omega) ?_ | refine lt_f (by omega) ?_ | refine gt_t (by omega) ?_ | refine gt_f (by omega) ?_ | refine ge_t (by omega) ?_ | refine ge_f (by omega) ?_ | refine le_t (by omega) ?_ | refine le_f (by omega) ?_)
  refine ld1_at h1 0 rfl (v := .int .i64 f.Look) rfl ?_
  repeat (first | refine gd_tt ?_ | refine gd_ff ?_ | refine gd_tf ?_ | refine gd_ft ?_ | refine gd_u ?_ | refine pk_t ?_ | refine pk_f ?_ | refine iff_t ?_ | refine iff_f ?_ | refine not_t ?_ | refine not_f ?_ | refine beq_s ?_ | refine bne_s ?_ | refine ncP_p ?_ | refine nc_p ?_ | refine fld_at ?_ | refine xt_02 ?_ | refine xt_12 ?_ | refine xt_03 ?_ | refine xt_13 ?_ | refine xt_23 ?_ | refine eq_t (by omega) ?_ | refine eq_f (by omega) ?_ | refine ne_t (by omega) ?_ | refine ne_f (by omega) ?_ | refine lt_t (by omega) ?_ | refine lt_f (by omega) ?_ | refine gt_t (by omega) ?_ | refine gt_f (by omega) ?_ | refine ge_t (by omega) ?_ | refine ge_f (by omega) ?_ | refine le_t (by omega) ?_ | refine le_f (by omega) ?_)
  refine ld1_at h1 0 rfl (v := .int .i64 f.Start) rfl ?_
  by_cases p3 : 0 ≤ f.Start ∧ f.Start ≤ 7
  case neg =>
    rw [if_pos (show ¬ (0 ≤ f.f.Start ∧ f.f.Start ≤ 7) from p3)] at hk
    by_cases q : f.Start < 0
    · repeat (first | refine gd_tt ?_ | refine gd_ff ?_ | refine gd_tf ?_ | refine gd_ft ?_ | refine gd_u ?_ | refine pk_t ?_ | refine pk_f ?_ | refine iff_t ?_ | refine iff_f ?_ | refine not_t ?_ | refine not_f ?_ | refine beq_s ?_ | refine bne_s ?_ | refine ncP_p ?_ | refine nc_p ?_ | refine fld_at ?_ | refine xt_02 ?_ | refine xt_12 ?_ | refine xt_03 ?_ | refine xt_13 ?_ | refine xt_23 ?_ | refine eq_t (by omega) ?_ | refine eq_f (by omega) ?_ | refine ne_t (by omega) ?_ | refine ne_f (by omega) ?_ | refine lt_t (by omega) ?_ | refine lt_f (by omega) ?_ | refine gt_t (by omega) ?_ | refine gt_f (by omega) ?_ | refine ge_t (by omega) ?_ | refine ge_f (by omega) ?_ | refine le_t (by omega) ?_ | refine le_f (by omega) ?_)
      exact hk _ h1.drop
    · repeat (first | refine gd_tt ?_ | refine gd_ff ?_ | refine gd_tf ?_ | refine gd_ft ?_ | refine gd_u ?_ | refine pk_t ?_ | refine pk_f ?_ | refine iff_t ?_ | refine iff_f ?_ | refine not_t ?_ | refine not_f ?_ | refine beq_s ?_ | refine bne_s ?_ | refine ncP_p ?_ | refine nc_p ?_ | refine fld_at ?_ | refine xt_02 ?_ | refine xt_12 ?_ | refine xt_03 ?_ | refine xt_13 ?_ | refine xt_23 ?_ | refine eq_t (by omega) ?_ | refine eq_f (by omega) ?_ | refine ne_t (by omega) ?_ | refine ne_f (by omega) ?_ | refine lt_t (by omega) ?_ | refine lt_f (by omega) ?_ | refine gt_t (by omega) ?_ | refine gt_f (by omega) ?_ | refine ge_t (by omega) ?_ | refine ge_f (by omega) ?_ | refine le_t (by omega) ?_ | refine le_f (by omega) ?_)
      refine ld1_at h1 0 rfl (v := .int .i64 f.Start) rfl ?_
      repeat (first | refine gd_tt ?_ | refine gd_ff ?_ | refine gd_tf ?_ | refine gd_ft ?_ | refine gd_u ?_ | refine pk_t ?_ | refine pk_f ?_ | refine iff_t ?_ | refine iff_f ?_ | refine not_t ?_ | refine not_f ?_ | refine beq_s ?_ | refine bne_s ?_ | refine ncP_p ?_ | refine nc_p ?_ | refine fld_at ?_ | refine xt_02 ?_ | refine xt_12 ?_ | refine xt_03 ?_ | refine xt_13 ?_ | refine xt_23 ?_ | refine eq_t (by omega) ?_ | refine eq_f (by omega) ?_ | refine ne_t (by omega) ?_ | refine ne_f (by omega) ?_ | refine lt_t (by omega) ?_ | refine lt_f (by omega) ?_ | refine gt_t (by omega) ?_ | refine gt_f (by omega) ?_ | refine ge_t (by omega) ?_ | refine ge_f (by omega) ?_ | refine le_t (by omega) ?_ | refine le_f (by omega) ?_)
      exact hk _ h1.drop
  rw [if_neg (show ¬ ¬ (0 ≤ f.f.Start ∧ f.f.Start ≤ 7) from fun h => h p3)] at hk
  repeat (first | refine gd_tt ?_ | refine gd_ff ?_ | refine gd_tf ?_ | refine gd_ft ?_ | refine gd_u ?_ | refine pk_t ?_ | refine pk_f ?_ | refine iff_t ?_ | refine iff_f ?_ | refine not_t ?_ | refine not_f ?_ | refine beq_s ?_ | refine bne_s ?_ | refine ncP_p ?_ | refine nc_p ?_ | refine fld_at ?_ | refine xt_02 ?_ | refine xt_12 ?_ | refine xt_03 ?_ | refine xt_13 ?_ | refine xt_23 ?_ | refine eq_t (by omega) ?_ | refine eq_f (by omega) ?_ | refine ne_t (by omega) ?_ | refine ne_f (by omega) ?_ | refine lt_t (by omega) ?_ | refine lt_f (by omega) ?_ | refine gt_t (by omega) ?_ | refine gt_f (by omega) ?_ | refine ge_t (by omega) ?_ | refine ge_f (by omega) ?_ | refine le_t (by omega) ?_ | refine le_f (by omega) ?_)
  refine ld1_at h1 0 rfl (v := .int .i64 f.Start) rfl ?_
  repeat (first | refine gd_tt ?_ | refine gd_ff ?_ | refine gd_tf ?_ | refine gd_ft ?_ | refine gd_u ?_ | refine pk_t ?_ | refine pk_f ?_ | refine iff_t ?_ | refine iff_f ?_ | refine not_t ?_ | refine not_f ?_ | refine beq_s ?_ | refine bne_s ?_ | refine ncP_p ?_ | refine nc_p ?_ | refine fld_at ?_ | refine xt_02 ?_ | refine xt_12 ?_ | refine xt_03 ?_ | refine xt_13 ?_ | refine xt_23 ?_ | refine eq_t (by omega) ?_ | refine eq_f (by omega) ?_ | refine ne_t (by omega) ?_ | refine ne_f (by omega) ?_ | refine lt_t (by omega) ?_ | refine lt_f (by omega) ?_ | refine gt_t (by omega) ?_ | refine gt_f (by omega) ?_ | refine ge_t (by omega) ?_ | refine ge_f (by omega) ?_ | refine le_t (by omega) ?_ | refine le_f (by omega) ?_)
  refine ld1_at h1 0 rfl (v := f.rv) rfl ?_
  refine gd_ff (ref07_Check_s (i + 1) hi1 h1 (fun g hg => (hr g hg).rules) (fun r hr => by have := hs.sends r hr; omega) fun w2 h2 => ?_)
  by_cases p4 : okRules (f.Rules.map RuleX.r)
  case neg =>
    rw [if_pos (show ¬ okRules f.f.Rules from p4)] at hk
    rw [if_neg p4]
    repeat (first | refine gd_tt ?_ | refine gd_ff ?_ | refine gd_tf ?_ | refine gd_ft ?_ | refine gd_u ?_ | refine pk_t ?_ | refine pk_f ?_ | refine iff_t ?_ | refine iff_f ?_ | refine not_t ?_ | refine not_f ?_ | refine beq_s ?_ | refine bne_s ?_ | refine ncP_p ?_ | refine nc_p ?_ | refine fld_at ?_ | refine xt_02 ?_ | refine xt_12 ?_ | refine xt_03 ?_ | refine xt_13 ?_ | refine xt_23 ?_ | refine eq_t (by omega) ?_ | refine eq_f (by omega) ?_ | refine ne_t (by omega) ?_ | refine ne_f (by omega) ?_ | refine lt_t (by omega) ?_ | refine lt_f (by omega) ?_ | refine gt_t (by omega) ?_ | refine gt_f (by omega) ?_ | refine ge_t (by omega) ?_ | refine ge_f (by omega) ?_ | refine le_t (by omega) ?_ | refine le_f (by omega) ?_)
    exact hk _ h2.drop
  rw [if_neg (show ¬ ¬ okRules f.f.Rules from fun h => h p4)] at hk
  rw [if_pos p4]
  repeat (first | refine gd_tt ?_ | refine gd_ff ?_ | refine gd_tf ?_ | refine gd_ft ?_ | refine gd_u ?_ | refine pk_t ?_ | refine pk_f ?_ | refine iff_t ?_ | refine iff_f ?_ | refine not_t ?_ | refine not_f ?_ | refine beq_s ?_ | refine bne_s ?_ | refine ncP_p ?_ | refine nc_p ?_ | refine fld_at ?_ | refine xt_02 ?_ | refine xt_12 ?_ | refine xt_03 ?_ | refine xt_13 ?_ | refine xt_23 ?_ | refine eq_t (by omega) ?_ | refine eq_f (by omega) ?_ | refine ne_t (by omega) ?_ | refine ne_f (by omega) ?_ | refine lt_t (by omega) ?_ | refine lt_f (by omega) ?_ | refine gt_t (by omega) ?_ | refine gt_f (by omega) ?_ | refine ge_t (by omega) ?_ | refine ge_f (by omega) ?_ | refine le_t (by omega) ?_ | refine le_f (by omega) ?_)
  refine ld1_at h2 0 rfl (v := f.pv) rfl ?_
  refine classes_s (i + 1) hi1 h2 (fun g hg => (hr g hg).pubs) hs.pubs fun w3 h3 => ?_
  refine not_d ?_
  by_cases p5 : rising most (-1) f.Pubs ∧ rising most (-1) f.Subs
  case neg =>
    rw [if_pos (show ¬ (rising most (-1) f.f.Pubs ∧ rising most (-1) f.f.Subs) from p5)] at hk
    by_cases q : rising most (-1) f.Pubs
    · rw [decide_eq_true q, Bool.not_true]
      repeat (first | refine gd_tt ?_ | refine gd_ff ?_ | refine gd_tf ?_ | refine gd_ft ?_ | refine gd_u ?_ | refine pk_t ?_ | refine pk_f ?_ | refine iff_t ?_ | refine iff_f ?_ | refine not_t ?_ | refine not_f ?_ | refine beq_s ?_ | refine bne_s ?_ | refine ncP_p ?_ | refine nc_p ?_ | refine fld_at ?_ | refine xt_02 ?_ | refine xt_12 ?_ | refine xt_03 ?_ | refine xt_13 ?_ | refine xt_23 ?_ | refine eq_t (by omega) ?_ | refine eq_f (by omega) ?_ | refine ne_t (by omega) ?_ | refine ne_f (by omega) ?_ | refine lt_t (by omega) ?_ | refine lt_f (by omega) ?_ | refine gt_t (by omega) ?_ | refine gt_f (by omega) ?_ | refine ge_t (by omega) ?_ | refine ge_f (by omega) ?_ | refine le_t (by omega) ?_ | refine le_f (by omega) ?_)
      refine ld1_at h3 0 rfl (v := f.sv) rfl ?_
      refine gd_ff (gd_ff (classes_s (i + 1) hi1 h3 (fun g hg => (hr g hg).subs) hs.subs fun w4 h4 => ?_))
      rw [decide_eq_false fun h => p5 ⟨q, h⟩]
      repeat (first | refine gd_tt ?_ | refine gd_ff ?_ | refine gd_tf ?_ | refine gd_ft ?_ | refine gd_u ?_ | refine pk_t ?_ | refine pk_f ?_ | refine iff_t ?_ | refine iff_f ?_ | refine not_t ?_ | refine not_f ?_ | refine beq_s ?_ | refine bne_s ?_ | refine ncP_p ?_ | refine nc_p ?_ | refine fld_at ?_ | refine xt_02 ?_ | refine xt_12 ?_ | refine xt_03 ?_ | refine xt_13 ?_ | refine xt_23 ?_ | refine eq_t (by omega) ?_ | refine eq_f (by omega) ?_ | refine ne_t (by omega) ?_ | refine ne_f (by omega) ?_ | refine lt_t (by omega) ?_ | refine lt_f (by omega) ?_ | refine gt_t (by omega) ?_ | refine gt_f (by omega) ?_ | refine ge_t (by omega) ?_ | refine ge_f (by omega) ?_ | refine le_t (by omega) ?_ | refine le_f (by omega) ?_)
      exact hk _ h4.drop
    · rw [decide_eq_false q, Bool.not_false]
      repeat (first | refine gd_tt ?_ | refine gd_ff ?_ | refine gd_tf ?_ | refine gd_ft ?_ | refine gd_u ?_ | refine pk_t ?_ | refine pk_f ?_ | refine iff_t ?_ | refine iff_f ?_ | refine not_t ?_ | refine not_f ?_ | refine beq_s ?_ | refine bne_s ?_ | refine ncP_p ?_ | refine nc_p ?_ | refine fld_at ?_ | refine xt_02 ?_ | refine xt_12 ?_ | refine xt_03 ?_ | refine xt_13 ?_ | refine xt_23 ?_ | refine eq_t (by omega) ?_ | refine eq_f (by omega) ?_ | refine ne_t (by omega) ?_ | refine ne_f (by omega) ?_ | refine lt_t (by omega) ?_ | refine lt_f (by omega) ?_ | refine gt_t (by omega) ?_ | refine gt_f (by omega) ?_ | refine ge_t (by omega) ?_ | refine ge_f (by omega) ?_ | refine le_t (by omega) ?_ | refine le_f (by omega) ?_)
      exact hk _ h3.drop
  rw [if_neg (show ¬ ¬ (rising most (-1) f.f.Pubs ∧ rising most (-1) f.f.Subs) from fun h => h p5)] at hk
  rw [decide_eq_true p5.1, Bool.not_true]
  repeat (first | refine gd_tt ?_ | refine gd_ff ?_ | refine gd_tf ?_ | refine gd_ft ?_ | refine gd_u ?_ | refine pk_t ?_ | refine pk_f ?_ | refine iff_t ?_ | refine iff_f ?_ | refine not_t ?_ | refine not_f ?_ | refine beq_s ?_ | refine bne_s ?_ | refine ncP_p ?_ | refine nc_p ?_ | refine fld_at ?_ | refine xt_02 ?_ | refine xt_12 ?_ | refine xt_03 ?_ | refine xt_13 ?_ | refine xt_23 ?_ | refine eq_t (by omega) ?_ | refine eq_f (by omega) ?_ | refine ne_t (by omega) ?_ | refine ne_f (by omega) ?_ | refine lt_t (by omega) ?_ | refine lt_f (by omega) ?_ | refine gt_t (by omega) ?_ | refine gt_f (by omega) ?_ | refine ge_t (by omega) ?_ | refine ge_f (by omega) ?_ | refine le_t (by omega) ?_ | refine le_f (by omega) ?_)
  refine ld1_at h3 0 rfl (v := f.sv) rfl ?_
  refine gd_ff (gd_ff (classes_s (i + 1) hi1 h3 (fun g hg => (hr g hg).subs) hs.subs fun w4 h4 => ?_))
  rw [decide_eq_true p5.2]
  repeat (first | refine gd_tt ?_ | refine gd_ff ?_ | refine gd_tf ?_ | refine gd_ft ?_ | refine gd_u ?_ | refine pk_t ?_ | refine pk_f ?_ | refine iff_t ?_ | refine iff_f ?_ | refine not_t ?_ | refine not_f ?_ | refine beq_s ?_ | refine bne_s ?_ | refine ncP_p ?_ | refine nc_p ?_ | refine fld_at ?_ | refine xt_02 ?_ | refine xt_12 ?_ | refine xt_03 ?_ | refine xt_13 ?_ | refine xt_23 ?_ | refine eq_t (by omega) ?_ | refine eq_f (by omega) ?_ | refine ne_t (by omega) ?_ | refine ne_f (by omega) ?_ | refine lt_t (by omega) ?_ | refine lt_f (by omega) ?_ | refine gt_t (by omega) ?_ | refine gt_f (by omega) ?_ | refine ge_t (by omega) ?_ | refine ge_f (by omega) ?_ | refine le_t (by omega) ?_ | refine le_f (by omega) ?_)
  clear h1 h2 h3
  have hrl := hs.rules
  refine lpi1 (fun q t11 w => ∃ j : Nat, j ≤ f.Rules.length ∧ t11 = .int .i64 j ∧ q = f.Rules.length - j ∧ rulesE f.f most ((f.Rules.take j).map RuleX.r) = 0 ∧ Sat e w (blk b 72 f.cs :: L)) f.Rules.length ⟨0, Nat.zero_le _, rfl, rfl, rfl, h4⟩ ?_
  clear h4
  rintro q _ w g ⟨j, hj, rfl, rfl, hno, h1⟩ hg
  refine fld_at (ld1_at h1 0 rfl (v := f.rv) rfl ?_)
  refine lnS_rd h1 (i + 1) hi1 (fun g hg => (hr g hg).rules.s) ?_
  refine lt_c (fun c => iff_t ?_) (fun c => iff_f ?_)
  · obtain ⟨r, hrj⟩ := get_of_lt (l := f.Rules) (j := j) (by omega)
    have hrm := List.mem_of_getElem? hrj
    have hsl := hs.sends r hrm
    have hsp : f.f.Rules = (f.Rules.take j).map RuleX.r ++ r.r :: (f.Rules.drop (j + 1)).map RuleX.r := by
      show f.Rules.map RuleX.r = _
      conv => lhs; rw [take_split hrj]
      simp
    have hkE : ∀ E w', E ≠ 0 → rulesE f.f most (r.r :: (f.Rules.drop (j + 1)).map RuleX.r) = E → Sat e w' L → K (.int .i64 E) w' := by
      intro E w' hE0 hE h'
      have := hk w' h'
      rw [hsp, rulesE_app _ _ _ _ hno, hE, if_pos hE0] at this
      exact this
    refine fld_at (ld1_at h1 0 rfl (v := f.rv) rfl ?_)
    refine ixS_rd h1 (i + 1) hi1 (fun g hg => (hr g hg).rules.s) (fun _ => rfl) hrj fun a ha => ?_
    refine fld_of ha fun a1 ha1 => ?_
    refine ld1_of h1 (i + 1) hi1 ha1 (v := .int .i64 r.Class) rfl ?_
    refine ge_c (fun c2 => iff_t ?_) (fun c2 => iff_f ?_)
    · refine hkE 81 _ (by decide) ?_ h1.drop
      rw [rulesE_cons, if_pos (show most ≤ r.r.Class from c2)]
    refine lpi1 (fun q t22 w => ∃ n : Nat, n ≤ r.Sends.length ∧ t22 = .int .i64 n ∧ q = r.Sends.length - n ∧ sendsE f.f (r.Sends.take n) = 0 ∧ Sat e w (blk b 72 f.cs :: L)) r.Sends.length ⟨0, Nat.zero_le _, rfl, rfl, rfl, h1⟩ ?_
    rintro q _ w g2 ⟨n, hn, rfl, rfl, hso, h5⟩ hg2
    refine fld_at (ld1_at h5 0 rfl (v := f.rv) rfl ?_)
    refine ixS_rd h5 (i + 1) hi1 (fun g hg => (hr g hg).rules.s) (fun _ => rfl) hrj fun a ha => ?_
    refine fld_of ha fun a1 ha1 => ?_
    refine ld1_of h5 (i + 1) hi1 ha1 (v := r.sv) rfl ?_
    refine lnS_rd h5 (i + 1) hi1 (fun g hg => (hr g hg).rules.e r hrm) ?_
    refine lt_c (fun c3 => iff_t ?_) (fun c3 => iff_f ?_)
    · obtain ⟨o, ho⟩ := get_of_lt (l := r.Sends) (j := n) (by omega)
      have hsp2 := take_split ho
      have hkS : ∀ E w', E ≠ 0 → sendsE f.f (o :: r.Sends.drop (n + 1)) = E → Sat e w' L → K (.int .i64 E) w' := by
        intro E w' hE0 hE h'
        refine hkE E w' hE0 ?_ h'
        have e1 : sendsE f.f r.r.Sends = E := by
          show sendsE f.f r.Sends = E
          rw [hsp2, sendsE_app _ _ _ hso]
          exact hE
        rw [rulesE_cons, if_neg (show ¬ most ≤ r.r.Class by simp only [RuleX.r]; omega), e1, if_pos hE0]
      refine fld_at (ld1_at h5 0 rfl (v := f.rv) rfl ?_)
      refine ixS_rd h5 (i + 1) hi1 (fun g hg => (hr g hg).rules.s) (fun _ => rfl) hrj fun a ha => ?_
      refine fld_of ha fun a1 ha1 => ?_
      refine ld1_of h5 (i + 1) hi1 ha1 (v := r.sv) rfl ?_
      refine ixS_rd h5 (i + 1) hi1 (fun g hg => (hr g hg).rules.e r hrm) (fun _ => rfl) ho fun a ha => ?_
      refine ldN_of h5 (i + 1) hi1 ha rfl ?_
      rw [zero_78]
      refine al_s (cs := ints [0, 0, 0]) h5 rfl fun t2 w6 h6 => ?_
      refine stN_at h6 0 rfl (vs := o.cs) rfl rfl (by decide) (ints_flat _) (cs' := o.cs) (by rfl) fun w7 h7 => ?_
      have hi2 : (blk t2 78 o.cs :: blk b 72 f.cs :: L)[i + 2]? = some S := by simpa using hi
      refine fld_at (ld1_at h7 1 rfl (v := f.pv) rfl ?_)
      refine fld_at (ld1_at h7 0 rfl (v := .int .i64 o.Class) rfl ?_)
      refine ref05_Has_s (i + 2) hi2 h7 (fun g hg => (hr g hg).pubs) (by have := hs.pubs; omega) (not_d ?_)
      by_cases d1 : o.Class ∈ f.Pubs
      case neg =>
        rw [decide_eq_false d1, Bool.not_false]
        refine iff_t (hkS 81 _ (by decide) ?_ h7.drop.drop)
        rw [sendsE_cons, if_pos (show o.Class ∉ f.f.Pubs from d1)]
      rw [decide_eq_true d1, Bool.not_true]
      refine iff_f (fld_at (ld1_at h7 0 rfl (v := .int .i64 o.Delay) rfl ?_))
      refine fld_at (ld1_at h7 1 rfl (v := .int .i64 f.Look) rfl ?_)
      refine lt_c (fun d2 => iff_t ?_) (fun d2 => iff_f (inc_s (by omega) ?_))
      · refine hkS 80 _ (by decide) ?_ h7.drop.drop
        rw [sendsE_cons, if_neg (show ¬ o.Class ∉ f.f.Pubs from fun h => h d1), if_pos (show o.Delay < f.f.Look from d2)]
      · refine hg2 _ _ _ (by omega) ⟨n + 1, by omega, rfl, rfl, ?_, h7.drop⟩
        rw [List.take_add_one, ho, sendsE_app _ _ _ hso]
        show sendsE f.f [o] = 0
        rw [sendsE_cons, if_neg (show ¬ o.Class ∉ f.f.Pubs from fun h => h d1), if_neg (show ¬ o.Delay < f.f.Look from d2)]
        rfl
    · have en : n = r.Sends.length := by omega
      rw [en, List.take_length] at hso
      refine inc_s (by omega) ?_
      refine hg _ _ _ (by omega) ⟨j + 1, by omega, rfl, rfl, ?_, h5⟩
      rw [List.take_add_one, hrj, List.map_append, rulesE_app _ _ _ _ hno]
      show rulesE f.f most [r.r] = 0
      rw [rulesE_cons, if_neg (show ¬ most ≤ r.r.Class by simp only [RuleX.r]; omega), if_neg (show ¬ sendsE f.f r.r.Sends ≠ 0 from fun h => h hso)]
      rfl
  · have ej : j = f.Rules.length := by omega
    rw [ej, List.take_length] at hno
    rw [show f.f.Rules = f.Rules.map RuleX.r from rfl, hno, if_neg (fun h => h rfl)] at hk
    have hbad : ¬ okInit f.f → ∀ w', Sat e w' L → K (.int .i64 82) w' := fun h w' h' => by have := hk w' h'; rw [if_pos h] at this; exact this
    clear hg
    refine fld_at (ld1_at h1 0 rfl (v := f.iv) rfl ?_)
    refine lnS_rd h1 (i + 1) hi1 (fun g hg => (hr g hg).init) ?_
    refine gt_c (fun c2 => iff_t ?_) (fun c2 => iff_f ?_)
    · exact hbad (fun h => by have h1 : f.Init.length ≤ 4 := h.1; omega) _ h1.drop
    refine lpi1 (fun q t w => ∃ j : Nat, j ≤ f.Init.length ∧ t = .int .i64 j ∧ q = f.Init.length - j ∧ (∀ o ∈ f.Init.take j, okIni f.f o) ∧ Sat e w (blk b 72 f.cs :: L)) f.Init.length ⟨0, Nat.zero_le _, rfl, rfl, by simp, h1⟩ ?_
    clear h1
    rintro q _ w g ⟨j, hj, rfl, rfl, hall, h2⟩ hg
    refine fld_at (ld1_at h2 0 rfl (v := f.iv) rfl ?_)
    refine lnS_rd h2 (i + 1) hi1 (fun g hg => (hr g hg).init) ?_
    refine lt_c (fun c => iff_t ?_) (fun c => iff_f ?_)
    · obtain ⟨o, ho⟩ := get_of_lt (l := f.Init) (j := j) (by omega)
      have hom := List.mem_of_getElem? ho
      refine fld_at (ld1_at h2 0 rfl (v := f.iv) rfl ?_)
      refine ixS_rd h2 (i + 1) hi1 (fun g hg => (hr g hg).init) (fun _ => rfl) ho fun a ha => ?_
      refine ldN_of h2 (i + 1) hi1 ha rfl ?_
      rw [zero_78]
      refine al_s (cs := ints [0, 0, 0]) h2 rfl fun t2 w3 h3 => ?_
      refine stN_at h3 0 rfl (vs := o.cs) rfl rfl (by decide) (ints_flat _) (cs' := o.cs) (by rfl) fun w4 h4 => ?_
      have hno2 : ¬ okIni f.f o → K (.int .i64 82) w4 := fun h => hbad (fun h2 => h (h2.2 o hom)) _ h4.drop.drop
      have hi2 : (blk t2 78 o.cs :: blk b 72 f.cs :: L)[i + 2]? = some S := by simpa using hi
      refine fld_at (ld1_at h4 1 rfl (v := f.pv) rfl ?_)
      refine fld_at (ld1_at h4 0 rfl (v := .int .i64 o.Class) rfl ?_)
      refine ref05_Has_s (i + 2) hi2 h4 (fun g hg => (hr g hg).pubs) (by have := hs.pubs; omega) (not_d ?_)
      by_cases d1 : o.Class ∈ f.Pubs
      case neg =>
        rw [decide_eq_false d1, Bool.not_false]
        repeat (first | refine gd_tt ?_ | refine gd_ff ?_ | refine gd_tf ?_ | refine gd_ft ?_ | refine gd_u ?_ | refine pk_t ?_ | refine pk_f ?_ | refine iff_t ?_ | refine iff_f ?_ | refine not_t ?_ | refine not_f ?_ | refine beq_s ?_ | refine bne_s ?_ | refine ncP_p ?_ | refine nc_p ?_ | refine fld_at ?_ | refine xt_02 ?_ | refine xt_12 ?_ | refine xt_03 ?_ | refine xt_13 ?_ | refine xt_23 ?_ | refine eq_t (by omega) ?_ | refine eq_f (by omega) ?_ | refine ne_t (by omega) ?_ | refine ne_f (by omega) ?_ | refine lt_t (by omega) ?_ | refine lt_f (by omega) ?_ | refine gt_t (by omega) ?_ | refine gt_f (by omega) ?_ | refine ge_t (by omega) ?_ | refine ge_f (by omega) ?_ | refine le_t (by omega) ?_ | refine le_f (by omega) ?_)
        exact hno2 fun h => d1 h.1
      rw [decide_eq_true d1, Bool.not_true]
      repeat (first | refine gd_tt ?_ | refine gd_ff ?_ | refine gd_tf ?_ | refine gd_ft ?_ | refine gd_u ?_ | refine pk_t ?_ | refine pk_f ?_ | refine iff_t ?_ | refine iff_f ?_ | refine not_t ?_ | refine not_f ?_ | refine beq_s ?_ | refine bne_s ?_ | refine ncP_p ?_ | refine nc_p ?_ | refine fld_at ?_ | refine xt_02 ?_ | refine xt_12 ?_ | refine xt_03 ?_ | refine xt_13 ?_ | refine xt_23 ?_ | refine eq_t (by omega) ?_ | refine eq_f (by omega) ?_ | refine ne_t (by omega) ?_ | refine ne_f (by omega) ?_ | refine lt_t (by omega) ?_ | refine lt_f (by omega) ?_ | refine gt_t (by omega) ?_ | refine gt_f (by omega) ?_ | refine ge_t (by omega) ?_ | refine ge_f (by omega) ?_ | refine le_t (by omega) ?_ | refine le_f (by omega) ?_)
      refine ld1_at h4 0 rfl (v := .int .i64 o.Delay) rfl ?_
      by_cases d2 : o.Delay < 0
      · repeat (first | refine gd_tt ?_ | refine gd_ff ?_ | refine gd_tf ?_ | refine gd_ft ?_ | refine gd_u ?_ | refine pk_t ?_ | refine pk_f ?_ | refine iff_t ?_ | refine iff_f ?_ | refine not_t ?_ | refine not_f ?_ | refine beq_s ?_ | refine bne_s ?_ | refine ncP_p ?_ | refine nc_p ?_ | refine fld_at ?_ | refine xt_02 ?_ | refine xt_12 ?_ | refine xt_03 ?_ | refine xt_13 ?_ | refine xt_23 ?_ | refine eq_t (by omega) ?_ | refine eq_f (by omega) ?_ | refine ne_t (by omega) ?_ | refine ne_f (by omega) ?_ | refine lt_t (by omega) ?_ | refine lt_f (by omega) ?_ | refine gt_t (by omega) ?_ | refine gt_f (by omega) ?_ | refine ge_t (by omega) ?_ | refine ge_f (by omega) ?_ | refine le_t (by omega) ?_ | refine le_f (by omega) ?_)
        exact hno2 fun h => by have := h.2.1; omega
      refine gd_ff (lt_f d2 ?_)
      repeat (first | refine gd_tt ?_ | refine gd_ff ?_ | refine gd_tf ?_ | refine gd_ft ?_ | refine gd_u ?_ | refine pk_t ?_ | refine pk_f ?_ | refine iff_t ?_ | refine iff_f ?_ | refine not_t ?_ | refine not_f ?_ | refine beq_s ?_ | refine bne_s ?_ | refine ncP_p ?_ | refine nc_p ?_ | refine fld_at ?_ | refine xt_02 ?_ | refine xt_12 ?_ | refine xt_03 ?_ | refine xt_13 ?_ | refine xt_23 ?_ | refine eq_t (by omega) ?_ | refine eq_f (by omega) ?_ | refine ne_t (by omega) ?_ | refine ne_f (by omega) ?_ | refine lt_t (by omega) ?_ | refine lt_f (by omega) ?_ | refine gt_t (by omega) ?_ | refine gt_f (by omega) ?_ | refine ge_t (by omega) ?_ | refine ge_f (by omega) ?_ | refine le_t (by omega) ?_ | refine le_f (by omega) ?_)
      refine ld1_at h4 0 rfl (v := .int .i64 o.Delay) rfl ?_
      by_cases d3 : 1099511627776 < o.Delay
      · repeat (first | refine gd_tt ?_ | refine gd_ff ?_ | refine gd_tf ?_ | refine gd_ft ?_ | refine gd_u ?_ | refine pk_t ?_ | refine pk_f ?_ | refine iff_t ?_ | refine iff_f ?_ | refine not_t ?_ | refine not_f ?_ | refine beq_s ?_ | refine bne_s ?_ | refine ncP_p ?_ | refine nc_p ?_ | refine fld_at ?_ | refine xt_02 ?_ | refine xt_12 ?_ | refine xt_03 ?_ | refine xt_13 ?_ | refine xt_23 ?_ | refine eq_t (by omega) ?_ | refine eq_f (by omega) ?_ | refine ne_t (by omega) ?_ | refine ne_f (by omega) ?_ | refine lt_t (by omega) ?_ | refine lt_f (by omega) ?_ | refine gt_t (by omega) ?_ | refine gt_f (by omega) ?_ | refine ge_t (by omega) ?_ | refine ge_f (by omega) ?_ | refine le_t (by omega) ?_ | refine le_f (by omega) ?_)
        exact hno2 fun h => by have := h.2.2.1; omega
      refine gd_ff (gt_f d3 ?_)
      repeat (first | refine gd_tt ?_ | refine gd_ff ?_ | refine gd_tf ?_ | refine gd_ft ?_ | refine gd_u ?_ | refine pk_t ?_ | refine pk_f ?_ | refine iff_t ?_ | refine iff_f ?_ | refine not_t ?_ | refine not_f ?_ | refine beq_s ?_ | refine bne_s ?_ | refine ncP_p ?_ | refine nc_p ?_ | refine fld_at ?_ | refine xt_02 ?_ | refine xt_12 ?_ | refine xt_03 ?_ | refine xt_13 ?_ | refine xt_23 ?_ | refine eq_t (by omega) ?_ | refine eq_f (by omega) ?_ | refine ne_t (by omega) ?_ | refine ne_f (by omega) ?_ | refine lt_t (by omega) ?_ | refine lt_f (by omega) ?_ | refine gt_t (by omega) ?_ | refine gt_f (by omega) ?_ | refine ge_t (by omega) ?_ | refine ge_f (by omega) ?_ | refine le_t (by omega) ?_ | refine le_f (by omega) ?_)
      refine ld1_at h4 0 rfl (v := .int .i64 o.Add) rfl ?_
      by_cases d4 : o.Add < 0
      · repeat (first | refine gd_tt ?_ | refine gd_ff ?_ | refine gd_tf ?_ | refine gd_ft ?_ | refine gd_u ?_ | refine pk_t ?_ | refine pk_f ?_ | refine iff_t ?_ | refine iff_f ?_ | refine not_t ?_ | refine not_f ?_ | refine beq_s ?_ | refine bne_s ?_ | refine ncP_p ?_ | refine nc_p ?_ | refine fld_at ?_ | refine xt_02 ?_ | refine xt_12 ?_ | refine xt_03 ?_ | refine xt_13 ?_ | refine xt_23 ?_ | refine eq_t (by omega) ?_ | refine eq_f (by omega) ?_ | refine ne_t (by omega) ?_ | refine ne_f (by omega) ?_ | refine lt_t (by omega) ?_ | refine lt_f (by omega) ?_ | refine gt_t (by omega) ?_ | refine gt_f (by omega) ?_ | refine ge_t (by omega) ?_ | refine ge_f (by omega) ?_ | refine le_t (by omega) ?_ | refine le_f (by omega) ?_)
        exact hno2 fun h => by have := h.2.2.2.1; omega
      refine gd_ff (lt_f d4 ?_)
      repeat (first | refine gd_tt ?_ | refine gd_ff ?_ | refine gd_tf ?_ | refine gd_ft ?_ | refine gd_u ?_ | refine pk_t ?_ | refine pk_f ?_ | refine iff_t ?_ | refine iff_f ?_ | refine not_t ?_ | refine not_f ?_ | refine beq_s ?_ | refine bne_s ?_ | refine ncP_p ?_ | refine nc_p ?_ | refine fld_at ?_ | refine xt_02 ?_ | refine xt_12 ?_ | refine xt_03 ?_ | refine xt_13 ?_ | refine xt_23 ?_ | refine eq_t (by omega) ?_ | refine eq_f (by omega) ?_ | refine ne_t (by omega) ?_ | refine ne_f (by omega) ?_ | refine lt_t (by omega) ?_ | refine lt_f (by omega) ?_ | refine gt_t (by omega) ?_ | refine gt_f (by omega) ?_ | refine ge_t (by omega) ?_ | refine ge_f (by omega) ?_ | refine le_t (by omega) ?_ | refine le_f (by omega) ?_)
      refine ld1_at h4 0 rfl (v := .int .i64 o.Add) rfl ?_
      by_cases d5 : 1000 ≤ o.Add
      · repeat (first | refine gd_tt ?_ | refine gd_ff ?_ | refine gd_tf ?_ | refine gd_ft ?_ | refine gd_u ?_ | refine pk_t ?_ | refine pk_f ?_ | refine iff_t ?_ | refine iff_f ?_ | refine not_t ?_ | refine not_f ?_ | refine beq_s ?_ | refine bne_s ?_ | refine ncP_p ?_ | refine nc_p ?_ | refine fld_at ?_ | refine xt_02 ?_ | refine xt_12 ?_ | refine xt_03 ?_ | refine xt_13 ?_ | refine xt_23 ?_ | refine eq_t (by omega) ?_ | refine eq_f (by omega) ?_ | refine ne_t (by omega) ?_ | refine ne_f (by omega) ?_ | refine lt_t (by omega) ?_ | refine lt_f (by omega) ?_ | refine gt_t (by omega) ?_ | refine gt_f (by omega) ?_ | refine ge_t (by omega) ?_ | refine ge_f (by omega) ?_ | refine le_t (by omega) ?_ | refine le_f (by omega) ?_)
        exact hno2 fun h => by have := h.2.2.2.2; omega
      refine gd_ff (ge_f (by omega) ?_)
      repeat (first | refine gd_tt ?_ | refine gd_ff ?_ | refine gd_tf ?_ | refine gd_ft ?_ | refine gd_u ?_ | refine pk_t ?_ | refine pk_f ?_ | refine iff_t ?_ | refine iff_f ?_ | refine not_t ?_ | refine not_f ?_ | refine beq_s ?_ | refine bne_s ?_ | refine ncP_p ?_ | refine nc_p ?_ | refine fld_at ?_ | refine xt_02 ?_ | refine xt_12 ?_ | refine xt_03 ?_ | refine xt_13 ?_ | refine xt_23 ?_ | refine eq_t (by omega) ?_ | refine eq_f (by omega) ?_ | refine ne_t (by omega) ?_ | refine ne_f (by omega) ?_ | refine lt_t (by omega) ?_ | refine lt_f (by omega) ?_ | refine gt_t (by omega) ?_ | refine gt_f (by omega) ?_ | refine ge_t (by omega) ?_ | refine ge_f (by omega) ?_ | refine le_t (by omega) ?_ | refine le_f (by omega) ?_)
      refine inc_s (by omega) ?_
      refine hg _ _ _ (by omega) ⟨j + 1, by omega, rfl, rfl, fun x hx => ?_, h4.drop⟩
      rw [List.take_add_one, ho] at hx
      rcases List.mem_append.1 hx with h | h
      · exact hall x h
      · simp at h
        subst h
        exact ⟨d1, by omega, by omega, by omega, by omega⟩
    · have ej : j = f.Init.length := by omega
      rw [ej, List.take_length] at hall
      have := hk _ h2.drop
      rw [if_neg (show ¬ ¬ okInit f.f from fun h => h ⟨by show f.Init.length ≤ 4; omega, hall⟩)] at this
      exact this
theorem ref08_Check_s {x : WdX} (i : Nat) (hi : L[i]? = some S) (hS : Sat e w L) (hr : ∀ g, S g → RdWd x g) (hs : x.short)
    (hk : ∀ w', Sat e w' L → K (.tuple #[.int .i64 (checkW x.w).1, .int .i64 (checkW x.w).2]) w') : Cl prog 32 #[.agg x.cs.toArray] w K := by
  refine pacelineref08_Check_calls ?_
  unfold pacelineref08_Check
  refine al_s (cs := x.cs) hS rfl fun b w1 h1 => ?_
  have hi1 : (blk b 39 x.cs :: L)[i + 1]? = some S := by simpa using hi
  have hfl := hs.feds
  refine fld_at (ld1_at h1 0 rfl (v := x.pv) rfl ?_)
  refine ref05_Check_s (i + 1) hi1 h1 (fun g hg => (hr g hg).par) ?_
  by_cases p1 : treeE x.Parents = 0
  case neg =>
    have := hk _ h1.drop
    unfold checkW at this
    rw [if_pos (show treeE x.w.Parents ≠ 0 from p1)] at this
    exact ne_t p1 (iff_t this)
  refine ne_f p1 (iff_f ?_)
  refine fld_at (ld1_at h1 0 rfl (v := .int .i64 x.End) rfl ?_)
  by_cases p2 : (0 ≤ x.End ∧ x.End ≤ 1099511627776) ∧ (1 ≤ (x.Feds.length : Int) ∧ (x.Feds.length : Int) ≤ 8)
  case neg =>
    have hk := hk _ h1.drop
    unfold checkW at hk
    rw [if_neg (show ¬ treeE x.w.Parents ≠ 0 from fun h => h p1), if_pos (by simp only [WdX.w, List.length_map]; exact p2)] at hk
    by_cases q1 : x.End < 0
    · repeat (first | refine gd_tt ?_ | refine gd_ff ?_ | refine gd_tf ?_ | refine gd_ft ?_ | refine gd_u ?_ | refine pk_t ?_ | refine pk_f ?_ | refine iff_t ?_ | refine iff_f ?_ | refine not_t ?_ | refine not_f ?_ | refine beq_s ?_ | refine bne_s ?_ | refine ncP_p ?_ | refine nc_p ?_ | refine fld_at ?_ | refine xt_02 ?_ | refine xt_12 ?_ | refine xt_03 ?_ | refine xt_13 ?_ | refine xt_23 ?_ | refine eq_t (by omega) ?_ | refine eq_f (by omega) ?_ | refine ne_t (by omega) ?_ | refine ne_f (by omega) ?_ | refine lt_t (by omega) ?_ | refine lt_f (by omega) ?_ | refine gt_t (by omega) ?_ | refine gt_f (by omega) ?_ | refine ge_t (by omega) ?_ | refine ge_f (by omega) ?_ | refine le_t (by omega) ?_ | refine le_f (by omega) ?_)
      exact hk
    refine lt_f q1 ?_
    repeat (first | refine gd_tt ?_ | refine gd_ff ?_ | refine gd_tf ?_ | refine gd_ft ?_ | refine gd_u ?_ | refine pk_t ?_ | refine pk_f ?_ | refine iff_t ?_ | refine iff_f ?_ | refine not_t ?_ | refine not_f ?_ | refine beq_s ?_ | refine bne_s ?_ | refine ncP_p ?_ | refine nc_p ?_ | refine fld_at ?_ | refine xt_02 ?_ | refine xt_12 ?_ | refine xt_03 ?_ | refine xt_13 ?_ | refine xt_23 ?_ | refine eq_t (by omega) ?_ | refine eq_f (by omega) ?_ | refine ne_t (by omega) ?_ | refine ne_f (by omega) ?_ | refine lt_t (by omega) ?_ | refine lt_f (by omega) ?_ | refine gt_t (by omega) ?_ | refine gt_f (by omega) ?_ | refine ge_t (by omega) ?_ | refine ge_f (by omega) ?_ | refine le_t (by omega) ?_ | refine le_f (by omega) ?_)
    refine ld1_at h1 0 rfl (v := .int .i64 x.End) rfl ?_
    by_cases q2 : 1099511627776 < x.End
    · repeat (first | refine gd_tt ?_ | refine gd_ff ?_ | refine gd_tf ?_ | refine gd_ft ?_ | refine gd_u ?_ | refine pk_t ?_ | refine pk_f ?_ | refine iff_t ?_ | refine iff_f ?_ | refine not_t ?_ | refine not_f ?_ | refine beq_s ?_ | refine bne_s ?_ | refine ncP_p ?_ | refine nc_p ?_ | refine fld_at ?_ | refine xt_02 ?_ | refine xt_12 ?_ | refine xt_03 ?_ | refine xt_13 ?_ | refine xt_23 ?_ | refine eq_t (by omega) ?_ | refine eq_f (by omega) ?_ | refine ne_t (by omega) ?_ | refine ne_f (by omega) ?_ | refine lt_t (by omega) ?_ | refine lt_f (by omega) ?_ | refine gt_t (by omega) ?_ | refine gt_f (by omega) ?_ | refine ge_t (by omega) ?_ | refine ge_f (by omega) ?_ | refine le_t (by omega) ?_ | refine le_f (by omega) ?_)
      exact hk
    refine gd_ff (gt_f q2 ?_)
    repeat (first | refine gd_tt ?_ | refine gd_ff ?_ | refine gd_tf ?_ | refine gd_ft ?_ | refine gd_u ?_ | refine pk_t ?_ | refine pk_f ?_ | refine iff_t ?_ | refine iff_f ?_ | refine not_t ?_ | refine not_f ?_ | refine beq_s ?_ | refine bne_s ?_ | refine ncP_p ?_ | refine nc_p ?_ | refine fld_at ?_ | refine xt_02 ?_ | refine xt_12 ?_ | refine xt_03 ?_ | refine xt_13 ?_ | refine xt_23 ?_ | refine eq_t (by omega) ?_ | refine eq_f (by omega) ?_ | refine ne_t (by omega) ?_ | refine ne_f (by omega) ?_ | refine lt_t (by omega) ?_ | refine lt_f (by omega) ?_ | refine gt_t (by omega) ?_ | refine gt_f (by omega) ?_ | refine ge_t (by omega) ?_ | refine ge_f (by omega) ?_ | refine le_t (by omega) ?_ | refine le_f (by omega) ?_)
    refine ld1_at h1 0 rfl (v := x.fv) rfl ?_
    refine gd_ff (lnS_rd h1 (i + 1) hi1 (fun g hg => (hr g hg).feds) ?_)
    by_cases q3 : (x.Feds.length : Int) < 1
    · repeat (first | refine gd_tt ?_ | refine gd_ff ?_ | refine gd_tf ?_ | refine gd_ft ?_ | refine gd_u ?_ | refine pk_t ?_ | refine pk_f ?_ | refine iff_t ?_ | refine iff_f ?_ | refine not_t ?_ | refine not_f ?_ | refine beq_s ?_ | refine bne_s ?_ | refine ncP_p ?_ | refine nc_p ?_ | refine fld_at ?_ | refine xt_02 ?_ | refine xt_12 ?_ | refine xt_03 ?_ | refine xt_13 ?_ | refine xt_23 ?_ | refine eq_t (by omega) ?_ | refine eq_f (by omega) ?_ | refine ne_t (by omega) ?_ | refine ne_f (by omega) ?_ | refine lt_t (by omega) ?_ | refine lt_f (by omega) ?_ | refine gt_t (by omega) ?_ | refine gt_f (by omega) ?_ | refine ge_t (by omega) ?_ | refine ge_f (by omega) ?_ | refine le_t (by omega) ?_ | refine le_f (by omega) ?_)
      exact hk
    refine gd_ff (lt_f q3 ?_)
    repeat (first | refine gd_tt ?_ | refine gd_ff ?_ | refine gd_tf ?_ | refine gd_ft ?_ | refine gd_u ?_ | refine pk_t ?_ | refine pk_f ?_ | refine iff_t ?_ | refine iff_f ?_ | refine not_t ?_ | refine not_f ?_ | refine beq_s ?_ | refine bne_s ?_ | refine ncP_p ?_ | refine nc_p ?_ | refine fld_at ?_ | refine xt_02 ?_ | refine xt_12 ?_ | refine xt_03 ?_ | refine xt_13 ?_ | refine xt_23 ?_ | refine eq_t (by omega) ?_ | refine eq_f (by omega) ?_ | refine ne_t (by omega) ?_ | refine ne_f (by omega) ?_ | refine lt_t (by omega) ?_ | refine lt_f (by omega) ?_ | refine gt_t (by omega) ?_ | refine gt_f (by omega) ?_ | refine ge_t (by omega) ?_ | refine ge_f (by omega) ?_ | refine le_t (by omega) ?_ | refine le_f (by omega) ?_)
    refine ld1_at h1 0 rfl (v := x.fv) rfl ?_
    refine gd_ff (lnS_rd h1 (i + 1) hi1 (fun g hg => (hr g hg).feds) ?_)
    repeat (first | refine gd_tt ?_ | refine gd_ff ?_ | refine gd_tf ?_ | refine gd_ft ?_ | refine gd_u ?_ | refine pk_t ?_ | refine pk_f ?_ | refine iff_t ?_ | refine iff_f ?_ | refine not_t ?_ | refine not_f ?_ | refine beq_s ?_ | refine bne_s ?_ | refine ncP_p ?_ | refine nc_p ?_ | refine fld_at ?_ | refine xt_02 ?_ | refine xt_12 ?_ | refine xt_03 ?_ | refine xt_13 ?_ | refine xt_23 ?_ | refine eq_t (by omega) ?_ | refine eq_f (by omega) ?_ | refine ne_t (by omega) ?_ | refine ne_f (by omega) ?_ | refine lt_t (by omega) ?_ | refine lt_f (by omega) ?_ | refine gt_t (by omega) ?_ | refine gt_f (by omega) ?_ | refine ge_t (by omega) ?_ | refine ge_f (by omega) ?_ | refine le_t (by omega) ?_ | refine le_f (by omega) ?_)
    exact hk
  have hk : ∀ w', Sat e w' L → K (.tuple #[.int .i64 (fedsE x.Parents.length 0 (x.Feds.map FedX.f)).1, .int .i64 (fedsE x.Parents.length 0 (x.Feds.map FedX.f)).2]) w' := by
    intro w' h'
    have := hk w' h'
    unfold checkW at this
    rw [if_neg (show ¬ treeE x.w.Parents ≠ 0 from fun h => h p1), if_neg (by simp only [WdX.w, List.length_map]; exact fun h => h p2)] at this
    exact this
  repeat (first | refine gd_tt ?_ | refine gd_ff ?_ | refine gd_tf ?_ | refine gd_ft ?_ | refine gd_u ?_ | refine pk_t ?_ | refine pk_f ?_ | refine iff_t ?_ | refine iff_f ?_ | refine not_t ?_ | refine not_f ?_ | refine beq_s ?_ | refine bne_s ?_ | refine ncP_p ?_ | refine nc_p ?_ | refine fld_at ?_ | refine xt_02 ?_ | refine xt_12 ?_ | refine xt_03 ?_ | refine xt_13 ?_ | refine xt_23 ?_ | refine eq_t (by omega) ?_ | refine eq_f (by omega) ?_ | refine ne_t (by omega) ?_ | refine ne_f (by omega) ?_ | refine lt_t (by omega) ?_ | refine lt_f (by omega) ?_ | refine gt_t (by omega) ?_ | refine gt_f (by omega) ?_ | refine ge_t (by omega) ?_ | refine ge_f (by omega) ?_ | refine le_t (by omega) ?_ | refine le_f (by omega) ?_)
  refine ld1_at h1 0 rfl (v := .int .i64 x.End) rfl ?_
  repeat (first | refine gd_tt ?_ | refine gd_ff ?_ | refine gd_tf ?_ | refine gd_ft ?_ | refine gd_u ?_ | refine pk_t ?_ | refine pk_f ?_ | refine iff_t ?_ | refine iff_f ?_ | refine not_t ?_ | refine not_f ?_ | refine beq_s ?_ | refine bne_s ?_ | refine ncP_p ?_ | refine nc_p ?_ | refine fld_at ?_ | refine xt_02 ?_ | refine xt_12 ?_ | refine xt_03 ?_ | refine xt_13 ?_ | refine xt_23 ?_ | refine eq_t (by omega) ?_ | refine eq_f (by omega) ?_ | refine ne_t (by omega) ?_ | refine ne_f (by omega) ?_ | refine lt_t (by omega) ?_ | refine lt_f (by omega) ?_ | refine gt_t (by omega) ?_ | refine gt_f (by omega) ?_ | refine ge_t (by omega) ?_ | refine ge_f (by omega) ?_ | refine le_t (by omega) ?_ | refine le_f (by omega) ?_)
  refine ld1_at h1 0 rfl (v := x.fv) rfl ?_
  refine gd_ff (lnS_rd h1 (i + 1) hi1 (fun g hg => (hr g hg).feds) ?_)
  repeat (first | refine gd_tt ?_ | refine gd_ff ?_ | refine gd_tf ?_ | refine gd_ft ?_ | refine gd_u ?_ | refine pk_t ?_ | refine pk_f ?_ | refine iff_t ?_ | refine iff_f ?_ | refine not_t ?_ | refine not_f ?_ | refine beq_s ?_ | refine bne_s ?_ | refine ncP_p ?_ | refine nc_p ?_ | refine fld_at ?_ | refine xt_02 ?_ | refine xt_12 ?_ | refine xt_03 ?_ | refine xt_13 ?_ | refine xt_23 ?_ | refine eq_t (by omega) ?_ | refine eq_f (by omega) ?_ | refine ne_t (by omega) ?_ | refine ne_f (by omega) ?_ | refine lt_t (by omega) ?_ | refine lt_f (by omega) ?_ | refine gt_t (by omega) ?_ | refine gt_f (by omega) ?_ | refine ge_t (by omega) ?_ | refine ge_f (by omega) ?_ | refine le_t (by omega) ?_ | refine le_f (by omega) ?_)
  refine ld1_at h1 0 rfl (v := x.fv) rfl ?_
  refine gd_ff (lnS_rd h1 (i + 1) hi1 (fun g hg => (hr g hg).feds) ?_)
  repeat (first | refine gd_tt ?_ | refine gd_ff ?_ | refine gd_tf ?_ | refine gd_ft ?_ | refine gd_u ?_ | refine pk_t ?_ | refine pk_f ?_ | refine iff_t ?_ | refine iff_f ?_ | refine not_t ?_ | refine not_f ?_ | refine beq_s ?_ | refine bne_s ?_ | refine ncP_p ?_ | refine nc_p ?_ | refine fld_at ?_ | refine xt_02 ?_ | refine xt_12 ?_ | refine xt_03 ?_ | refine xt_13 ?_ | refine xt_23 ?_ | refine eq_t (by omega) ?_ | refine eq_f (by omega) ?_ | refine ne_t (by omega) ?_ | refine ne_f (by omega) ?_ | refine lt_t (by omega) ?_ | refine lt_f (by omega) ?_ | refine gt_t (by omega) ?_ | refine gt_f (by omega) ?_ | refine ge_t (by omega) ?_ | refine ge_f (by omega) ?_ | refine le_t (by omega) ?_ | refine le_f (by omega) ?_)
  refine lpi1 (fun q t w => ∃ j : Nat, j ≤ x.Feds.length ∧ t = .int .i64 j ∧ q = x.Feds.length - j ∧ (∀ f ∈ (x.Feds.take j).map FedX.f, fedE f x.Parents.length = 0) ∧ Sat e w (blk b 39 x.cs :: L)) x.Feds.length ⟨0, Nat.zero_le _, rfl, rfl, by simp, h1⟩ ?_
  rintro q _ w g ⟨j, hj, rfl, rfl, hno, h6⟩ hg
  refine fld_at (ld1_at h6 0 rfl (v := x.fv) rfl ?_)
  refine lnS_rd h6 (i + 1) hi1 (fun g hg => (hr g hg).feds) ?_
  refine lt_c (fun c0 => iff_t ?_) (fun c0 => iff_f ?_)
  · obtain ⟨f, hf⟩ := get_of_lt (l := x.Feds) (j := j) (by omega)
    have hfm := List.mem_of_getElem? hf
    refine dr_s h6 fun w7 h7 => ?_
    refine fld_at (ld1_at h7 0 rfl (v := x.fv) rfl ?_)
    refine ixS_rd h7 (i + 1) hi1 (fun g hg => (hr g hg).feds) (fun _ => rfl) hf fun a ha => ?_
    refine ldN_of h7 (i + 1) hi1 ha rfl ?_
    refine fld_at (ld1_at h7 0 rfl (v := x.pv) rfl ?_)
    refine lnS_rd h7 (i + 1) hi1 (fun g hg => (hr g hg).par) ?_
    refine ref08_Fed_s (i + 1) hi1 h7 (fun g hg => (hr g hg).fed f hfm) (hs.fed f hfm) fun w9 h9 => ?_
    have hsp : x.Feds.map FedX.f = (x.Feds.take j).map FedX.f ++ f.f :: (x.Feds.drop (j + 1)).map FedX.f := by
      conv => lhs; rw [take_split hf]
      simp
    have hlen : 0 + ((x.Feds.take j).map FedX.f).length = j := by rw [List.length_map, List.length_take]; omega
    refine ne_c (fun c2 => iff_t ?_) (fun c2 => iff_f (inc_s (by omega) ?_))
    · have := hk _ h9.drop
      rw [hsp, fedsE_app _ _ _ _ hno, fedsE_cons, if_pos c2, hlen] at this
      exact this
    · refine hg _ _ _ (by omega) ⟨j + 1, by omega, rfl, rfl, fun y hy => ?_, h9⟩
      rw [List.take_add_one, hf, List.map_append] at hy
      rcases List.mem_append.1 hy with h | h
      · exact hno y h
      · simp at h
        rw [h]; exact c2
  · have ej : j = x.Feds.length := by omega
    rw [ej, List.take_length] at hno
    have := hk _ h6.drop
    rw [← List.append_nil (x.Feds.map FedX.f), fedsE_app _ _ _ _ hno] at this
    exact this
end Go.Proofs.YtenglfaeohgkfaaGreat
