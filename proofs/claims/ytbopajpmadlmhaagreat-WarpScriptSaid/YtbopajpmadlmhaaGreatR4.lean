/- Texts of the proof, joined: SoloG, EngW, SoloJ, TimeB, EngS, SoloL, SoloO, ClockA, ClockL, PrioA. Conditions: none. -/
import Derived.Test.YtbopajpmadlmhaaGreatR3
section
namespace Go.Proofs.YtbopajpmadlmhaaGreat
open Go Go.E
set_option maxRecDepth 100000
variable {e w : World} {L R : List HP} {K : KV} {S : HP}

theorem ref05_Check_s {v : Value} {l : List Int} (i : Nat) (hi : L[i]? = some S) (hS : Sat e w L) (hr : ∀ g, S g → rdS 1 (intsK .i64) v l g) (hk : K (.int .i64 (treeE l)) w) : Cl prog 128 #[v] w K := by
  refine pacelineref05_Check_calls ?_
  unfold pacelineref05_Check
  have hbad : ¬ okTree l → K (.int .i64 50) w := fun h => by unfold treeE at hk; rw [if_neg h] at hk; exact hk
  refine lnS_rd hS i hi hr ?_
  by_cases c1 : 1 ≤ l.length
  case neg =>
    repeat (first | refine gd_tt ?_ | refine gd_ff ?_ | refine gd_tf ?_ | refine gd_ft ?_ | refine gd_u ?_ | refine pk_t ?_ | refine pk_f ?_ | refine iff_t ?_ | refine iff_f ?_ | refine not_t ?_ | refine not_f ?_ | refine beq_s ?_ | refine bne_s ?_ | refine ncP_p ?_ | refine nc_p ?_ | refine fld_at ?_ | refine xt_02 ?_ | refine xt_12 ?_ | refine xt_03 ?_ | refine xt_13 ?_ | refine xt_23 ?_ | refine eq_t (by omega) ?_ | refine eq_f (by omega) ?_ | refine ne_t (by omega) ?_ | refine ne_f (by omega) ?_ | refine lt_t (by omega) ?_ | refine lt_f (by omega) ?_ | refine gt_t (by omega) ?_ | refine gt_f (by omega) ?_ | refine ge_t (by omega) ?_ | refine ge_f (by omega) ?_ | refine le_t (by omega) ?_ | refine le_f (by omega) ?_)
    exact hbad fun h => c1 h.1
  refine lt_f (by omega) (gd_ff (gd_ff (lnS_rd hS i hi hr ?_)))
  by_cases c2 : l.length ≤ 16
  case neg =>
    repeat (first | refine gd_tt ?_ | refine gd_ff ?_ | refine gd_tf ?_ | refine gd_ft ?_ | refine gd_u ?_ | refine pk_t ?_ | refine pk_f ?_ | refine iff_t ?_ | refine iff_f ?_ | refine not_t ?_ | refine not_f ?_ | refine beq_s ?_ | refine bne_s ?_ | refine ncP_p ?_ | refine nc_p ?_ | refine fld_at ?_ | refine xt_02 ?_ | refine xt_12 ?_ | refine xt_03 ?_ | refine xt_13 ?_ | refine xt_23 ?_ | refine eq_t (by omega) ?_ | refine eq_f (by omega) ?_ | refine ne_t (by omega) ?_ | refine ne_f (by omega) ?_ | refine lt_t (by omega) ?_ | refine lt_f (by omega) ?_ | refine gt_t (by omega) ?_ | refine gt_f (by omega) ?_ | refine ge_t (by omega) ?_ | refine ge_f (by omega) ?_ | refine le_t (by omega) ?_ | refine le_f (by omega) ?_)
    exact hbad fun h => c2 h.2.1
  repeat (first | refine gd_tt ?_ | refine gd_ff ?_ | refine gd_tf ?_ | refine gd_ft ?_ | refine gd_u ?_ | refine pk_t ?_ | refine pk_f ?_ | refine iff_t ?_ | refine iff_f ?_ | refine not_t ?_ | refine not_f ?_ | refine beq_s ?_ | refine bne_s ?_ | refine ncP_p ?_ | refine nc_p ?_ | refine fld_at ?_ | refine xt_02 ?_ | refine xt_12 ?_ | refine xt_03 ?_ | refine xt_13 ?_ | refine xt_23 ?_ | refine eq_t (by omega) ?_ | refine eq_f (by omega) ?_ | refine ne_t (by omega) ?_ | refine ne_f (by omega) ?_ | refine lt_t (by omega) ?_ | refine lt_f (by omega) ?_ | refine gt_t (by omega) ?_ | refine gt_f (by omega) ?_ | refine ge_t (by omega) ?_ | refine ge_f (by omega) ?_ | refine le_t (by omega) ?_ | refine le_f (by omega) ?_)
  refine lpi1 (fun q t8 w' => ∃ j : Nat, j ≤ l.length ∧ t8 = .int .i64 j ∧ q = l.length - j ∧ (∀ (i : Nat) p, i < j → l[i]? = some p → -1 ≤ p ∧ p < i) ∧ w' = w) l.length ⟨0, Nat.zero_le _, rfl, rfl, fun _ _ h => absurd h (by omega), rfl⟩ ?_
  rintro q _ w' g ⟨j, hj, rfl, rfl, hno, rfl⟩ hg
  refine lnS_rd hS i hi hr ?_
  refine lt_c (fun c => iff_t ?_) (fun c => iff_f ?_)
  · obtain ⟨y, hy⟩ := get_of_lt (l := l) (j := j) (by omega)
    refine ixS_rd hS i hi hr (fun _ => rfl) hy fun a ha => ?_
    refine ld1_of hS i hi ha (v := .int .i64 y) rfl ?_
    by_cases c3 : y < -1
    · repeat (first | refine gd_tt ?_ | refine gd_ff ?_ | refine gd_tf ?_ | refine gd_ft ?_ | refine gd_u ?_ | refine pk_t ?_ | refine pk_f ?_ | refine iff_t ?_ | refine iff_f ?_ | refine not_t ?_ | refine not_f ?_ | refine beq_s ?_ | refine bne_s ?_ | refine ncP_p ?_ | refine nc_p ?_ | refine fld_at ?_ | refine xt_02 ?_ | refine xt_12 ?_ | refine xt_03 ?_ | refine xt_13 ?_ | refine xt_23 ?_ | refine eq_t (by omega) ?_ | refine eq_f (by omega) ?_ | refine ne_t (by omega) ?_ | refine ne_f (by omega) ?_ | refine lt_t (by omega) ?_ | refine lt_f (by omega) ?_ | refine gt_t (by omega) ?_ | refine gt_f (by omega) ?_ | refine ge_t (by omega) ?_ | refine ge_f (by omega) ?_ | refine le_t (by omega) ?_ | refine le_f (by omega) ?_)
      exact hbad fun h => by have := h.2.2 j y hy; omega
    · refine lt_f c3 (gd_ff (gd_ff (gd_ff (ixS_rd hS i hi hr (fun _ => rfl) hy fun a ha => ?_))))
      refine gd_ff (ld1_of hS i hi ha (v := .int .i64 y) rfl ?_)
      by_cases c4 : (j : Int) ≤ y
      · repeat (first | refine gd_tt ?_ | refine gd_ff ?_ | refine gd_tf ?_ | refine gd_ft ?_ | refine gd_u ?_ | refine pk_t ?_ | refine pk_f ?_ | refine iff_t ?_ | refine iff_f ?_ | refine not_t ?_ | refine not_f ?_ | refine beq_s ?_ | refine bne_s ?_ | refine ncP_p ?_ | refine nc_p ?_ | refine fld_at ?_ | refine xt_02 ?_ | refine xt_12 ?_ | refine xt_03 ?_ | refine xt_13 ?_ | refine xt_23 ?_ | refine eq_t (by omega) ?_ | refine eq_f (by omega) ?_ | refine ne_t (by omega) ?_ | refine ne_f (by omega) ?_ | refine lt_t (by omega) ?_ | refine lt_f (by omega) ?_ | refine gt_t (by omega) ?_ | refine gt_f (by omega) ?_ | refine ge_t (by omega) ?_ | refine ge_f (by omega) ?_ | refine le_t (by omega) ?_ | refine le_f (by omega) ?_)
        exact hbad fun h => by have := h.2.2 j y hy; omega
      · repeat (first | refine gd_tt ?_ | refine gd_ff ?_ | refine gd_tf ?_ | refine gd_ft ?_ | refine gd_u ?_ | refine pk_t ?_ | refine pk_f ?_ | refine iff_t ?_ | refine iff_f ?_ | refine not_t ?_ | refine not_f ?_ | refine beq_s ?_ | refine bne_s ?_ | refine ncP_p ?_ | refine nc_p ?_ | refine fld_at ?_ | refine xt_02 ?_ | refine xt_12 ?_ | refine xt_03 ?_ | refine xt_13 ?_ | refine xt_23 ?_ | refine eq_t (by omega) ?_ | refine eq_f (by omega) ?_ | refine ne_t (by omega) ?_ | refine ne_f (by omega) ?_ | refine lt_t (by omega) ?_ | refine lt_f (by omega) ?_ | refine gt_t (by omega) ?_ | refine gt_f (by omega) ?_ | refine ge_t (by omega) ?_ | refine ge_f (by omega) ?_ | refine le_t (by omega) ?_ | refine le_f (by omega) ?_)
        refine inc_s (by omega) ?_
        refine hg _ _ _ (by omega) ⟨j + 1, by omega, rfl, rfl, fun i p hi hp => ?_, rfl⟩
        by_cases h : i = j
        · subst h
          rw [hy] at hp
          cases hp
          omega
        · exact hno i p (by omega) hp
  · have ej : j = l.length := by omega
    unfold treeE at hk
    rw [if_pos ⟨c1, c2, fun i p hp => hno i p (by have := (List.getElem?_eq_some_iff.1 hp).1; omega) hp⟩] at hk
    exact hk
theorem ref05_Has_s {v : Value} {l : List Int} {x : Int} (i : Nat) (hi : L[i]? = some S) (hS : Sat e w L) (hr : ∀ g, S g → rdS 1 (intsK .i64) v l g) (hl : l.length ≤ 1000000) (hk : K (.bool (decide (x ∈ l))) w) : Cl prog 127 #[v, .int .i64 x] w K := by
  refine pacelineref05_Has_calls ?_
  unfold pacelineref05_Has
  refine lpi1 (fun q t8 w' => ∃ j : Nat, j ≤ l.length ∧ t8 = .int .i64 j ∧ q = l.length - j ∧ x ∉ l.take j ∧ w' = w) l.length ⟨0, Nat.zero_le _, rfl, rfl, by simp, rfl⟩ ?_
  rintro q _ w' g ⟨j, hj, rfl, rfl, hno, rfl⟩ hg
  refine lnS_rd hS i hi hr ?_
  refine lt_c (fun c => iff_t ?_) (fun c => iff_f ?_)
  · obtain ⟨y, hy⟩ := get_of_lt (l := l) (j := j) (by omega)
    refine ixS_rd hS i hi hr (fun _ => rfl) hy fun a ha => ?_
    refine ld1_of hS i hi ha (v := .int .i64 y) rfl ?_
    refine eq_c (fun c2 => iff_t ?_) (fun c2 => iff_f ?_)
    · rw [decide_eq_true (c2 ▸ List.mem_of_getElem? hy)] at hk
      exact hk
    · refine inc_s (by omega) ?_
      refine hg _ _ _ (by omega) ⟨j + 1, by omega, rfl, rfl, ?_, rfl⟩
      rw [List.take_add_one, hy]
      simp [hno, Ne.symm c2]
  · have ej : j = l.length := by omega
    rw [ej, List.take_length] at hno
    rw [decide_eq_false hno] at hk
    exact hk
theorem ref07_in_s {n m : Int} (hk : K (.bool (decide (0 ≤ n ∧ n < m))) w) : Cl prog 199 #[.int .i64 n, .int .i64 m] w K := by
  refine pacelineref07_in_calls ?_
  unfold pacelineref07_in
  by_cases c1 : 0 ≤ n
  · by_cases c2 : n < m
    · rw [decide_eq_true ⟨c1, c2⟩] at hk
      repeat (first | refine gd_tt ?_ | refine gd_ff ?_ | refine gd_tf ?_ | refine gd_ft ?_ | refine gd_u ?_ | refine pk_t ?_ | refine pk_f ?_ | refine iff_t ?_ | refine iff_f ?_ | refine not_t ?_ | refine not_f ?_ | refine beq_s ?_ | refine bne_s ?_ | refine ncP_p ?_ | refine nc_p ?_ | refine fld_at ?_ | refine xt_02 ?_ | refine xt_12 ?_ | refine xt_03 ?_ | refine xt_13 ?_ | refine xt_23 ?_ | refine eq_t (by omega) ?_ | refine eq_f (by omega) ?_ | refine ne_t (by omega) ?_ | refine ne_f (by omega) ?_ | refine lt_t (by omega) ?_ | refine lt_f (by omega) ?_ | refine gt_t (by omega) ?_ | refine gt_f (by omega) ?_ | refine ge_t (by omega) ?_ | refine ge_f (by omega) ?_ | refine le_t (by omega) ?_ | refine le_f (by omega) ?_)
      exact hk
    · rw [decide_eq_false fun h => c2 h.2] at hk
      repeat (first | refine gd_tt ?_ | refine gd_ff ?_ | refine gd_tf ?_ | refine gd_ft ?_ | refine gd_u ?_ | refine pk_t ?_ | refine pk_f ?_ | refine iff_t ?_ | refine iff_f ?_ | refine not_t ?_ | refine not_f ?_ | refine beq_s ?_ | refine bne_s ?_ | refine ncP_p ?_ | refine nc_p ?_ | refine fld_at ?_ | refine xt_02 ?_ | refine xt_12 ?_ | refine xt_03 ?_ | refine xt_13 ?_ | refine xt_23 ?_ | refine eq_t (by omega) ?_ | refine eq_f (by omega) ?_ | refine ne_t (by omega) ?_ | refine ne_f (by omega) ?_ | refine lt_t (by omega) ?_ | refine lt_f (by omega) ?_ | refine gt_t (by omega) ?_ | refine gt_f (by omega) ?_ | refine ge_t (by omega) ?_ | refine ge_f (by omega) ?_ | refine le_t (by omega) ?_ | refine le_f (by omega) ?_)
      exact hk
  · rw [decide_eq_false fun h => c1 h.1] at hk
    repeat (first | refine gd_tt ?_ | refine gd_ff ?_ | refine gd_tf ?_ | refine gd_ft ?_ | refine gd_u ?_ | refine pk_t ?_ | refine pk_f ?_ | refine iff_t ?_ | refine iff_f ?_ | refine not_t ?_ | refine not_f ?_ | refine beq_s ?_ | refine bne_s ?_ | refine ncP_p ?_ | refine nc_p ?_ | refine fld_at ?_ | refine xt_02 ?_ | refine xt_12 ?_ | refine xt_03 ?_ | refine xt_13 ?_ | refine xt_23 ?_ | refine eq_t (by omega) ?_ | refine eq_f (by omega) ?_ | refine ne_t (by omega) ?_ | refine ne_f (by omega) ?_ | refine lt_t (by omega) ?_ | refine lt_f (by omega) ?_ | refine gt_t (by omega) ?_ | refine gt_f (by omega) ?_ | refine ge_t (by omega) ?_ | refine ge_f (by omega) ?_ | refine le_t (by omega) ?_ | refine le_f (by omega) ?_)
    exact hk
theorem ref07_fine_s {r : RuleX} (i : Nat) (hi : L[i]? = some S) (hS : Sat e w L) (hr : ∀ g, S g → rdS 3 Out.cs r.sv r.Sends g) (hl : r.Sends.length ≤ 1000000) (hk : ∀ w', Sat e w' L → ∀ b : Bool, (b = true ↔ okRule r.r) → K (.bool b) w') :
    Cl prog 191 #[.agg r.cs.toArray] w K := by
  refine pacelineref07_fine_calls ?_
  unfold pacelineref07_fine
  refine al_s (cs := r.cs) hS rfl fun tb w1 h1 => ?_
  have hi1 : (blk tb 89 r.cs :: L)[i + 1]? = some S := by simpa using hi
  have hno : ¬ okRule r.r → ∀ w', Sat e w' (blk tb 89 r.cs :: L) → K (.bool false) w' := fun h w' h' => hk _ h'.drop false ⟨(fun h => by cases h), fun h2 => absurd h2 h⟩
  refine fld_at (ld1_at h1 0 rfl (v := .int .i64 r.State) rfl ?_)
  refine ref07_in_s (not_d ?_)
  by_cases d1 : 0 ≤ r.State ∧ r.State < 8
  case neg =>
    rw [decide_eq_false d1, Bool.not_false]
    repeat (first | refine gd_tt ?_ | refine gd_ff ?_ | refine gd_tf ?_ | refine gd_ft ?_ | refine gd_u ?_ | refine pk_t ?_ | refine pk_f ?_ | refine iff_t ?_ | refine iff_f ?_ | refine not_t ?_ | refine not_f ?_ | refine beq_s ?_ | refine bne_s ?_ | refine ncP_p ?_ | refine nc_p ?_ | refine fld_at ?_ | refine xt_02 ?_ | refine xt_12 ?_ | refine xt_03 ?_ | refine xt_13 ?_ | refine xt_23 ?_ | refine eq_t (by omega) ?_ | refine eq_f (by omega) ?_ | refine ne_t (by omega) ?_ | refine ne_f (by omega) ?_ | refine lt_t (by omega) ?_ | refine lt_f (by omega) ?_ | refine gt_t (by omega) ?_ | refine gt_f (by omega) ?_ | refine ge_t (by omega) ?_ | refine ge_f (by omega) ?_ | refine le_t (by omega) ?_ | refine le_f (by omega) ?_)
    exact hno (fun h => d1 ⟨h.1, h.2.1⟩) _ h1
  rw [decide_eq_true d1, Bool.not_true]
  repeat (first | refine gd_tt ?_ | refine gd_ff ?_ | refine gd_tf ?_ | refine gd_ft ?_ | refine gd_u ?_ | refine pk_t ?_ | refine pk_f ?_ | refine iff_t ?_ | refine iff_f ?_ | refine not_t ?_ | refine not_f ?_ | refine beq_s ?_ | refine bne_s ?_ | refine ncP_p ?_ | refine nc_p ?_ | refine fld_at ?_ | refine xt_02 ?_ | refine xt_12 ?_ | refine xt_03 ?_ | refine xt_13 ?_ | refine xt_23 ?_ | refine eq_t (by omega) ?_ | refine eq_f (by omega) ?_ | refine ne_t (by omega) ?_ | refine ne_f (by omega) ?_ | refine lt_t (by omega) ?_ | refine lt_f (by omega) ?_ | refine gt_t (by omega) ?_ | refine gt_f (by omega) ?_ | refine ge_t (by omega) ?_ | refine ge_f (by omega) ?_ | refine le_t (by omega) ?_ | refine le_f (by omega) ?_)
  refine ld1_at h1 0 rfl (v := .int .i64 r.Next) rfl ?_
  refine gd_ff (ref07_in_s (gd_ff (not_d ?_)))
  by_cases d2 : 0 ≤ r.Next ∧ r.Next < 8
  case neg =>
    rw [decide_eq_false d2, Bool.not_false]
    repeat (first | refine gd_tt ?_ | refine gd_ff ?_ | refine gd_tf ?_ | refine gd_ft ?_ | refine gd_u ?_ | refine pk_t ?_ | refine pk_f ?_ | refine iff_t ?_ | refine iff_f ?_ | refine not_t ?_ | refine not_f ?_ | refine beq_s ?_ | refine bne_s ?_ | refine ncP_p ?_ | refine nc_p ?_ | refine fld_at ?_ | refine xt_02 ?_ | refine xt_12 ?_ | refine xt_03 ?_ | refine xt_13 ?_ | refine xt_23 ?_ | refine eq_t (by omega) ?_ | refine eq_f (by omega) ?_ | refine ne_t (by omega) ?_ | refine ne_f (by omega) ?_ | refine lt_t (by omega) ?_ | refine lt_f (by omega) ?_ | refine gt_t (by omega) ?_ | refine gt_f (by omega) ?_ | refine ge_t (by omega) ?_ | refine ge_f (by omega) ?_ | refine le_t (by omega) ?_ | refine le_f (by omega) ?_)
    exact hno (fun h => d2 ⟨h.2.2.1, h.2.2.2.1⟩) _ h1
  rw [decide_eq_true d2, Bool.not_true]
  repeat (first | refine gd_tt ?_ | refine gd_ff ?_ | refine gd_tf ?_ | refine gd_ft ?_ | refine gd_u ?_ | refine pk_t ?_ | refine pk_f ?_ | refine iff_t ?_ | refine iff_f ?_ | refine not_t ?_ | refine not_f ?_ | refine beq_s ?_ | refine bne_s ?_ | refine ncP_p ?_ | refine nc_p ?_ | refine fld_at ?_ | refine xt_02 ?_ | refine xt_12 ?_ | refine xt_03 ?_ | refine xt_13 ?_ | refine xt_23 ?_ | refine eq_t (by omega) ?_ | refine eq_f (by omega) ?_ | refine ne_t (by omega) ?_ | refine ne_f (by omega) ?_ | refine lt_t (by omega) ?_ | refine lt_f (by omega) ?_ | refine gt_t (by omega) ?_ | refine gt_f (by omega) ?_ | refine ge_t (by omega) ?_ | refine ge_f (by omega) ?_ | refine le_t (by omega) ?_ | refine le_f (by omega) ?_)
  refine ld1_at h1 0 rfl (v := .int .i64 r.Class) rfl ?_
  refine gd_ff (ref07_in_s (gd_ff (not_d ?_)))
  by_cases d3 : 0 ≤ r.Class ∧ r.Class < 16
  case neg =>
    rw [decide_eq_false d3, Bool.not_false]
    repeat (first | refine gd_tt ?_ | refine gd_ff ?_ | refine gd_tf ?_ | refine gd_ft ?_ | refine gd_u ?_ | refine pk_t ?_ | refine pk_f ?_ | refine iff_t ?_ | refine iff_f ?_ | refine not_t ?_ | refine not_f ?_ | refine beq_s ?_ | refine bne_s ?_ | refine ncP_p ?_ | refine nc_p ?_ | refine fld_at ?_ | refine xt_02 ?_ | refine xt_12 ?_ | refine xt_03 ?_ | refine xt_13 ?_ | refine xt_23 ?_ | refine eq_t (by omega) ?_ | refine eq_f (by omega) ?_ | refine ne_t (by omega) ?_ | refine ne_f (by omega) ?_ | refine lt_t (by omega) ?_ | refine lt_f (by omega) ?_ | refine gt_t (by omega) ?_ | refine gt_f (by omega) ?_ | refine ge_t (by omega) ?_ | refine ge_f (by omega) ?_ | refine le_t (by omega) ?_ | refine le_f (by omega) ?_)
    exact hno (fun h => d3 ⟨h.2.2.2.2.1, h.2.2.2.2.2.1⟩) _ h1
  rw [decide_eq_true d3, Bool.not_true]
  repeat (first | refine gd_tt ?_ | refine gd_ff ?_ | refine gd_tf ?_ | refine gd_ft ?_ | refine gd_u ?_ | refine pk_t ?_ | refine pk_f ?_ | refine iff_t ?_ | refine iff_f ?_ | refine not_t ?_ | refine not_f ?_ | refine beq_s ?_ | refine bne_s ?_ | refine ncP_p ?_ | refine nc_p ?_ | refine fld_at ?_ | refine xt_02 ?_ | refine xt_12 ?_ | refine xt_03 ?_ | refine xt_13 ?_ | refine xt_23 ?_ | refine eq_t (by omega) ?_ | refine eq_f (by omega) ?_ | refine ne_t (by omega) ?_ | refine ne_f (by omega) ?_ | refine lt_t (by omega) ?_ | refine lt_f (by omega) ?_ | refine gt_t (by omega) ?_ | refine gt_f (by omega) ?_ | refine ge_t (by omega) ?_ | refine ge_f (by omega) ?_ | refine le_t (by omega) ?_ | refine le_f (by omega) ?_)
  refine ld1_at h1 0 rfl (v := r.sv) rfl ?_
  refine gd_ff (lnS_rd h1 (i + 1) hi1 hr ?_)
  by_cases d4 : 3 < r.Sends.length
  · repeat (first | refine gd_tt ?_ | refine gd_ff ?_ | refine gd_tf ?_ | refine gd_ft ?_ | refine gd_u ?_ | refine pk_t ?_ | refine pk_f ?_ | refine iff_t ?_ | refine iff_f ?_ | refine not_t ?_ | refine not_f ?_ | refine beq_s ?_ | refine bne_s ?_ | refine ncP_p ?_ | refine nc_p ?_ | refine fld_at ?_ | refine xt_02 ?_ | refine xt_12 ?_ | refine xt_03 ?_ | refine xt_13 ?_ | refine xt_23 ?_ | refine eq_t (by omega) ?_ | refine eq_f (by omega) ?_ | refine ne_t (by omega) ?_ | refine ne_f (by omega) ?_ | refine lt_t (by omega) ?_ | refine lt_f (by omega) ?_ | refine gt_t (by omega) ?_ | refine gt_f (by omega) ?_ | refine ge_t (by omega) ?_ | refine ge_f (by omega) ?_ | refine le_t (by omega) ?_ | refine le_f (by omega) ?_)
    exact hno (fun h => by have := h.2.2.2.2.2.2.1; simp only [RuleX.r] at this; omega) _ h1
  repeat (first | refine gd_tt ?_ | refine gd_ff ?_ | refine gd_tf ?_ | refine gd_ft ?_ | refine gd_u ?_ | refine pk_t ?_ | refine pk_f ?_ | refine iff_t ?_ | refine iff_f ?_ | refine not_t ?_ | refine not_f ?_ | refine beq_s ?_ | refine bne_s ?_ | refine ncP_p ?_ | refine nc_p ?_ | refine fld_at ?_ | refine xt_02 ?_ | refine xt_12 ?_ | refine xt_03 ?_ | refine xt_13 ?_ | refine xt_23 ?_ | refine eq_t (by omega) ?_ | refine eq_f (by omega) ?_ | refine ne_t (by omega) ?_ | refine ne_f (by omega) ?_ | refine lt_t (by omega) ?_ | refine lt_f (by omega) ?_ | refine gt_t (by omega) ?_ | refine gt_f (by omega) ?_ | refine ge_t (by omega) ?_ | refine ge_f (by omega) ?_ | refine le_t (by omega) ?_ | refine le_f (by omega) ?_)
  refine lpi1 (fun q t w => ∃ j : Nat, j ≤ r.Sends.length ∧ t = .int .i64 j ∧ q = r.Sends.length - j ∧ (∀ o ∈ r.Sends.take j, okOut o) ∧ Sat e w (blk tb 89 r.cs :: L)) r.Sends.length ⟨0, Nat.zero_le _, rfl, rfl, by simp, h1⟩ ?_
  rintro q _ w g ⟨j, hj, rfl, rfl, hall, h2⟩ hg
  refine fld_at (ld1_at h2 0 rfl (v := r.sv) rfl ?_)
  refine lnS_rd h2 (i + 1) hi1 hr ?_
  refine lt_c (fun c => iff_t ?_) (fun c => iff_f ?_)
  · obtain ⟨o, ho⟩ := get_of_lt (l := r.Sends) (j := j) (by omega)
    have hom := List.mem_of_getElem? ho
    refine fld_at (ld1_at h2 0 rfl (v := r.sv) rfl ?_)
    refine ixS_rd h2 (i + 1) hi1 hr (fun _ => rfl) ho fun a ha => ?_
    refine ldN_of h2 (i + 1) hi1 ha rfl ?_
    rw [zero_87]
    refine al_s (cs := ints [0, 0, 0]) h2 rfl fun t2 w3 h3 => ?_
    refine stN_at h3 0 rfl (vs := o.cs) rfl rfl (by decide) (ints_flat _) (cs' := o.cs) (by rfl) fun w4 h4 => ?_
    have hno2 : ¬ okOut o → K (.bool false) w4 := fun h => hno (fun h2 => h (h2.2.2.2.2.2.2.2 o hom)) _ h4.drop
    refine fld_at (ld1_at h4 0 rfl (v := .int .i64 o.Class) rfl ?_)
    refine ref07_in_s (not_d ?_)
    by_cases d1 : 0 ≤ o.Class ∧ o.Class < 16
    case neg =>
      rw [decide_eq_false d1, Bool.not_false]
      repeat (first | refine gd_tt ?_ | refine gd_ff ?_ | refine gd_tf ?_ | refine gd_ft ?_ | refine gd_u ?_ | refine pk_t ?_ | refine pk_f ?_ | refine iff_t ?_ | refine iff_f ?_ | refine not_t ?_ | refine not_f ?_ | refine beq_s ?_ | refine bne_s ?_ | refine ncP_p ?_ | refine nc_p ?_ | refine fld_at ?_ | refine xt_02 ?_ | refine xt_12 ?_ | refine xt_03 ?_ | refine xt_13 ?_ | refine xt_23 ?_ | refine eq_t (by omega) ?_ | refine eq_f (by omega) ?_ | refine ne_t (by omega) ?_ | refine ne_f (by omega) ?_ | refine lt_t (by omega) ?_ | refine lt_f (by omega) ?_ | refine gt_t (by omega) ?_ | refine gt_f (by omega) ?_ | refine ge_t (by omega) ?_ | refine ge_f (by omega) ?_ | refine le_t (by omega) ?_ | refine le_f (by omega) ?_)
      exact hno2 fun h => d1 ⟨h.1, h.2.1⟩
    rw [decide_eq_true d1, Bool.not_true]
    repeat (first | refine gd_tt ?_ | refine gd_ff ?_ | refine gd_tf ?_ | refine gd_ft ?_ | refine gd_u ?_ | refine pk_t ?_ | refine pk_f ?_ | refine iff_t ?_ | refine iff_f ?_ | refine not_t ?_ | refine not_f ?_ | refine beq_s ?_ | refine bne_s ?_ | refine ncP_p ?_ | refine nc_p ?_ | refine fld_at ?_ | refine xt_02 ?_ | refine xt_12 ?_ | refine xt_03 ?_ | refine xt_13 ?_ | refine xt_23 ?_ | refine eq_t (by omega) ?_ | refine eq_f (by omega) ?_ | refine ne_t (by omega) ?_ | refine ne_f (by omega) ?_ | refine lt_t (by omega) ?_ | refine lt_f (by omega) ?_ | refine gt_t (by omega) ?_ | refine gt_f (by omega) ?_ | refine ge_t (by omega) ?_ | refine ge_f (by omega) ?_ | refine le_t (by omega) ?_ | refine le_f (by omega) ?_)
    refine ld1_at h4 0 rfl (v := .int .i64 o.Delay) rfl ?_
    refine gd_ff (ref07_in_s (gd_ff (not_d ?_)))
    by_cases d2 : 0 ≤ o.Delay ∧ o.Delay < 1048577
    case neg =>
      rw [decide_eq_false d2, Bool.not_false]
      repeat (first | refine gd_tt ?_ | refine gd_ff ?_ | refine gd_tf ?_ | refine gd_ft ?_ | refine gd_u ?_ | refine pk_t ?_ | refine pk_f ?_ | refine iff_t ?_ | refine iff_f ?_ | refine not_t ?_ | refine not_f ?_ | refine beq_s ?_ | refine bne_s ?_ | refine ncP_p ?_ | refine nc_p ?_ | refine fld_at ?_ | refine xt_02 ?_ | refine xt_12 ?_ | refine xt_03 ?_ | refine xt_13 ?_ | refine xt_23 ?_ | refine eq_t (by omega) ?_ | refine eq_f (by omega) ?_ | refine ne_t (by omega) ?_ | refine ne_f (by omega) ?_ | refine lt_t (by omega) ?_ | refine lt_f (by omega) ?_ | refine gt_t (by omega) ?_ | refine gt_f (by omega) ?_ | refine ge_t (by omega) ?_ | refine ge_f (by omega) ?_ | refine le_t (by omega) ?_ | refine le_f (by omega) ?_)
      exact hno2 fun h => d2 ⟨h.2.2.1, h.2.2.2.1⟩
    rw [decide_eq_true d2, Bool.not_true]
    repeat (first | refine gd_tt ?_ | refine gd_ff ?_ | refine gd_tf ?_ | refine gd_ft ?_ | refine gd_u ?_ | refine pk_t ?_ | refine pk_f ?_ | refine iff_t ?_ | refine iff_f ?_ | refine not_t ?_ | refine not_f ?_ | refine beq_s ?_ | refine bne_s ?_ | refine ncP_p ?_ | refine nc_p ?_ | refine fld_at ?_ | refine xt_02 ?_ | refine xt_12 ?_ | refine xt_03 ?_ | refine xt_13 ?_ | refine xt_23 ?_ | refine eq_t (by omega) ?_ | refine eq_f (by omega) ?_ | refine ne_t (by omega) ?_ | refine ne_f (by omega) ?_ | refine lt_t (by omega) ?_ | refine lt_f (by omega) ?_ | refine gt_t (by omega) ?_ | refine gt_f (by omega) ?_ | refine ge_t (by omega) ?_ | refine ge_f (by omega) ?_ | refine le_t (by omega) ?_ | refine le_f (by omega) ?_)
    refine ld1_at h4 0 rfl (v := .int .i64 o.Add) rfl ?_
    refine gd_ff (ref07_in_s (gd_ff (not_d ?_)))
    by_cases d3 : 0 ≤ o.Add ∧ o.Add < 1000
    case neg =>
      rw [decide_eq_false d3, Bool.not_false]
      repeat (first | refine gd_tt ?_ | refine gd_ff ?_ | refine gd_tf ?_ | refine gd_ft ?_ | refine gd_u ?_ | refine pk_t ?_ | refine pk_f ?_ | refine iff_t ?_ | refine iff_f ?_ | refine not_t ?_ | refine not_f ?_ | refine beq_s ?_ | refine bne_s ?_ | refine ncP_p ?_ | refine nc_p ?_ | refine fld_at ?_ | refine xt_02 ?_ | refine xt_12 ?_ | refine xt_03 ?_ | refine xt_13 ?_ | refine xt_23 ?_ | refine eq_t (by omega) ?_ | refine eq_f (by omega) ?_ | refine ne_t (by omega) ?_ | refine ne_f (by omega) ?_ | refine lt_t (by omega) ?_ | refine lt_f (by omega) ?_ | refine gt_t (by omega) ?_ | refine gt_f (by omega) ?_ | refine ge_t (by omega) ?_ | refine ge_f (by omega) ?_ | refine le_t (by omega) ?_ | refine le_f (by omega) ?_)
      exact hno2 fun h => d3 ⟨h.2.2.2.2.1, h.2.2.2.2.2⟩
    rw [decide_eq_true d3, Bool.not_true]
    repeat (first | refine gd_tt ?_ | refine gd_ff ?_ | refine gd_tf ?_ | refine gd_ft ?_ | refine gd_u ?_ | refine pk_t ?_ | refine pk_f ?_ | refine iff_t ?_ | refine iff_f ?_ | refine not_t ?_ | refine not_f ?_ | refine beq_s ?_ | refine bne_s ?_ | refine ncP_p ?_ | refine nc_p ?_ | refine fld_at ?_ | refine xt_02 ?_ | refine xt_12 ?_ | refine xt_03 ?_ | refine xt_13 ?_ | refine xt_23 ?_ | refine eq_t (by omega) ?_ | refine eq_f (by omega) ?_ | refine ne_t (by omega) ?_ | refine ne_f (by omega) ?_ | refine lt_t (by omega) ?_ | refine lt_f (by omega) ?_ | refine gt_t (by omega) ?_ | refine gt_f (by omega) ?_ | refine ge_t (by omega) ?_ | refine ge_f (by omega) ?_ | refine le_t (by omega) ?_ | refine le_f (by omega) ?_)
    refine inc_s (by omega) ?_
    refine hg _ _ _ (by omega) ⟨j + 1, by omega, rfl, rfl, fun x hx => ?_, h4.drop⟩
    rw [List.take_add_one, ho] at hx
    rcases List.mem_append.1 hx with h | h
    · exact hall x h
    · simp at h
      subst h
      exact ⟨d1.1, d1.2, d2.1, d2.2, d3.1, d3.2⟩
  · have ej : j = r.Sends.length := by omega
    rw [ej, List.take_length] at hall
    exact hk _ h2.drop true ⟨fun _ => ⟨d1.1, d1.2, d2.1, d2.2, d3.1, d3.2, by simp only [RuleX.r]; omega, hall⟩, fun _ => rfl⟩

def isOn (s c : Int) (r : RuleX) : Prop := r.State = s ∧ r.Class = c
theorem ref07_Find_s {v : Value} {l : List RuleX} {s c : Int} (i : Nat) (hi : L[i]? = some S) (hS : Sat e w L) (hr : ∀ g, S g → rdS 4 RuleX.cs v l g) (hl : l.length ≤ 1000000)
    (hno : (∀ r ∈ l, ¬ isOn s c r) → K (.int .i64 (-1)) w) (hyes : ∀ (j : Nat) r, l[j]? = some r → isOn s c r → (∀ y ∈ l.take j, ¬ isOn s c y) → K (.int .i64 j) w) : Cl prog 65 #[v, .int .i64 s, .int .i64 c] w K := by
  refine pacelineref07_Find_calls ?_
  unfold pacelineref07_Find
  refine lpi1 (fun q t w' => ∃ j : Nat, j ≤ l.length ∧ t = .int .i64 j ∧ q = l.length - j ∧ (∀ y ∈ l.take j, ¬ isOn s c y) ∧ w' = w) l.length ⟨0, Nat.zero_le _, rfl, rfl, by simp, rfl⟩ ?_
  rintro q _ w' g ⟨j, hj, rfl, rfl, hlo, rfl⟩ hg
  refine lnS_rd hS i hi hr ?_
  refine lt_c (fun c0 => iff_t ?_) (fun c0 => iff_f ?_)
  · obtain ⟨r, hrj⟩ := get_of_lt (l := l) (j := j) (by omega)
    have hnext : ¬ isOn s c r → bi .add .i64 (.int .i64 j) (.int .i64 1) w' fun t13 w => g [t13] w := by
      intro h
      refine inc_s (by omega) ?_
      refine hg _ _ _ (by omega) ⟨j + 1, by omega, rfl, rfl, fun y hy => ?_, rfl⟩
      rw [List.take_add_one, hrj] at hy
      rcases List.mem_append.1 hy with h' | h'
      · exact hlo y h'
      · simp at h'
        subst h'
        exact h
    refine ixS_rd hS i hi hr (fun _ => rfl) hrj fun a ha => ?_
    refine fld_of ha fun a1 ha1 => ?_
    refine ld1_of hS i hi ha1 (v := .int .i64 r.State) rfl ?_
    refine eq_c (fun c1 => ?_) (fun c1 => ?_)
    · refine gd_tt (gd_tt (gd_tt (ixS_rd hS i hi hr (fun _ => rfl) hrj fun a ha => ?_)))
      refine gd_tt (fld_of ha fun a1 ha1 => ?_)
      refine gd_tt (ld1_of hS i hi ha1 (v := .int .i64 r.Class) rfl ?_)
      refine gd_tt (gd_tt (eq_c (fun c2 => ?_) (fun c2 => ?_)))
      · exact pk_t (iff_t (hyes j r hrj ⟨c1, c2⟩ hlo))
      · exact pk_t (iff_f (hnext fun h => c2 h.2))
    · repeat (first | refine gd_tt ?_ | refine gd_ff ?_ | refine gd_tf ?_ | refine gd_ft ?_ | refine gd_u ?_ | refine pk_t ?_ | refine pk_f ?_ | refine iff_t ?_ | refine iff_f ?_ | refine not_t ?_ | refine not_f ?_ | refine beq_s ?_ | refine bne_s ?_ | refine ncP_p ?_ | refine nc_p ?_ | refine fld_at ?_ | refine xt_02 ?_ | refine xt_12 ?_ | refine xt_03 ?_ | refine xt_13 ?_ | refine xt_23 ?_ | refine eq_t (by omega) ?_ | refine eq_f (by omega) ?_ | refine ne_t (by omega) ?_ | refine ne_f (by omega) ?_ | refine lt_t (by omega) ?_ | refine lt_f (by omega) ?_ | refine gt_t (by omega) ?_ | refine gt_f (by omega) ?_ | refine ge_t (by omega) ?_ | refine ge_f (by omega) ?_ | refine le_t (by omega) ?_ | refine le_f (by omega) ?_)
      exact hnext fun h => c1 h.1
  · have ej : j = l.length := by omega
    rw [ej, List.take_length] at hlo
    exact hno hlo
theorem isOn_onK {r x : RuleX} : isOn r.State r.Class x ↔ onK x = onK r := by
  unfold isOn onK
  simp
open Classical in
theorem ref07_Check_s {v : Value} {l : List RuleX} (i : Nat) (hi : L[i]? = some S) (hS : Sat e w L) (hr : ∀ g, S g → RdRules v l g) (hl : ∀ r ∈ l, r.Sends.length ≤ 1000000) (hk : ∀ w', Sat e w' L → K (.int .i64 (if okRules (l.map RuleX.r) then 0 else 70)) w') :
    Cl prog 166 #[v] w K := by
  refine pacelineref07_Check_calls ?_
  unfold pacelineref07_Check
  have hbad : ¬ okRules (l.map RuleX.r) → ∀ w', Sat e w' L → K (.int .i64 70) w' := fun h w' h' => by have := hk w' h'; rw [if_neg h] at this; exact this
  refine lnS_rd hS i hi (fun g hg => (hr g hg).s) ?_
  by_cases c1 : 32 < l.length
  · repeat (first | refine gd_tt ?_ | refine gd_ff ?_ | refine gd_tf ?_ | refine gd_ft ?_ | refine gd_u ?_ | refine pk_t ?_ | refine pk_f ?_ | refine iff_t ?_ | refine iff_f ?_ | refine not_t ?_ | refine not_f ?_ | refine beq_s ?_ | refine bne_s ?_ | refine ncP_p ?_ | refine nc_p ?_ | refine fld_at ?_ | refine xt_02 ?_ | refine xt_12 ?_ | refine xt_03 ?_ | refine xt_13 ?_ | refine xt_23 ?_ | refine eq_t (by omega) ?_ | refine eq_f (by omega) ?_ | refine ne_t (by omega) ?_ | refine ne_f (by omega) ?_ | refine lt_t (by omega) ?_ | refine lt_f (by omega) ?_ | refine gt_t (by omega) ?_ | refine gt_f (by omega) ?_ | refine ge_t (by omega) ?_ | refine ge_f (by omega) ?_ | refine le_t (by omega) ?_ | refine le_f (by omega) ?_)
    exact hbad (fun h => by have := h.1; rw [List.length_map] at this; omega) _ hS
  refine gt_f (by omega) (iff_f ?_)
  refine lpi1 (fun q t14 w => ∃ j : Nat, j ≤ l.length ∧ t14 = .int .i64 j ∧ q = l.length - j ∧ (∀ r ∈ l.take j, okRule r.r) ∧ ((l.take j).map onK).Nodup ∧ Sat e w L) l.length
    ⟨0, Nat.zero_le _, rfl, rfl, by simp, by simp, hS⟩ ?_
  rintro q _ w g ⟨j, hj, rfl, rfl, hall, hnd, h2⟩ hg
  refine lnS_rd h2 i hi (fun g hg => (hr g hg).s) ?_
  refine lt_c (fun c => iff_t ?_) (fun c => iff_f ?_)
  · obtain ⟨r, hrj⟩ := get_of_lt (l := l) (j := j) (by omega)
    have hrm := List.mem_of_getElem? hrj
    refine dr_s h2 fun w3 h3 => ?_
    refine ixS_rd h3 i hi (fun g hg => (hr g hg).s) (fun _ => rfl) hrj fun a ha => ?_
    refine ldN_of h3 i hi ha rfl ?_
    refine ref07_fine_s i hi h3 (fun g hg => (hr g hg).e r hrm) (hl r hrm) fun w4 h4 b hb => ?_
    refine not_d ?_
    cases b with
    | false =>
      rw [Bool.not_false]
      repeat (first | refine gd_tt ?_ | refine gd_ff ?_ | refine gd_tf ?_ | refine gd_ft ?_ | refine gd_u ?_ | refine pk_t ?_ | refine pk_f ?_ | refine iff_t ?_ | refine iff_f ?_ | refine not_t ?_ | refine not_f ?_ | refine beq_s ?_ | refine bne_s ?_ | refine ncP_p ?_ | refine nc_p ?_ | refine fld_at ?_ | refine xt_02 ?_ | refine xt_12 ?_ | refine xt_03 ?_ | refine xt_13 ?_ | refine xt_23 ?_ | refine eq_t (by omega) ?_ | refine eq_f (by omega) ?_ | refine ne_t (by omega) ?_ | refine ne_f (by omega) ?_ | refine lt_t (by omega) ?_ | refine lt_f (by omega) ?_ | refine gt_t (by omega) ?_ | refine gt_f (by omega) ?_ | refine ge_t (by omega) ?_ | refine ge_f (by omega) ?_ | refine le_t (by omega) ?_ | refine le_f (by omega) ?_)
      exact hbad (fun h => by have := hb.2 ((okRules_x.1 h).2.1 r hrm); cases this) _ h4
    | true =>
      have hok := hb.1 rfl
      rw [Bool.not_true]
      refine gd_ff (gd_ff (gd_ff (gd_ff (ixS_rd h4 i hi (fun g hg => (hr g hg).s) (fun _ => rfl) hrj fun a ha => ?_))))
      refine gd_ff (fld_of ha fun a1 ha1 => ?_)
      refine gd_ff (ld1_of h4 i hi ha1 (v := .int .i64 r.State) rfl ?_)
      refine gd_ff (gd_ff (gd_ff (ixS_rd h4 i hi (fun g hg => (hr g hg).s) (fun _ => rfl) hrj fun a ha => ?_)))
      refine gd_ff (fld_of ha fun a1 ha1 => ?_)
      refine gd_ff (ld1_of h4 i hi ha1 (v := .int .i64 r.Class) rfl ?_)
      refine gd_ff (gd_ff ?_)
      refine ref07_Find_s i hi h4 (fun g hg => (hr g hg).s) (by omega) (fun h => absurd (⟨rfl, rfl⟩ : isOn r.State r.Class r) (h r hrm)) (fun n y hy hon hlo => ?_)
      refine gd_ff (ne_c (fun c2 => ?_) (fun c2 => ?_))
      · refine pk_f (iff_t (hbad (fun h => ?_) _ h4))
        have hnj : n < j := by
          rcases Nat.lt_or_ge n j with h | h
          · exact h
          · have hne : j < n := by omega
            refine absurd (⟨rfl, rfl⟩ : isOn r.State r.Class r) (hlo r ?_)
            refine List.mem_of_getElem? (i := j) ?_
            rw [List.getElem?_take_of_lt hne]
            exact hrj
        refine nodup_at (okRules_x.1 h).2.2 hrj ?_
        rw [← isOn_onK.1 hon]
        refine List.mem_map_of_mem (List.mem_of_getElem? (i := n) ?_)
        rw [List.getElem?_take_of_lt hnj]
        exact hy
      · refine pk_f (iff_f (inc_s (by omega) ?_))
        have e1 : n = j := by omega
        subst e1
        refine hg _ _ _ (by omega) ⟨n + 1, by omega, rfl, rfl, fun x hx => ?_, nodup_take hnd hrj fun hm => ?_, h4⟩
        · rw [List.take_add_one, hrj] at hx
          rcases List.mem_append.1 hx with h | h
          · exact hall x h
          · simp at h
            subst h
            exact hok
        · obtain ⟨x, hx, he⟩ := List.mem_map.1 hm
          exact hlo x hx (isOn_onK.2 he)
  · have ej : j = l.length := by omega
    rw [ej, List.take_length] at hall hnd
    have := hk _ h2
    rw [if_pos (okRules_x.2 ⟨by omega, hall, hnd⟩)] at this
    exact this
theorem rising_lo {most : Int} : ∀ {l : List Int} {lo : Int}, rising most lo l → ∀ c ∈ l, lo < c
  | [], _, _, c, hc => by cases hc
  | a :: l, lo, h, c, hc => by
    obtain ⟨h1, h2, h3⟩ := h
    rcases List.mem_cons.1 hc with rfl | hc
    · exact h1
    · have := rising_lo h3 c hc
      omega
open Classical in
theorem classes_s {v : Value} {l : List Int} {most : Int} (i : Nat) (hi : L[i]? = some S) (hS : Sat e w L) (hr : ∀ g, S g → rdS 1 (intsK .i64) v l g) (hl : l.length ≤ 1000) (hk : ∀ w', Sat e w' L → K (.bool (decide (rising most (-1) l))) w') :
    Cl prog 167 #[v, .int .i64 most] w K := by
  refine pacelineref08_classes_calls ?_
  unfold pacelineref08_classes
  have hbad : ¬ rising most (-1) l → ∀ w', Sat e w' L → K (.bool false) w' := fun h w' h' => by have := hk w' h'; rw [decide_eq_false h] at this; exact this
  refine lpi1 (fun q t w => ∃ j : Nat, j ≤ l.length ∧ t = .int .i64 j ∧ q = l.length - j ∧ (∀ (i : Nat) c, i < j → l[i]? = some c → (if i = 0 then -1 else l.getD (i - 1) 0) < c ∧ c < most) ∧ Sat e w L) l.length ⟨0, Nat.zero_le _, rfl, rfl, fun _ _ h => absurd h (by omega), hS⟩ ?_
  rintro q _ w g ⟨j, hj, rfl, rfl, hno, h1⟩ hg
  refine lnS_rd h1 i hi hr ?_
  refine lt_c (fun c => iff_t ?_) (fun c => iff_f ?_)
  · obtain ⟨y, hy⟩ := get_of_lt (l := l) (j := j) (by omega)
    have hym := List.mem_of_getElem? hy
    refine dr_s h1 fun w2 h2 => ?_
    refine ixS_rd h2 i hi hr (fun _ => rfl) hy fun a ha => ?_
    refine ld1_of h2 i hi ha (v := .int .i64 y) rfl ?_
    by_cases c1 : y < 0
    · repeat (first | refine gd_tt ?_ | refine gd_ff ?_ | refine gd_tf ?_ | refine gd_ft ?_ | refine gd_u ?_ | refine pk_t ?_ | refine pk_f ?_ | refine iff_t ?_ | refine iff_f ?_ | refine not_t ?_ | refine not_f ?_ | refine beq_s ?_ | refine bne_s ?_ | refine ncP_p ?_ | refine nc_p ?_ | refine fld_at ?_ | refine xt_02 ?_ | refine xt_12 ?_ | refine xt_03 ?_ | refine xt_13 ?_ | refine xt_23 ?_ | refine eq_t (by omega) ?_ | refine eq_f (by omega) ?_ | refine ne_t (by omega) ?_ | refine ne_f (by omega) ?_ | refine lt_t (by omega) ?_ | refine lt_f (by omega) ?_ | refine gt_t (by omega) ?_ | refine gt_f (by omega) ?_ | refine ge_t (by omega) ?_ | refine ge_f (by omega) ?_ | refine le_t (by omega) ?_ | refine le_f (by omega) ?_)
      refine hbad (fun h => ?_) _ h2
      have := rising_lo h y hym
      omega
    refine lt_f c1 ?_
    refine gd_ff (gd_ff (gd_ff (ixS_rd h2 i hi hr (fun _ => rfl) hy fun a ha => ?_)))
    refine gd_ff (ld1_of h2 i hi ha (v := .int .i64 y) rfl ?_)
    by_cases c2 : most ≤ y
    · repeat (first | refine gd_tt ?_ | refine gd_ff ?_ | refine gd_tf ?_ | refine gd_ft ?_ | refine gd_u ?_ | refine pk_t ?_ | refine pk_f ?_ | refine iff_t ?_ | refine iff_f ?_ | refine not_t ?_ | refine not_f ?_ | refine beq_s ?_ | refine bne_s ?_ | refine ncP_p ?_ | refine nc_p ?_ | refine fld_at ?_ | refine xt_02 ?_ | refine xt_12 ?_ | refine xt_03 ?_ | refine xt_13 ?_ | refine xt_23 ?_ | refine eq_t (by omega) ?_ | refine eq_f (by omega) ?_ | refine ne_t (by omega) ?_ | refine ne_f (by omega) ?_ | refine lt_t (by omega) ?_ | refine lt_f (by omega) ?_ | refine gt_t (by omega) ?_ | refine gt_f (by omega) ?_ | refine ge_t (by omega) ?_ | refine ge_f (by omega) ?_ | refine le_t (by omega) ?_ | refine le_f (by omega) ?_)
      refine hbad (fun h => ?_) _ h2
      have := (rising_drop.1 h j y hy).2
      omega
    refine gd_ff (gd_ff (ge_f (by omega) (pk_f ?_)))
    have hnext : (if j = 0 then (-1 : Int) else l.getD (j - 1) 0) < y → ∀ w', Sat e w' L → bi .add .i64 (.int .i64 j) (.int .i64 1) w' fun t11 w => g [t11] w := by
      intro hlt w' h'
      refine inc_s (by omega) ?_
      refine hg _ _ _ (by omega) ⟨j + 1, by omega, rfl, rfl, fun i c hi hc => ?_, h'⟩
      by_cases h : i = j
      · subst h
        rw [hy] at hc
        cases hc
        exact ⟨hlt, by omega⟩
      · exact hno i c (by omega) hc
    by_cases c3 : j = 0
    · subst c3
      repeat (first | refine gd_tt ?_ | refine gd_ff ?_ | refine gd_tf ?_ | refine gd_ft ?_ | refine gd_u ?_ | refine pk_t ?_ | refine pk_f ?_ | refine iff_t ?_ | refine iff_f ?_ | refine not_t ?_ | refine not_f ?_ | refine beq_s ?_ | refine bne_s ?_ | refine ncP_p ?_ | refine nc_p ?_ | refine fld_at ?_ | refine xt_02 ?_ | refine xt_12 ?_ | refine xt_03 ?_ | refine xt_13 ?_ | refine xt_23 ?_ | refine eq_t (by omega) ?_ | refine eq_f (by omega) ?_ | refine ne_t (by omega) ?_ | refine ne_f (by omega) ?_ | refine lt_t (by omega) ?_ | refine lt_f (by omega) ?_ | refine gt_t (by omega) ?_ | refine gt_f (by omega) ?_ | refine ge_t (by omega) ?_ | refine ge_f (by omega) ?_ | refine le_t (by omega) ?_ | refine le_f (by omega) ?_)
      exact hnext (by rw [if_pos rfl]; omega) _ h2
    · refine gd_ff (gd_ff (gt_t (by omega) (gd_ff ?_)))
      obtain ⟨z, hz⟩ := get_of_lt (l := l) (j := j - 1) (by omega)
      refine gd_tt (gd_tt (gd_tt (ixS_rd h2 i hi hr (fun _ => rfl) hy fun a ha => ?_)))
      refine gd_tt (ld1_of h2 i hi ha (v := .int .i64 y) rfl ?_)
      refine gd_tt (gd_tt (gd_tt (sub_s (by omega) (by omega) ?_)))
      rw [show (j : Int) - 1 = ((j - 1 : Nat) : Int) from by omega]
      refine gd_tt (ixS_rd h2 i hi hr (fun _ => rfl) hz fun a ha => ?_)
      refine gd_tt (ld1_of h2 i hi ha (v := .int .i64 z) rfl ?_)
      have hzz : l.getD (j - 1) 0 = z := by rw [List.getD_eq_getElem?_getD, hz]; rfl
      refine gd_tt (le_c (fun c4 => ?_) (fun c4 => ?_))
      · repeat (first | refine gd_tt ?_ | refine gd_ff ?_ | refine gd_tf ?_ | refine gd_ft ?_ | refine gd_u ?_ | refine pk_t ?_ | refine pk_f ?_ | refine iff_t ?_ | refine iff_f ?_ | refine not_t ?_ | refine not_f ?_ | refine beq_s ?_ | refine bne_s ?_ | refine ncP_p ?_ | refine nc_p ?_ | refine fld_at ?_ | refine xt_02 ?_ | refine xt_12 ?_ | refine xt_03 ?_ | refine xt_13 ?_ | refine xt_23 ?_ | refine eq_t (by omega) ?_ | refine eq_f (by omega) ?_ | refine ne_t (by omega) ?_ | refine ne_f (by omega) ?_ | refine lt_t (by omega) ?_ | refine lt_f (by omega) ?_ | refine gt_t (by omega) ?_ | refine gt_f (by omega) ?_ | refine ge_t (by omega) ?_ | refine ge_f (by omega) ?_ | refine le_t (by omega) ?_ | refine le_f (by omega) ?_)
        refine hbad (fun h => ?_) _ h2
        have := (rising_drop.1 h j y hy).1
        rw [if_neg c3, hzz] at this
        omega
      · repeat (first | refine gd_tt ?_ | refine gd_ff ?_ | refine gd_tf ?_ | refine gd_ft ?_ | refine gd_u ?_ | refine pk_t ?_ | refine pk_f ?_ | refine iff_t ?_ | refine iff_f ?_ | refine not_t ?_ | refine not_f ?_ | refine beq_s ?_ | refine bne_s ?_ | refine ncP_p ?_ | refine nc_p ?_ | refine fld_at ?_ | refine xt_02 ?_ | refine xt_12 ?_ | refine xt_03 ?_ | refine xt_13 ?_ | refine xt_23 ?_ | refine eq_t (by omega) ?_ | refine eq_f (by omega) ?_ | refine ne_t (by omega) ?_ | refine ne_f (by omega) ?_ | refine lt_t (by omega) ?_ | refine lt_f (by omega) ?_ | refine gt_t (by omega) ?_ | refine gt_f (by omega) ?_ | refine ge_t (by omega) ?_ | refine ge_f (by omega) ?_ | refine le_t (by omega) ?_ | refine le_f (by omega) ?_)
        exact hnext (by rw [if_neg c3, hzz]; omega) _ h2
  · have ej : j = l.length := by omega
    have := hk _ h1
    rw [decide_eq_true (rising_drop.2 fun i c hc => hno i c (by have := (List.getElem?_eq_some_iff.1 hc).1; omega) hc)] at this
    exact this
end Go.Proofs.YtbopajpmadlmhaaGreat
namespace Go.Proofs.YtbopajpmadlmhaaGreat
open Go Go.E
set_option maxRecDepth 100000
variable {e w : World} {L R : List HP} {K : KV} {S : HP}

open Classical in
theorem fedE_chain (f : Fed) (most : Int) : fedE f most = if ¬ (0 ≤ f.Kind ∧ f.Kind ≤ 1) then 1 else if ¬ (1 ≤ f.Look ∧ f.Look ≤ 1048576) then 80 else if ¬ (0 ≤ f.Start ∧ f.Start ≤ 7) then 70 else if ¬ okRules f.Rules then 70
    else if ¬ (rising most (-1) f.Pubs ∧ rising most (-1) f.Subs) then 81 else if rulesE f most f.Rules ≠ 0 then rulesE f most f.Rules else if ¬ okInit f then 82 else 0 := by
  unfold fedE fedEs
  simp only [firstE_cons, firstE_nil]
  by_cases p1 : 0 ≤ f.Kind ∧ f.Kind ≤ 1
  case neg => simp [p1]
  by_cases p2 : 1 ≤ f.Look ∧ f.Look ≤ 1048576
  case neg => simp [p1, p2]
  by_cases p3 : 0 ≤ f.Start ∧ f.Start ≤ 7
  case neg => simp [p1, p2, p3]
  by_cases p4 : okRules f.Rules
  case neg => simp [p1, p2, p3, p4]
  by_cases p5 : rising most (-1) f.Pubs ∧ rising most (-1) f.Subs
  case neg => simp [p1, p2, p3, p4, p5]
  by_cases p6 : rulesE f most f.Rules = 0
  case neg => simp [p1, p2, p3, p4, p5, p6]
  by_cases p7 : okInit f <;> simp [p1, p2, p3, p4, p5, p6, p7]
open Classical in
theorem ref08_Fed_s {f : FedX} {most : Int} (i : Nat) (hi : L[i]? = some S) (hS : Sat e w L) (hr : ∀ g, S g → RdFed f g) (hs : f.short)
    (hk : ∀ w', Sat e w' L → K (.int .i64 (fedE f.f most)) w') : Cl prog 129 #[.agg f.cs.toArray, .int .i64 most] w K := by
  refine pacelineref08_Fed_calls ?_
  unfold pacelineref08_Fed
  refine al_s (cs := f.cs) hS rfl fun b w1 h1 => ?_
  have hi1 : (blk b 66 f.cs :: L)[i + 1]? = some S := by simpa using hi
  rw [fedE_chain] at hk
  refine fld_at (ld1_at h1 0 rfl (v := .int .i64 f.Kind) rfl ?_)
  have hmid : ∀ K : KV, K (.bool (decide (¬ (0 ≤ f.Kind ∧ f.Kind ≤ 1)))) w1 → bi .neq .i64 (.int .i64 f.Kind) (.int .i64 0) w1 fun t12 w =>
      gd t12 true (fun k => fld 0 (.pointer (some ⟨b, 0, none⟩)) w k) w fun t14 w =>
      gd t12 true (fun k => ld1 t14 w k) w fun t15 w =>
      gd t12 true (fun k => bi .neq .i64 t15 (.int .i64 1) w k) w fun t16 w =>
      pk t12 t16 (.bool false) w K := by
    intro K hK
    by_cases q : f.Kind = 0
    · rw [decide_eq_false (by omega)] at hK
      repeat (first | refine gd_tt ?_ | refine gd_ff ?_ | refine gd_tf ?_ | refine gd_ft ?_ | refine gd_u ?_ | refine pk_t ?_ | refine pk_f ?_ | refine iff_t ?_ | refine iff_f ?_ | refine not_t ?_ | refine not_f ?_ | refine beq_s ?_ | refine bne_s ?_ | refine ncP_p ?_ | refine nc_p ?_ | refine fld_at ?_ | refine xt_02 ?_ | refine xt_12 ?_ | refine xt_03 ?_ | refine xt_13 ?_ | refine xt_23 ?_ | refine eq_t (by omega) ?_ | refine eq_f (by omega) ?_ | refine ne_t (by omega) ?_ | refine ne_f (by omega) ?_ | refine lt_t (by omega) ?_ | refine lt_f (by omega) ?_ | refine gt_t (by omega) ?_ | refine gt_f (by omega) ?_ | refine ge_t (by omega) ?_ | refine ge_f (by omega) ?_ | refine le_t (by omega) ?_ | refine le_f (by omega) ?_)
      exact hK
    · repeat (first | refine gd_tt ?_ | refine gd_ff ?_ | refine gd_tf ?_ | refine gd_ft ?_ | refine gd_u ?_ | refine pk_t ?_ | refine pk_f ?_ | refine iff_t ?_ | refine iff_f ?_ | refine not_t ?_ | refine not_f ?_ | refine beq_s ?_ | refine bne_s ?_ | refine ncP_p ?_ | refine nc_p ?_ | refine fld_at ?_ | refine xt_02 ?_ | refine xt_12 ?_ | refine xt_03 ?_ | refine xt_13 ?_ | refine xt_23 ?_ | refine eq_t (by omega) ?_ | refine eq_f (by omega) ?_ | refine ne_t (by omega) ?_ | refine ne_f (by omega) ?_ | refine lt_t (by omega) ?_ | refine lt_f (by omega) ?_ | refine gt_t (by omega) ?_ | refine gt_f (by omega) ?_ | refine ge_t (by omega) ?_ | refine ge_f (by omega) ?_ | refine le_t (by omega) ?_ | refine le_f (by omega) ?_)
      refine ld1_at h1 0 rfl (v := .int .i64 f.Kind) rfl ?_
      by_cases q2 : f.Kind = 1
      · rw [decide_eq_false (by omega)] at hK
        repeat (first | refine gd_tt ?_ | refine gd_ff ?_ | refine gd_tf ?_ | refine gd_ft ?_ | refine gd_u ?_ | refine pk_t ?_ | refine pk_f ?_ | refine iff_t ?_ | refine iff_f ?_ | refine not_t ?_ | refine not_f ?_ | refine beq_s ?_ | refine bne_s ?_ | refine ncP_p ?_ | refine nc_p ?_ | refine fld_at ?_ | refine xt_02 ?_ | refine xt_12 ?_ | refine xt_03 ?_ | refine xt_13 ?_ | refine xt_23 ?_ | refine eq_t (by omega) ?_ | refine eq_f (by omega) ?_ | refine ne_t (by omega) ?_ | refine ne_f (by omega) ?_ | refine lt_t (by omega) ?_ | refine lt_f (by omega) ?_ | refine gt_t (by omega) ?_ | refine gt_f (by omega) ?_ | refine ge_t (by omega) ?_ | refine ge_f (by omega) ?_ | refine le_t (by omega) ?_ | refine le_f (by omega) ?_)
        exact hK
      · rw [decide_eq_true (by omega)] at hK
        repeat (first | refine gd_tt ?_ | refine gd_ff ?_ | refine gd_tf ?_ | refine gd_ft ?_ | refine gd_u ?_ | refine pk_t ?_ | refine pk_f ?_ | refine iff_t ?_ | refine iff_f ?_ | refine not_t ?_ | refine not_f ?_ | refine beq_s ?_ | refine bne_s ?_ | refine ncP_p ?_ | refine nc_p ?_ | refine fld_at ?_ | refine xt_02 ?_ | refine xt_12 ?_ | refine xt_03 ?_ | refine xt_13 ?_ | refine xt_23 ?_ | refine eq_t (by omega) ?_ | refine eq_f (by omega) ?_ | refine ne_t (by omega) ?_ | refine ne_f (by omega) ?_ | refine lt_t (by omega) ?_ | refine lt_f (by omega) ?_ | refine gt_t (by omega) ?_ | refine gt_f (by omega) ?_ | refine ge_t (by omega) ?_ | refine ge_f (by omega) ?_ | refine le_t (by omega) ?_ | refine le_f (by omega) ?_)
        exact hK
  refine hmid _ ?_
  clear hmid
  by_cases p1 : 0 ≤ f.Kind ∧ f.Kind ≤ 1
  case neg =>
    rw [if_pos (show ¬ (0 ≤ f.f.Kind ∧ f.f.Kind ≤ 1) from p1)] at hk
    rw [decide_eq_true p1]
    exact iff_t (hk _ h1.drop)
  rw [if_neg (show ¬ ¬ (0 ≤ f.f.Kind ∧ f.f.Kind ≤ 1) from fun h => h p1)] at hk
  rw [decide_eq_false fun h => h p1]
  refine iff_f (fld_at (ld1_at h1 0 rfl (v := .int .i64 f.Look) rfl ?_))
  by_cases p2 : 1 ≤ f.Look ∧ f.Look ≤ 1048576
  case neg =>
    rw [if_pos (show ¬ (1 ≤ f.f.Look ∧ f.f.Look ≤ 1048576) from p2)] at hk
    by_cases q : f.Look < 1
    · repeat (first | refine gd_tt ?_ | refine gd_ff ?_ | refine gd_tf ?_ | refine gd_ft ?_ | refine gd_u ?_ | refine pk_t ?_ | refine pk_f ?_ | refine iff_t ?_ | refine iff_f ?_ | refine not_t ?_ | refine not_f ?_ | refine beq_s ?_ | refine bne_s ?_ | refine ncP_p ?_ | refine nc_p ?_ | refine fld_at ?_ | refine xt_02 ?_ | refine xt_12 ?_ | refine xt_03 ?_ | refine xt_13 ?_ | refine xt_23 ?_ | refine eq_t (by omega) ?_ | refine eq_f (by omega) ?_ | refine ne_t (by omega) ?_ | refine ne_f (by omega) ?_ | refine lt_t (by omega) ?_ | refine lt_f (by omega) ?_ | refine gt_t (by omega) ?_ | refine gt_f (by omega) ?_ | refine ge_t (by omega) ?_ | refine ge_f (by omega) ?_ | refine le_t (by omega) ?_ | refine le_f (by omega) ?_)
      exact hk _ h1.drop
    · repeat (first | refine gd_tt ?_ | refine gd_ff ?_ | refine gd_tf ?_ | refine gd_ft ?_ | refine gd_u ?_ | refine pk_t ?_ | refine pk_f ?_ | refine iff_t ?_ | refine iff_f ?_ | refine not_t ?_ | refine not_f ?_ | refine beq_s ?_ | refine bne_s ?_ | refine ncP_p ?_ | refine nc_p ?_ | refine fld_at ?_ | refine xt_02 ?_ | refine xt_12 ?_ | refine xt_03 ?_ | refine xt_13 ?_ | refine xt_23 ?_ | refine eq_t (by omega) ?_ | refine eq_f (by omega) ?_ | refine ne_t (by omega) ?_ | refine ne_f (by omega) ?_ | refine lt_t (by omega) ?_ | refine lt_f (by omega) ?_ | refine gt_t (by omega) ?_ | refine gt_f (by omega) ?_ | refine ge_t (by omega) ?_ | refine ge_f (by omega) ?_ | refine le_t (by omega) ?_ | refine le_f (by omega) ?_)
      refine ld1_at h1 0 rfl (v := .int .i64 f.Look) rfl ?_
      repeat (first | refine gd_tt ?_ | refine gd_ff ?_ | refine gd_tf ?_ | refine gd_ft ?_ | refine gd_u ?_ | refine pk_t ?_ | refine pk_f ?_ | refine iff_t ?_ | refine iff_f ?_ | refine not_t ?_ | refine not_f ?_ | refine beq_s ?_ | refine bne_s ?_ | refine ncP_p ?_ | refine nc_p ?_ | refine fld_at ?_ | refine xt_02 ?_ | refine xt_12 ?_ | refine xt_03 ?_ | refine xt_13 ?_ | refine xt_23 ?_ | refine eq_t (by omega) ?_ | refine eq_f (by omega) ?_ | refine ne_t (by omega) ?_ | refine ne_f (by omega) ?_ | refine lt_t (by omega) ?_ | refine lt_f (by omega) ?_ | refine gt_t (by omega) ?_ | refine gt_f (by omega) ?_ | refine ge_t (by omega) ?_ | refine ge_f (by omega) ?_ | refine le_t (by omega) ?_ | refine le_f (by omega) ?_)
      exact hk _ h1.drop
  rw [if_neg (show ¬ ¬ (1 ≤ f.f.Look ∧ f.f.Look ≤ 1048576) from fun h => h p2)] at hk
  repeat (first | refine gd_tt ?_ | refine gd_ff ?_ | refine gd_tf ?_ | refine gd_ft ?_ | refine gd_u ?_ | refine pk_t ?_ | refine pk_f ?_ | refine iff_t ?_ | refine iff_f ?_ | refine not_t ?_ | refine not_f ?_ | refine beq_s ?_ | refine bne_s ?_ | refine ncP_p ?_ | refine nc_p ?_ | refine fld_at ?_ | refine xt_02 ?_ | refine xt_12 ?_ | refine xt_03 ?_ | refine xt_13 ?_ | refine xt_23 ?_ | refine eq_t (by omega) ?_ | refine eq_f (by omega) ?_ | refine ne_t (by omega) ?_ | refine ne_f (by omega) ?_ | refine lt_t (by omega) ?_ | refine lt_f (by omega) ?_ | refine gt_t (by omega) ?_ | refine gt_f (by omega) ?_ | refine ge_t (by omega) ?_ | refine ge_f (by omega) ?_ | refine le_t (by omega) ?_ | refine le_f (by omega) ?_)
  refine ld1_at h1 0 rfl (v := .int .i64 f.Look) rfl ?_
  repeat (first | refine gd_tt ?_ | refine gd_ff ?_ | refine gd_tf ?_ | refine gd_ft ?_ | refine gd_u ?_ | refine pk_t ?_ | refine pk_f ?_ | refine iff_t ?_ | refine iff_f ?_ | refine not_t ?_ | refine not_f ?_ | refine beq_s ?_ | refine bne_s ?_ | refine ncP_p ?_ | refine nc_p ?_ | refine fld_at ?_ | refine xt_02 ?_ | refine xt_12 ?_ | refine xt_03 ?_ | refine xt_13 ?_ | refine xt_23 ?_ | refine eq_t (by omega) ?_ | refine eq_f (by omega) ?_ | refine ne_t (by omega) ?_ | refine ne_f (by omega) ?_ | refine lt_t (by omega) ?_ | refine lt_f (by omega) ?_ | refine gt_t (by omega) ?_ | refine gt_f (by omega) ?_ | refine ge_t (by omega) ?_ | refine ge_f (by omega) ?_ | refine le_t (by omega) ?_ | refine le_f (by omega) ?_)
  refine ld1_at h1 0 rfl (v := .int .i64 f.Start) rfl ?_
  by_cases p3 : 0 ≤ f.Start ∧ f.Start ≤ 7
  case neg =>
    rw [if_pos (show ¬ (0 ≤ f.f.Start ∧ f.f.Start ≤ 7) from p3)] at hk
    by_cases q : f.Start < 0
    · repeat (first | refine gd_tt ?_ | refine gd_ff ?_ | refine gd_tf ?_ | refine gd_ft ?_ | refine gd_u ?_ | refine pk_t ?_ | refine pk_f ?_ | refine iff_t ?_ | refine iff_f ?_ | refine not_t ?_ | refine not_f ?_ | refine beq_s ?_ | refine bne_s ?_ | refine ncP_p ?_ | refine nc_p ?_ | refine fld_at ?_ | refine xt_02 ?_ | refine xt_12 ?_ | refine xt_03 ?_ | refine xt_13 ?_ | refine xt_23 ?_ | refine eq_t (by omega) ?_ | refine eq_f (by omega) ?_ | refine ne_t (by omega) ?_ | refine ne_f (by omega) ?_ | refine lt_t (by omega) ?_ | refine lt_f (by omega) ?_ | refine gt_t (by omega) ?_ | refine gt_f (by omega) ?_ | refine ge_t (by omega) ?_ | refine ge_f (by omega) ?_ | refine le_t (by omega) ?_ | refine le_f (by omega) ?_)
      exact hk _ h1.drop
    · repeat (first | refine gd_tt ?_ | refine gd_ff ?_ | refine gd_tf ?_ | refine gd_ft ?_ | refine gd_u ?_ | refine pk_t ?_ | refine pk_f ?_ | refine iff_t ?_ | refine iff_f ?_ | refine not_t ?_ | refine not_f ?_ | refine beq_s ?_ | refine bne_s ?_ | refine ncP_p ?_ | refine nc_p ?_ | refine fld_at ?_ | refine xt_02 ?_ | refine xt_12 ?_ | refine xt_03 ?_ | refine xt_13 ?_ | refine xt_23 ?_ | refine eq_t (by omega) ?_ | refine eq_f (by omega) ?_ | refine ne_t (by omega) ?_ | refine ne_f (by omega) ?_ | refine lt_t (by omega) ?_ | refine lt_f (by omega) ?_ | refine gt_t (by omega) ?_ | refine gt_f (by omega) ?_ | refine ge_t (by omega) ?_ | refine ge_f (by omega) ?_ | refine le_t (by omega) ?_ | refine le_f (by omega) ?_)
      refine ld1_at h1 0 rfl (v := .int .i64 f.Start) rfl ?_
      repeat (first | refine gd_tt ?_ | refine gd_ff ?_ | refine gd_tf ?_ | refine gd_ft ?_ | refine gd_u ?_ | refine pk_t ?_ | refine pk_f ?_ | refine iff_t ?_ | refine iff_f ?_ | refine not_t ?_ | refine not_f ?_ | refine beq_s ?_ | refine bne_s ?_ | refine ncP_p ?_ | refine nc_p ?_ | refine fld_at ?_ | refine xt_02 ?_ | refine xt_12 ?_ | refine xt_03 ?_ | refine xt_13 ?_ | refine xt_23 ?_ | refine eq_t (by omega) ?_ | refine eq_f (by omega) ?_ | refine ne_t (by omega) ?_ | refine ne_f (by omega) ?_ | refine lt_t (by omega) ?_ | refine lt_f (by omega) ?_ | refine gt_t (by omega) ?_ | refine gt_f (by omega) ?_ | refine ge_t (by omega) ?_ | refine ge_f (by omega) ?_ | refine le_t (by omega) ?_ | refine le_f (by omega) ?_)
      exact hk _ h1.drop
  rw [if_neg (show ¬ ¬ (0 ≤ f.f.Start ∧ f.f.Start ≤ 7) from fun h => h p3)] at hk
  repeat (first | refine gd_tt ?_ | refine gd_ff ?_ | refine gd_tf ?_ | refine gd_ft ?_ | refine gd_u ?_ | refine pk_t ?_ | refine pk_f ?_ | refine iff_t ?_ | refine iff_f ?_ | refine not_t ?_ | refine not_f ?_ | refine beq_s ?_ | refine bne_s ?_ | refine ncP_p ?_ | refine nc_p ?_ | refine fld_at ?_ | refine xt_02 ?_ | refine xt_12 ?_ | refine xt_03 ?_ | refine xt_13 ?_ | refine xt_23 ?_ | refine eq_t (by omega) ?_ | refine eq_f (by omega) ?_ | refine ne_t (by omega) ?_ | refine ne_f (by omega) ?_ | refine lt_t (by omega) ?_ | refine lt_f (by omega) ?_ | refine gt_t (by omega) ?_ | refine gt_f (by omega) ?_ | refine ge_t (by omega) ?_ | refine ge_f (by omega) ?_ | refine le_t (by omega) ?_ | refine le_f (by omega) ?_)
  refine ld1_at h1 0 rfl (v := .int .i64 f.Start) rfl ?_
  repeat (first | refine gd_tt ?_ | refine gd_ff ?_ | refine gd_tf ?_ | refine gd_ft ?_ | refine gd_u ?_ | refine pk_t ?_ | refine pk_f ?_ | refine iff_t ?_ | refine iff_f ?_ | refine not_t ?_ | refine not_f ?_ | refine beq_s ?_ | refine bne_s ?_ | refine ncP_p ?_ | refine nc_p ?_ | refine fld_at ?_ | refine xt_02 ?_ | refine xt_12 ?_ | refine xt_03 ?_ | refine xt_13 ?_ | refine xt_23 ?_ | refine eq_t (by omega) ?_ | refine eq_f (by omega) ?_ | refine ne_t (by omega) ?_ | refine ne_f (by omega) ?_ | refine lt_t (by omega) ?_ | refine lt_f (by omega) ?_ | refine gt_t (by omega) ?_ | refine gt_f (by omega) ?_ | refine ge_t (by omega) ?_ | refine ge_f (by omega) ?_ | refine le_t (by omega) ?_ | refine le_f (by omega) ?_)
  refine ld1_at h1 0 rfl (v := f.rv) rfl ?_
  refine gd_ff (ref07_Check_s (i + 1) hi1 h1 (fun g hg => (hr g hg).rules) (fun r hr => by have := hs.sends r hr; omega) fun w2 h2 => ?_)
  by_cases p4 : okRules (f.Rules.map RuleX.r)
  case neg =>
    rw [if_pos (show ¬ okRules f.f.Rules from p4)] at hk
    rw [if_neg p4]
    repeat (first | refine gd_tt ?_ | refine gd_ff ?_ | refine gd_tf ?_ | refine gd_ft ?_ | refine gd_u ?_ | refine pk_t ?_ | refine pk_f ?_ | refine iff_t ?_ | refine iff_f ?_ | refine not_t ?_ | refine not_f ?_ | refine beq_s ?_ | refine bne_s ?_ | refine ncP_p ?_ | refine nc_p ?_ | refine fld_at ?_ | refine xt_02 ?_ | refine xt_12 ?_ | refine xt_03 ?_ | refine xt_13 ?_ | refine xt_23 ?_ | refine eq_t (by omega) ?_ | refine eq_f (by omega) ?_ | refine ne_t (by omega) ?_ | refine ne_f (by omega) ?_ | refine lt_t (by omega) ?_ | refine lt_f (by omega) ?_ | refine gt_t (by omega) ?_ | refine gt_f (by omega) ?_ | refine ge_t (by omega) ?_ | refine ge_f (by omega) ?_ | refine le_t (by omega) ?_ | refine le_f (by omega) ?_)
    exact hk _ h2.drop
  rw [if_neg (show ¬ ¬ okRules f.f.Rules from fun h => h p4)] at hk
  rw [if_pos p4]
  repeat (first | refine gd_tt ?_ | refine gd_ff ?_ | refine gd_tf ?_ | refine gd_ft ?_ | refine gd_u ?_ | refine pk_t ?_ | refine pk_f ?_ | refine iff_t ?_ | refine iff_f ?_ | refine not_t ?_ | refine not_f ?_ | refine beq_s ?_ | refine bne_s ?_ | refine ncP_p ?_ | refine nc_p ?_ | refine fld_at ?_ | refine xt_02 ?_ | refine xt_12 ?_ | refine xt_03 ?_ | refine xt_13 ?_ | refine xt_23 ?_ | refine eq_t (by omega) ?_ | refine eq_f (by omega) ?_ | refine ne_t (by omega) ?_ | refine ne_f (by omega) ?_ | refine lt_t (by omega) ?_ | refine lt_f (by omega) ?_ | refine gt_t (by omega) ?_ | refine gt_f (by omega) ?_ | refine ge_t (by omega) ?_ | refine ge_f (by omega) ?_ | refine le_t (by omega) ?_ | refine le_f (by omega) ?_)
  refine ld1_at h2 0 rfl (v := f.pv) rfl ?_
  refine classes_s (i + 1) hi1 h2 (fun g hg => (hr g hg).pubs) hs.pubs fun w3 h3 => ?_
  refine not_d ?_
  by_cases p5 : rising most (-1) f.Pubs ∧ rising most (-1) f.Subs
  case neg =>
    rw [if_pos (show ¬ (rising most (-1) f.f.Pubs ∧ rising most (-1) f.f.Subs) from p5)] at hk
    by_cases q : rising most (-1) f.Pubs
    · rw [decide_eq_true q, Bool.not_true]
      repeat (first | refine gd_tt ?_ | refine gd_ff ?_ | refine gd_tf ?_ | refine gd_ft ?_ | refine gd_u ?_ | refine pk_t ?_ | refine pk_f ?_ | refine iff_t ?_ | refine iff_f ?_ | refine not_t ?_ | refine not_f ?_ | refine beq_s ?_ | refine bne_s ?_ | refine ncP_p ?_ | refine nc_p ?_ | refine fld_at ?_ | refine xt_02 ?_ | refine xt_12 ?_ | refine xt_03 ?_ | refine xt_13 ?_ | refine xt_23 ?_ | refine eq_t (by omega) ?_ | refine eq_f (by omega) ?_ | refine ne_t (by omega) ?_ | refine ne_f (by omega) ?_ | refine lt_t (by omega) ?_ | refine lt_f (by omega) ?_ | refine gt_t (by omega) ?_ | refine gt_f (by omega) ?_ | refine ge_t (by omega) ?_ | refine ge_f (by omega) ?_ | refine le_t (by omega) ?_ | refine le_f (by omega) ?_)
      refine ld1_at h3 0 rfl (v := f.sv) rfl ?_
      refine gd_ff (gd_ff (classes_s (i + 1) hi1 h3 (fun g hg => (hr g hg).subs) hs.subs fun w4 h4 => ?_))
      rw [decide_eq_false fun h => p5 ⟨q, h⟩]
      repeat (first | refine gd_tt ?_ | refine gd_ff ?_ | refine gd_tf ?_ | refine gd_ft ?_ | refine gd_u ?_ | refine pk_t ?_ | refine pk_f ?_ | refine iff_t ?_ | refine iff_f ?_ | refine not_t ?_ | refine not_f ?_ | refine beq_s ?_ | refine bne_s ?_ | refine ncP_p ?_ | refine nc_p ?_ | refine fld_at ?_ | refine xt_02 ?_ | refine xt_12 ?_ | refine xt_03 ?_ | refine xt_13 ?_ | refine xt_23 ?_ | refine eq_t (by omega) ?_ | refine eq_f (by omega) ?_ | refine ne_t (by omega) ?_ | refine ne_f (by omega) ?_ | refine lt_t (by omega) ?_ | refine lt_f (by omega) ?_ | refine gt_t (by omega) ?_ | refine gt_f (by omega) ?_ | refine ge_t (by omega) ?_ | refine ge_f (by omega) ?_ | refine le_t (by omega) ?_ | refine le_f (by omega) ?_)
      exact hk _ h4.drop
    · rw [decide_eq_false q, Bool.not_false]
      repeat (first | refine gd_tt ?_ | refine gd_ff ?_ | refine gd_tf ?_ | refine gd_ft ?_ | refine gd_u ?_ | refine pk_t ?_ | refine pk_f ?_ | refine iff_t ?_ | refine iff_f ?_ | refine not_t ?_ | refine not_f ?_ | refine beq_s ?_ | refine bne_s ?_ | refine ncP_p ?_ | refine nc_p ?_ | refine fld_at ?_ | refine xt_02 ?_ | refine xt_12 ?_ | refine xt_03 ?_ | refine xt_13 ?_ | refine xt_23 ?_ | refine eq_t (by omega) ?_ | refine eq_f (by omega) ?_ | refine ne_t (by omega) ?_ | refine ne_f (by omega) ?_ | refine lt_t (by omega) ?_ | refine lt_f (by omega) ?_ | refine gt_t (by omega) ?_ | refine gt_f (by omega) ?_ | refine ge_t (by omega) ?_ | refine ge_f (by omega) ?_ | refine le_t (by omega) ?_ | refine le_f (by omega) ?_)
      exact hk _ h3.drop
  rw [if_neg (show ¬ ¬ (rising most (-1) f.f.Pubs ∧ rising most (-1) f.f.Subs) from fun h => h p5)] at hk
  rw [decide_eq_true p5.1, Bool.not_true]
  repeat (first | refine gd_tt ?_ | refine gd_ff ?_ | refine gd_tf ?_ | refine gd_ft ?_ | refine gd_u ?_ | refine pk_t ?_ | refine pk_f ?_ | refine iff_t ?_ | refine iff_f ?_ | refine not_t ?_ | refine not_f ?_ | refine beq_s ?_ | refine bne_s ?_ | refine ncP_p ?_ | refine nc_p ?_ | refine fld_at ?_ | refine xt_02 ?_ | refine xt_12 ?_ | refine xt_03 ?_ | refine xt_13 ?_ | refine xt_23 ?_ | refine eq_t (by omega) ?_ | refine eq_f (by omega) ?_ | refine ne_t (by omega) ?_ | refine ne_f (by omega) ?_ | refine lt_t (by omega) ?_ | refine lt_f (by omega) ?_ | refine gt_t (by omega) ?_ | refine gt_f (by omega) ?_ | refine ge_t (by omega) ?_ | refine ge_f (by omega) ?_ | refine le_t (by omega) ?_ | refine le_f (by omega) ?_)
  refine ld1_at h3 0 rfl (v := f.sv) rfl ?_
  refine gd_ff (gd_ff (classes_s (i + 1) hi1 h3 (fun g hg => (hr g hg).subs) hs.subs fun w4 h4 => ?_))
  rw [decide_eq_true p5.2]
  repeat (first | refine gd_tt ?_ | refine gd_ff ?_ | refine gd_tf ?_ | refine gd_ft ?_ | refine gd_u ?_ | refine pk_t ?_ | refine pk_f ?_ | refine iff_t ?_ | refine iff_f ?_ | refine not_t ?_ | refine not_f ?_ | refine beq_s ?_ | refine bne_s ?_ | refine ncP_p ?_ | refine nc_p ?_ | refine fld_at ?_ | refine xt_02 ?_ | refine xt_12 ?_ | refine xt_03 ?_ | refine xt_13 ?_ | refine xt_23 ?_ | refine eq_t (by omega) ?_ | refine eq_f (by omega) ?_ | refine ne_t (by omega) ?_ | refine ne_f (by omega) ?_ | refine lt_t (by omega) ?_ | refine lt_f (by omega) ?_ | refine gt_t (by omega) ?_ | refine gt_f (by omega) ?_ | refine ge_t (by omega) ?_ | refine ge_f (by omega) ?_ | refine le_t (by omega) ?_ | refine le_f (by omega) ?_)
  clear h1 h2 h3
  have hrl := hs.rules
  refine lpi1 (fun q t11 w => ∃ j : Nat, j ≤ f.Rules.length ∧ t11 = .int .i64 j ∧ q = f.Rules.length - j ∧ rulesE f.f most ((f.Rules.take j).map RuleX.r) = 0 ∧ Sat e w (blk b 66 f.cs :: L)) f.Rules.length ⟨0, Nat.zero_le _, rfl, rfl, rfl, h4⟩ ?_
  clear h4
  rintro q _ w g ⟨j, hj, rfl, rfl, hno, h1⟩ hg
  refine fld_at (ld1_at h1 0 rfl (v := f.rv) rfl ?_)
  refine lnS_rd h1 (i + 1) hi1 (fun g hg => (hr g hg).rules.s) ?_
  refine lt_c (fun c => iff_t ?_) (fun c => iff_f ?_)
  · obtain ⟨r, hrj⟩ := get_of_lt (l := f.Rules) (j := j) (by omega)
    have hrm := List.mem_of_getElem? hrj
    have hsl := hs.sends r hrm
    have hsp : f.f.Rules = (f.Rules.take j).map RuleX.r ++ r.r :: (f.Rules.drop (j + 1)).map RuleX.r := by
      show f.Rules.map RuleX.r = _
      conv => lhs; rw [take_split hrj]
      simp
    have hkE : ∀ E w', E ≠ 0 → rulesE f.f most (r.r :: (f.Rules.drop (j + 1)).map RuleX.r) = E → Sat e w' L → K (.int .i64 E) w' := by
      intro E w' hE0 hE h'
      have := hk w' h'
      rw [hsp, rulesE_app _ _ _ _ hno, hE, if_pos hE0] at this
      exact this
    refine fld_at (ld1_at h1 0 rfl (v := f.rv) rfl ?_)
    refine ixS_rd h1 (i + 1) hi1 (fun g hg => (hr g hg).rules.s) (fun _ => rfl) hrj fun a ha => ?_
    refine fld_of ha fun a1 ha1 => ?_
    refine ld1_of h1 (i + 1) hi1 ha1 (v := .int .i64 r.Class) rfl ?_
    refine ge_c (fun c2 => iff_t ?_) (fun c2 => iff_f ?_)
    · refine hkE 81 _ (by decide) ?_ h1.drop
      rw [rulesE_cons, if_pos (show most ≤ r.r.Class from c2)]
    refine lpi1 (fun q t22 w => ∃ n : Nat, n ≤ r.Sends.length ∧ t22 = .int .i64 n ∧ q = r.Sends.length - n ∧ sendsE f.f (r.Sends.take n) = 0 ∧ Sat e w (blk b 66 f.cs :: L)) r.Sends.length ⟨0, Nat.zero_le _, rfl, rfl, rfl, h1⟩ ?_
    rintro q _ w g2 ⟨n, hn, rfl, rfl, hso, h5⟩ hg2
    refine fld_at (ld1_at h5 0 rfl (v := f.rv) rfl ?_)
    refine ixS_rd h5 (i + 1) hi1 (fun g hg => (hr g hg).rules.s) (fun _ => rfl) hrj fun a ha => ?_
    refine fld_of ha fun a1 ha1 => ?_
    refine ld1_of h5 (i + 1) hi1 ha1 (v := r.sv) rfl ?_
    refine lnS_rd h5 (i + 1) hi1 (fun g hg => (hr g hg).rules.e r hrm) ?_
    refine lt_c (fun c3 => iff_t ?_) (fun c3 => iff_f ?_)
    · obtain ⟨o, ho⟩ := get_of_lt (l := r.Sends) (j := n) (by omega)
      have hsp2 := take_split ho
      have hkS : ∀ E w', E ≠ 0 → sendsE f.f (o :: r.Sends.drop (n + 1)) = E → Sat e w' L → K (.int .i64 E) w' := by
        intro E w' hE0 hE h'
        refine hkE E w' hE0 ?_ h'
        have e1 : sendsE f.f r.r.Sends = E := by
          show sendsE f.f r.Sends = E
          rw [hsp2, sendsE_app _ _ _ hso]
          exact hE
        rw [rulesE_cons, if_neg (show ¬ most ≤ r.r.Class by simp only [RuleX.r]; omega), e1, if_pos hE0]
      refine fld_at (ld1_at h5 0 rfl (v := f.rv) rfl ?_)
      refine ixS_rd h5 (i + 1) hi1 (fun g hg => (hr g hg).rules.s) (fun _ => rfl) hrj fun a ha => ?_
      refine fld_of ha fun a1 ha1 => ?_
      refine ld1_of h5 (i + 1) hi1 ha1 (v := r.sv) rfl ?_
      refine ixS_rd h5 (i + 1) hi1 (fun g hg => (hr g hg).rules.e r hrm) (fun _ => rfl) ho fun a ha => ?_
      refine ldN_of h5 (i + 1) hi1 ha rfl ?_
      rw [zero_87]
      refine al_s (cs := ints [0, 0, 0]) h5 rfl fun t2 w6 h6 => ?_
      refine stN_at h6 0 rfl (vs := o.cs) rfl rfl (by decide) (ints_flat _) (cs' := o.cs) (by rfl) fun w7 h7 => ?_
      have hi2 : (blk t2 87 o.cs :: blk b 66 f.cs :: L)[i + 2]? = some S := by simpa using hi
      refine fld_at (ld1_at h7 1 rfl (v := f.pv) rfl ?_)
      refine fld_at (ld1_at h7 0 rfl (v := .int .i64 o.Class) rfl ?_)
      refine ref05_Has_s (i + 2) hi2 h7 (fun g hg => (hr g hg).pubs) (by have := hs.pubs; omega) (not_d ?_)
      by_cases d1 : o.Class ∈ f.Pubs
      case neg =>
        rw [decide_eq_false d1, Bool.not_false]
        refine iff_t (hkS 81 _ (by decide) ?_ h7.drop.drop)
        rw [sendsE_cons, if_pos (show o.Class ∉ f.f.Pubs from d1)]
      rw [decide_eq_true d1, Bool.not_true]
      refine iff_f (fld_at (ld1_at h7 0 rfl (v := .int .i64 o.Delay) rfl ?_))
      refine fld_at (ld1_at h7 1 rfl (v := .int .i64 f.Look) rfl ?_)
      refine lt_c (fun d2 => iff_t ?_) (fun d2 => iff_f (inc_s (by omega) ?_))
      · refine hkS 80 _ (by decide) ?_ h7.drop.drop
        rw [sendsE_cons, if_neg (show ¬ o.Class ∉ f.f.Pubs from fun h => h d1), if_pos (show o.Delay < f.f.Look from d2)]
      · refine hg2 _ _ _ (by omega) ⟨n + 1, by omega, rfl, rfl, ?_, h7.drop⟩
        rw [List.take_add_one, ho, sendsE_app _ _ _ hso]
        show sendsE f.f [o] = 0
        rw [sendsE_cons, if_neg (show ¬ o.Class ∉ f.f.Pubs from fun h => h d1), if_neg (show ¬ o.Delay < f.f.Look from d2)]
        rfl
    · have en : n = r.Sends.length := by omega
      rw [en, List.take_length] at hso
      refine inc_s (by omega) ?_
      refine hg _ _ _ (by omega) ⟨j + 1, by omega, rfl, rfl, ?_, h5⟩
      rw [List.take_add_one, hrj, List.map_append, rulesE_app _ _ _ _ hno]
      show rulesE f.f most [r.r] = 0
      rw [rulesE_cons, if_neg (show ¬ most ≤ r.r.Class by simp only [RuleX.r]; omega), if_neg (show ¬ sendsE f.f r.r.Sends ≠ 0 from fun h => h hso)]
      rfl
  · have ej : j = f.Rules.length := by omega
    rw [ej, List.take_length] at hno
    rw [show f.f.Rules = f.Rules.map RuleX.r from rfl, hno, if_neg (fun h => h rfl)] at hk
    have hbad : ¬ okInit f.f → ∀ w', Sat e w' L → K (.int .i64 82) w' := fun h w' h' => by have := hk w' h'; rw [if_pos h] at this; exact this
    clear hg
    refine fld_at (ld1_at h1 0 rfl (v := f.iv) rfl ?_)
    refine lnS_rd h1 (i + 1) hi1 (fun g hg => (hr g hg).init) ?_
    refine gt_c (fun c2 => iff_t ?_) (fun c2 => iff_f ?_)
    · exact hbad (fun h => by have h1 : f.Init.length ≤ 4 := h.1; omega) _ h1.drop
    refine lpi1 (fun q t w => ∃ j : Nat, j ≤ f.Init.length ∧ t = .int .i64 j ∧ q = f.Init.length - j ∧ (∀ o ∈ f.Init.take j, okIni f.f o) ∧ Sat e w (blk b 66 f.cs :: L)) f.Init.length ⟨0, Nat.zero_le _, rfl, rfl, by simp, h1⟩ ?_
    clear h1
    rintro q _ w g ⟨j, hj, rfl, rfl, hall, h2⟩ hg
    refine fld_at (ld1_at h2 0 rfl (v := f.iv) rfl ?_)
    refine lnS_rd h2 (i + 1) hi1 (fun g hg => (hr g hg).init) ?_
    refine lt_c (fun c => iff_t ?_) (fun c => iff_f ?_)
    · obtain ⟨o, ho⟩ := get_of_lt (l := f.Init) (j := j) (by omega)
      have hom := List.mem_of_getElem? ho
      refine fld_at (ld1_at h2 0 rfl (v := f.iv) rfl ?_)
      refine ixS_rd h2 (i + 1) hi1 (fun g hg => (hr g hg).init) (fun _ => rfl) ho fun a ha => ?_
      refine ldN_of h2 (i + 1) hi1 ha rfl ?_
      rw [zero_87]
      refine al_s (cs := ints [0, 0, 0]) h2 rfl fun t2 w3 h3 => ?_
      refine stN_at h3 0 rfl (vs := o.cs) rfl rfl (by decide) (ints_flat _) (cs' := o.cs) (by rfl) fun w4 h4 => ?_
      have hno2 : ¬ okIni f.f o → K (.int .i64 82) w4 := fun h => hbad (fun h2 => h (h2.2 o hom)) _ h4.drop.drop
      have hi2 : (blk t2 87 o.cs :: blk b 66 f.cs :: L)[i + 2]? = some S := by simpa using hi
      refine fld_at (ld1_at h4 1 rfl (v := f.pv) rfl ?_)
      refine fld_at (ld1_at h4 0 rfl (v := .int .i64 o.Class) rfl ?_)
      refine ref05_Has_s (i + 2) hi2 h4 (fun g hg => (hr g hg).pubs) (by have := hs.pubs; omega) (not_d ?_)
      by_cases d1 : o.Class ∈ f.Pubs
      case neg =>
        rw [decide_eq_false d1, Bool.not_false]
        repeat (first | refine gd_tt ?_ | refine gd_ff ?_ | refine gd_tf ?_ | refine gd_ft ?_ | refine gd_u ?_ | refine pk_t ?_ | refine pk_f ?_ | refine iff_t ?_ | refine iff_f ?_ | refine not_t ?_ | refine not_f ?_ | refine beq_s ?_ | refine bne_s ?_ | refine ncP_p ?_ | refine nc_p ?_ | refine fld_at ?_ | refine xt_02 ?_ | refine xt_12 ?_ | refine xt_03 ?_ | refine xt_13 ?_ | refine xt_23 ?_ | refine eq_t (by omega) ?_ | refine eq_f (by omega) ?_ | refine ne_t (by omega) ?_ | refine ne_f (by omega) ?_ | refine lt_t (by omega) ?_ | refine lt_f (by omega) ?_ | refine gt_t (by omega) ?_ | refine gt_f (by omega) ?_ | refine ge_t (by omega) ?_ | refine ge_f (by omega) ?_ | refine le_t (by omega) ?_ | refine le_f (by omega) ?_)
        exact hno2 fun h => d1 h.1
      rw [decide_eq_true d1, Bool.not_true]
      repeat (first | refine gd_tt ?_ | refine gd_ff ?_ | refine gd_tf ?_ | refine gd_ft ?_ | refine gd_u ?_ | refine pk_t ?_ | refine pk_f ?_ | refine iff_t ?_ | refine iff_f ?_ | refine not_t ?_ | refine not_f ?_ | refine beq_s ?_ | refine bne_s ?_ | refine ncP_p ?_ | refine nc_p ?_ | refine fld_at ?_ | refine xt_02 ?_ | refine xt_12 ?_ | refine xt_03 ?_ | refine xt_13 ?_ | refine xt_23 ?_ | refine eq_t (by omega) ?_ | refine eq_f (by omega) ?_ | refine ne_t (by omega) ?_ | refine ne_f (by omega) ?_ | refine lt_t (by omega) ?_ | refine lt_f (by omega) ?_ | refine gt_t (by omega) ?_ | refine gt_f (by omega) ?_ | refine ge_t (by omega) ?_ | refine ge_f (by omega) ?_ | refine le_t (by omega) ?_ | refine le_f (by omega) ?_)
      refine ld1_at h4 0 rfl (v := .int .i64 o.Delay) rfl ?_
      by_cases d2 : o.Delay < 0
      · repeat (first | refine gd_tt ?_ | refine gd_ff ?_ | refine gd_tf ?_ | refine gd_ft ?_ | refine gd_u ?_ | refine pk_t ?_ | refine pk_f ?_ | refine iff_t ?_ | refine iff_f ?_ | refine not_t ?_ | refine not_f ?_ | refine beq_s ?_ | refine bne_s ?_ | refine ncP_p ?_ | refine nc_p ?_ | refine fld_at ?_ | refine xt_02 ?_ | refine xt_12 ?_ | refine xt_03 ?_ | refine xt_13 ?_ | refine xt_23 ?_ | refine eq_t (by omega) ?_ | refine eq_f (by omega) ?_ | refine ne_t (by omega) ?_ | refine ne_f (by omega) ?_ | refine lt_t (by omega) ?_ | refine lt_f (by omega) ?_ | refine gt_t (by omega) ?_ | refine gt_f (by omega) ?_ | refine ge_t (by omega) ?_ | refine ge_f (by omega) ?_ | refine le_t (by omega) ?_ | refine le_f (by omega) ?_)
        exact hno2 fun h => by have := h.2.1; omega
      refine gd_ff (lt_f d2 ?_)
      repeat (first | refine gd_tt ?_ | refine gd_ff ?_ | refine gd_tf ?_ | refine gd_ft ?_ | refine gd_u ?_ | refine pk_t ?_ | refine pk_f ?_ | refine iff_t ?_ | refine iff_f ?_ | refine not_t ?_ | refine not_f ?_ | refine beq_s ?_ | refine bne_s ?_ | refine ncP_p ?_ | refine nc_p ?_ | refine fld_at ?_ | refine xt_02 ?_ | refine xt_12 ?_ | refine xt_03 ?_ | refine xt_13 ?_ | refine xt_23 ?_ | refine eq_t (by omega) ?_ | refine eq_f (by omega) ?_ | refine ne_t (by omega) ?_ | refine ne_f (by omega) ?_ | refine lt_t (by omega) ?_ | refine lt_f (by omega) ?_ | refine gt_t (by omega) ?_ | refine gt_f (by omega) ?_ | refine ge_t (by omega) ?_ | refine ge_f (by omega) ?_ | refine le_t (by omega) ?_ | refine le_f (by omega) ?_)
      refine ld1_at h4 0 rfl (v := .int .i64 o.Delay) rfl ?_
      by_cases d3 : 1099511627776 < o.Delay
      · repeat (first | refine gd_tt ?_ | refine gd_ff ?_ | refine gd_tf ?_ | refine gd_ft ?_ | refine gd_u ?_ | refine pk_t ?_ | refine pk_f ?_ | refine iff_t ?_ | refine iff_f ?_ | refine not_t ?_ | refine not_f ?_ | refine beq_s ?_ | refine bne_s ?_ | refine ncP_p ?_ | refine nc_p ?_ | refine fld_at ?_ | refine xt_02 ?_ | refine xt_12 ?_ | refine xt_03 ?_ | refine xt_13 ?_ | refine xt_23 ?_ | refine eq_t (by omega) ?_ | refine eq_f (by omega) ?_ | refine ne_t (by omega) ?_ | refine ne_f (by omega) ?_ | refine lt_t (by omega) ?_ | refine lt_f (by omega) ?_ | refine gt_t (by omega) ?_ | refine gt_f (by omega) ?_ | refine ge_t (by omega) ?_ | refine ge_f (by omega) ?_ | refine le_t (by omega) ?_ | refine le_f (by omega) ?_)
        exact hno2 fun h => by have := h.2.2.1; omega
      refine gd_ff (gt_f d3 ?_)
      repeat (first | refine gd_tt ?_ | refine gd_ff ?_ | refine gd_tf ?_ | refine gd_ft ?_ | refine gd_u ?_ | refine pk_t ?_ | refine pk_f ?_ | refine iff_t ?_ | refine iff_f ?_ | refine not_t ?_ | refine not_f ?_ | refine beq_s ?_ | refine bne_s ?_ | refine ncP_p ?_ | refine nc_p ?_ | refine fld_at ?_ | refine xt_02 ?_ | refine xt_12 ?_ | refine xt_03 ?_ | refine xt_13 ?_ | refine xt_23 ?_ | refine eq_t (by omega) ?_ | refine eq_f (by omega) ?_ | refine ne_t (by omega) ?_ | refine ne_f (by omega) ?_ | refine lt_t (by omega) ?_ | refine lt_f (by omega) ?_ | refine gt_t (by omega) ?_ | refine gt_f (by omega) ?_ | refine ge_t (by omega) ?_ | refine ge_f (by omega) ?_ | refine le_t (by omega) ?_ | refine le_f (by omega) ?_)
      refine ld1_at h4 0 rfl (v := .int .i64 o.Add) rfl ?_
      by_cases d4 : o.Add < 0
      · repeat (first | refine gd_tt ?_ | refine gd_ff ?_ | refine gd_tf ?_ | refine gd_ft ?_ | refine gd_u ?_ | refine pk_t ?_ | refine pk_f ?_ | refine iff_t ?_ | refine iff_f ?_ | refine not_t ?_ | refine not_f ?_ | refine beq_s ?_ | refine bne_s ?_ | refine ncP_p ?_ | refine nc_p ?_ | refine fld_at ?_ | refine xt_02 ?_ | refine xt_12 ?_ | refine xt_03 ?_ | refine xt_13 ?_ | refine xt_23 ?_ | refine eq_t (by omega) ?_ | refine eq_f (by omega) ?_ | refine ne_t (by omega) ?_ | refine ne_f (by omega) ?_ | refine lt_t (by omega) ?_ | refine lt_f (by omega) ?_ | refine gt_t (by omega) ?_ | refine gt_f (by omega) ?_ | refine ge_t (by omega) ?_ | refine ge_f (by omega) ?_ | refine le_t (by omega) ?_ | refine le_f (by omega) ?_)
        exact hno2 fun h => by have := h.2.2.2.1; omega
      refine gd_ff (lt_f d4 ?_)
      repeat (first | refine gd_tt ?_ | refine gd_ff ?_ | refine gd_tf ?_ | refine gd_ft ?_ | refine gd_u ?_ | refine pk_t ?_ | refine pk_f ?_ | refine iff_t ?_ | refine iff_f ?_ | refine not_t ?_ | refine not_f ?_ | refine beq_s ?_ | refine bne_s ?_ | refine ncP_p ?_ | refine nc_p ?_ | refine fld_at ?_ | refine xt_02 ?_ | refine xt_12 ?_ | refine xt_03 ?_ | refine xt_13 ?_ | refine xt_23 ?_ | refine eq_t (by omega) ?_ | refine eq_f (by omega) ?_ | refine ne_t (by omega) ?_ | refine ne_f (by omega) ?_ | refine lt_t (by omega) ?_ | refine lt_f (by omega) ?_ | refine gt_t (by omega) ?_ | refine gt_f (by omega) ?_ | refine ge_t (by omega) ?_ | refine ge_f (by omega) ?_ | refine le_t (by omega) ?_ | refine le_f (by omega) ?_)
      refine ld1_at h4 0 rfl (v := .int .i64 o.Add) rfl ?_
      by_cases d5 : 1000 ≤ o.Add
      · repeat (first | refine gd_tt ?_ | refine gd_ff ?_ | refine gd_tf ?_ | refine gd_ft ?_ | refine gd_u ?_ | refine pk_t ?_ | refine pk_f ?_ | refine iff_t ?_ | refine iff_f ?_ | refine not_t ?_ | refine not_f ?_ | refine beq_s ?_ | refine bne_s ?_ | refine ncP_p ?_ | refine nc_p ?_ | refine fld_at ?_ | refine xt_02 ?_ | refine xt_12 ?_ | refine xt_03 ?_ | refine xt_13 ?_ | refine xt_23 ?_ | refine eq_t (by omega) ?_ | refine eq_f (by omega) ?_ | refine ne_t (by omega) ?_ | refine ne_f (by omega) ?_ | refine lt_t (by omega) ?_ | refine lt_f (by omega) ?_ | refine gt_t (by omega) ?_ | refine gt_f (by omega) ?_ | refine ge_t (by omega) ?_ | refine ge_f (by omega) ?_ | refine le_t (by omega) ?_ | refine le_f (by omega) ?_)
        exact hno2 fun h => by have := h.2.2.2.2; omega
      refine gd_ff (ge_f (by omega) ?_)
      repeat (first | refine gd_tt ?_ | refine gd_ff ?_ | refine gd_tf ?_ | refine gd_ft ?_ | refine gd_u ?_ | refine pk_t ?_ | refine pk_f ?_ | refine iff_t ?_ | refine iff_f ?_ | refine not_t ?_ | refine not_f ?_ | refine beq_s ?_ | refine bne_s ?_ | refine ncP_p ?_ | refine nc_p ?_ | refine fld_at ?_ | refine xt_02 ?_ | refine xt_12 ?_ | refine xt_03 ?_ | refine xt_13 ?_ | refine xt_23 ?_ | refine eq_t (by omega) ?_ | refine eq_f (by omega) ?_ | refine ne_t (by omega) ?_ | refine ne_f (by omega) ?_ | refine lt_t (by omega) ?_ | refine lt_f (by omega) ?_ | refine gt_t (by omega) ?_ | refine gt_f (by omega) ?_ | refine ge_t (by omega) ?_ | refine ge_f (by omega) ?_ | refine le_t (by omega) ?_ | refine le_f (by omega) ?_)
      refine inc_s (by omega) ?_
      refine hg _ _ _ (by omega) ⟨j + 1, by omega, rfl, rfl, fun x hx => ?_, h4.drop⟩
      rw [List.take_add_one, ho] at hx
      rcases List.mem_append.1 hx with h | h
      · exact hall x h
      · simp at h
        subst h
        exact ⟨d1, by omega, by omega, by omega, by omega⟩
    · have ej : j = f.Init.length := by omega
      rw [ej, List.take_length] at hall
      have := hk _ h2.drop
      rw [if_neg (show ¬ ¬ okInit f.f from fun h => h ⟨by show f.Init.length ≤ 4; omega, hall⟩)] at this
      exact this
theorem ref08_Check_s {x : WdX} (i : Nat) (hi : L[i]? = some S) (hS : Sat e w L) (hr : ∀ g, S g → RdWd x g) (hs : x.short)
    (hk : ∀ w', Sat e w' L → K (.tuple #[.int .i64 (checkW x.w).1, .int .i64 (checkW x.w).2]) w') : Cl prog 70 #[.agg x.cs.toArray] w K := by
  refine pacelineref08_Check_calls ?_
  unfold pacelineref08_Check
  refine al_s (cs := x.cs) hS rfl fun b w1 h1 => ?_
  have hi1 : (blk b 27 x.cs :: L)[i + 1]? = some S := by simpa using hi
  have hfl := hs.feds
  refine fld_at (ld1_at h1 0 rfl (v := x.pv) rfl ?_)
  refine ref05_Check_s (i + 1) hi1 h1 (fun g hg => (hr g hg).par) ?_
  by_cases p1 : treeE x.Parents = 0
  case neg =>
    have := hk _ h1.drop
    unfold checkW at this
    rw [if_pos (show treeE x.w.Parents ≠ 0 from p1)] at this
    exact ne_t p1 (iff_t this)
  refine ne_f p1 (iff_f ?_)
  refine fld_at (ld1_at h1 0 rfl (v := .int .i64 x.End) rfl ?_)
  by_cases p2 : (0 ≤ x.End ∧ x.End ≤ 1099511627776) ∧ (1 ≤ (x.Feds.length : Int) ∧ (x.Feds.length : Int) ≤ 8)
  case neg =>
    have hk := hk _ h1.drop
    unfold checkW at hk
    rw [if_neg (show ¬ treeE x.w.Parents ≠ 0 from fun h => h p1), if_pos (by simp only [WdX.w, List.length_map]; exact p2)] at hk
    by_cases q1 : x.End < 0
    · repeat (first | refine gd_tt ?_ | refine gd_ff ?_ | refine gd_tf ?_ | refine gd_ft ?_ | refine gd_u ?_ | refine pk_t ?_ | refine pk_f ?_ | refine iff_t ?_ | refine iff_f ?_ | refine not_t ?_ | refine not_f ?_ | refine beq_s ?_ | refine bne_s ?_ | refine ncP_p ?_ | refine nc_p ?_ | refine fld_at ?_ | refine xt_02 ?_ | refine xt_12 ?_ | refine xt_03 ?_ | refine xt_13 ?_ | refine xt_23 ?_ | refine eq_t (by omega) ?_ | refine eq_f (by omega) ?_ | refine ne_t (by omega) ?_ | refine ne_f (by omega) ?_ | refine lt_t (by omega) ?_ | refine lt_f (by omega) ?_ | refine gt_t (by omega) ?_ | refine gt_f (by omega) ?_ | refine ge_t (by omega) ?_ | refine ge_f (by omega) ?_ | refine le_t (by omega) ?_ | refine le_f (by omega) ?_)
      exact hk
    refine lt_f q1 ?_
    repeat (first | refine gd_tt ?_ | refine gd_ff ?_ | refine gd_tf ?_ | refine gd_ft ?_ | refine gd_u ?_ | refine pk_t ?_ | refine pk_f ?_ | refine iff_t ?_ | refine iff_f ?_ | refine not_t ?_ | refine not_f ?_ | refine beq_s ?_ | refine bne_s ?_ | refine ncP_p ?_ | refine nc_p ?_ | refine fld_at ?_ | refine xt_02 ?_ | refine xt_12 ?_ | refine xt_03 ?_ | refine xt_13 ?_ | refine xt_23 ?_ | refine eq_t (by omega) ?_ | refine eq_f (by omega) ?_ | refine ne_t (by omega) ?_ | refine ne_f (by omega) ?_ | refine lt_t (by omega) ?_ | refine lt_f (by omega) ?_ | refine gt_t (by omega) ?_ | refine gt_f (by omega) ?_ | refine ge_t (by omega) ?_ | refine ge_f (by omega) ?_ | refine le_t (by omega) ?_ | refine le_f (by omega) ?_)
    refine ld1_at h1 0 rfl (v := .int .i64 x.End) rfl ?_
    by_cases q2 : 1099511627776 < x.End
    · repeat (first | refine gd_tt ?_ | refine gd_ff ?_ | refine gd_tf ?_ | refine gd_ft ?_ | refine gd_u ?_ | refine pk_t ?_ | refine pk_f ?_ | refine iff_t ?_ | refine iff_f ?_ | refine not_t ?_ | refine not_f ?_ | refine beq_s ?_ | refine bne_s ?_ | refine ncP_p ?_ | refine nc_p ?_ | refine fld_at ?_ | refine xt_02 ?_ | refine xt_12 ?_ | refine xt_03 ?_ | refine xt_13 ?_ | refine xt_23 ?_ | refine eq_t (by omega) ?_ | refine eq_f (by omega) ?_ | refine ne_t (by omega) ?_ | refine ne_f (by omega) ?_ | refine lt_t (by omega) ?_ | refine lt_f (by omega) ?_ | refine gt_t (by omega) ?_ | refine gt_f (by omega) ?_ | refine ge_t (by omega) ?_ | refine ge_f (by omega) ?_ | refine le_t (by omega) ?_ | refine le_f (by omega) ?_)
      exact hk
    refine gd_ff (gt_f q2 ?_)
    repeat (first | refine gd_tt ?_ | refine gd_ff ?_ | refine gd_tf ?_ | refine gd_ft ?_ | refine gd_u ?_ | refine pk_t ?_ | refine pk_f ?_ | refine iff_t ?_ | refine iff_f ?_ | refine not_t ?_ | refine not_f ?_ | refine beq_s ?_ | refine bne_s ?_ | refine ncP_p ?_ | refine nc_p ?_ | refine fld_at ?_ | refine xt_02 ?_ | refine xt_12 ?_ | refine xt_03 ?_ | refine xt_13 ?_ | refine xt_23 ?_ | refine eq_t (by omega) ?_ | refine eq_f (by omega) ?_ | refine ne_t (by omega) ?_ | refine ne_f (by omega) ?_ | refine lt_t (by omega) ?_ | refine lt_f (by omega) ?_ | refine gt_t (by omega) ?_ | refine gt_f (by omega) ?_ | refine ge_t (by omega) ?_ | refine ge_f (by omega) ?_ | refine le_t (by omega) ?_ | refine le_f (by omega) ?_)
    refine ld1_at h1 0 rfl (v := x.fv) rfl ?_
    refine gd_ff (lnS_rd h1 (i + 1) hi1 (fun g hg => (hr g hg).feds) ?_)
    by_cases q3 : (x.Feds.length : Int) < 1
    · repeat (first | refine gd_tt ?_ | refine gd_ff ?_ | refine gd_tf ?_ | refine gd_ft ?_ | refine gd_u ?_ | refine pk_t ?_ | refine pk_f ?_ | refine iff_t ?_ | refine iff_f ?_ | refine not_t ?_ | refine not_f ?_ | refine beq_s ?_ | refine bne_s ?_ | refine ncP_p ?_ | refine nc_p ?_ | refine fld_at ?_ | refine xt_02 ?_ | refine xt_12 ?_ | refine xt_03 ?_ | refine xt_13 ?_ | refine xt_23 ?_ | refine eq_t (by omega) ?_ | refine eq_f (by omega) ?_ | refine ne_t (by omega) ?_ | refine ne_f (by omega) ?_ | refine lt_t (by omega) ?_ | refine lt_f (by omega) ?_ | refine gt_t (by omega) ?_ | refine gt_f (by omega) ?_ | refine ge_t (by omega) ?_ | refine ge_f (by omega) ?_ | refine le_t (by omega) ?_ | refine le_f (by omega) ?_)
      exact hk
    refine gd_ff (lt_f q3 ?_)
    repeat (first | refine gd_tt ?_ | refine gd_ff ?_ | refine gd_tf ?_ | refine gd_ft ?_ | refine gd_u ?_ | refine pk_t ?_ | refine pk_f ?_ | refine iff_t ?_ | refine iff_f ?_ | refine not_t ?_ | refine not_f ?_ | refine beq_s ?_ | refine bne_s ?_ | refine ncP_p ?_ | refine nc_p ?_ | refine fld_at ?_ | refine xt_02 ?_ | refine xt_12 ?_ | refine xt_03 ?_ | refine xt_13 ?_ | refine xt_23 ?_ | refine eq_t (by omega) ?_ | refine eq_f (by omega) ?_ | refine ne_t (by omega) ?_ | refine ne_f (by omega) ?_ | refine lt_t (by omega) ?_ | refine lt_f (by omega) ?_ | refine gt_t (by omega) ?_ | refine gt_f (by omega) ?_ | refine ge_t (by omega) ?_ | refine ge_f (by omega) ?_ | refine le_t (by omega) ?_ | refine le_f (by omega) ?_)
    refine ld1_at h1 0 rfl (v := x.fv) rfl ?_
    refine gd_ff (lnS_rd h1 (i + 1) hi1 (fun g hg => (hr g hg).feds) ?_)
    repeat (first | refine gd_tt ?_ | refine gd_ff ?_ | refine gd_tf ?_ | refine gd_ft ?_ | refine gd_u ?_ | refine pk_t ?_ | refine pk_f ?_ | refine iff_t ?_ | refine iff_f ?_ | refine not_t ?_ | refine not_f ?_ | refine beq_s ?_ | refine bne_s ?_ | refine ncP_p ?_ | refine nc_p ?_ | refine fld_at ?_ | refine xt_02 ?_ | refine xt_12 ?_ | refine xt_03 ?_ | refine xt_13 ?_ | refine xt_23 ?_ | refine eq_t (by omega) ?_ | refine eq_f (by omega) ?_ | refine ne_t (by omega) ?_ | refine ne_f (by omega) ?_ | refine lt_t (by omega) ?_ | refine lt_f (by omega) ?_ | refine gt_t (by omega) ?_ | refine gt_f (by omega) ?_ | refine ge_t (by omega) ?_ | refine ge_f (by omega) ?_ | refine le_t (by omega) ?_ | refine le_f (by omega) ?_)
    exact hk
  have hk : ∀ w', Sat e w' L → K (.tuple #[.int .i64 (fedsE x.Parents.length 0 (x.Feds.map FedX.f)).1, .int .i64 (fedsE x.Parents.length 0 (x.Feds.map FedX.f)).2]) w' := by
    intro w' h'
    have := hk w' h'
    unfold checkW at this
    rw [if_neg (show ¬ treeE x.w.Parents ≠ 0 from fun h => h p1), if_neg (by simp only [WdX.w, List.length_map]; exact fun h => h p2)] at this
    exact this
  repeat (first | refine gd_tt ?_ | refine gd_ff ?_ | refine gd_tf ?_ | refine gd_ft ?_ | refine gd_u ?_ | refine pk_t ?_ | refine pk_f ?_ | refine iff_t ?_ | refine iff_f ?_ | refine not_t ?_ | refine not_f ?_ | refine beq_s ?_ | refine bne_s ?_ | refine ncP_p ?_ | refine nc_p ?_ | refine fld_at ?_ | refine xt_02 ?_ | refine xt_12 ?_ | refine xt_03 ?_ | refine xt_13 ?_ | refine xt_23 ?_ | refine eq_t (by omega) ?_ | refine eq_f (by omega) ?_ | refine ne_t (by omega) ?_ | refine ne_f (by omega) ?_ | refine lt_t (by omega) ?_ | refine lt_f (by omega) ?_ | refine gt_t (by omega) ?_ | refine gt_f (by omega) ?_ | refine ge_t (by omega) ?_ | refine ge_f (by omega) ?_ | refine le_t (by omega) ?_ | refine le_f (by omega) ?_)
  refine ld1_at h1 0 rfl (v := .int .i64 x.End) rfl ?_
  repeat (first | refine gd_tt ?_ | refine gd_ff ?_ | refine gd_tf ?_ | refine gd_ft ?_ | refine gd_u ?_ | refine pk_t ?_ | refine pk_f ?_ | refine iff_t ?_ | refine iff_f ?_ | refine not_t ?_ | refine not_f ?_ | refine beq_s ?_ | refine bne_s ?_ | refine ncP_p ?_ | refine nc_p ?_ | refine fld_at ?_ | refine xt_02 ?_ | refine xt_12 ?_ | refine xt_03 ?_ | refine xt_13 ?_ | refine xt_23 ?_ | refine eq_t (by omega) ?_ | refine eq_f (by omega) ?_ | refine ne_t (by omega) ?_ | refine ne_f (by omega) ?_ | refine lt_t (by omega) ?_ | refine lt_f (by omega) ?_ | refine gt_t (by omega) ?_ | refine gt_f (by omega) ?_ | refine ge_t (by omega) ?_ | refine ge_f (by omega) ?_ | refine le_t (by omega) ?_ | refine le_f (by omega) ?_)
  refine ld1_at h1 0 rfl (v := x.fv) rfl ?_
  refine gd_ff (lnS_rd h1 (i + 1) hi1 (fun g hg => (hr g hg).feds) ?_)
  repeat (first | refine gd_tt ?_ | refine gd_ff ?_ | refine gd_tf ?_ | refine gd_ft ?_ | refine gd_u ?_ | refine pk_t ?_ | refine pk_f ?_ | refine iff_t ?_ | refine iff_f ?_ | refine not_t ?_ | refine not_f ?_ | refine beq_s ?_ | refine bne_s ?_ | refine ncP_p ?_ | refine nc_p ?_ | refine fld_at ?_ | refine xt_02 ?_ | refine xt_12 ?_ | refine xt_03 ?_ | refine xt_13 ?_ | refine xt_23 ?_ | refine eq_t (by omega) ?_ | refine eq_f (by omega) ?_ | refine ne_t (by omega) ?_ | refine ne_f (by omega) ?_ | refine lt_t (by omega) ?_ | refine lt_f (by omega) ?_ | refine gt_t (by omega) ?_ | refine gt_f (by omega) ?_ | refine ge_t (by omega) ?_ | refine ge_f (by omega) ?_ | refine le_t (by omega) ?_ | refine le_f (by omega) ?_)
  refine ld1_at h1 0 rfl (v := x.fv) rfl ?_
  refine gd_ff (lnS_rd h1 (i + 1) hi1 (fun g hg => (hr g hg).feds) ?_)
  repeat (first | refine gd_tt ?_ | refine gd_ff ?_ | refine gd_tf ?_ | refine gd_ft ?_ | refine gd_u ?_ | refine pk_t ?_ | refine pk_f ?_ | refine iff_t ?_ | refine iff_f ?_ | refine not_t ?_ | refine not_f ?_ | refine beq_s ?_ | refine bne_s ?_ | refine ncP_p ?_ | refine nc_p ?_ | refine fld_at ?_ | refine xt_02 ?_ | refine xt_12 ?_ | refine xt_03 ?_ | refine xt_13 ?_ | refine xt_23 ?_ | refine eq_t (by omega) ?_ | refine eq_f (by omega) ?_ | refine ne_t (by omega) ?_ | refine ne_f (by omega) ?_ | refine lt_t (by omega) ?_ | refine lt_f (by omega) ?_ | refine gt_t (by omega) ?_ | refine gt_f (by omega) ?_ | refine ge_t (by omega) ?_ | refine ge_f (by omega) ?_ | refine le_t (by omega) ?_ | refine le_f (by omega) ?_)
  refine lpi1 (fun q t w => ∃ j : Nat, j ≤ x.Feds.length ∧ t = .int .i64 j ∧ q = x.Feds.length - j ∧ (∀ f ∈ (x.Feds.take j).map FedX.f, fedE f x.Parents.length = 0) ∧ Sat e w (blk b 27 x.cs :: L)) x.Feds.length ⟨0, Nat.zero_le _, rfl, rfl, by simp, h1⟩ ?_
  rintro q _ w g ⟨j, hj, rfl, rfl, hno, h6⟩ hg
  refine fld_at (ld1_at h6 0 rfl (v := x.fv) rfl ?_)
  refine lnS_rd h6 (i + 1) hi1 (fun g hg => (hr g hg).feds) ?_
  refine lt_c (fun c0 => iff_t ?_) (fun c0 => iff_f ?_)
  · obtain ⟨f, hf⟩ := get_of_lt (l := x.Feds) (j := j) (by omega)
    have hfm := List.mem_of_getElem? hf
    refine dr_s h6 fun w7 h7 => ?_
    refine fld_at (ld1_at h7 0 rfl (v := x.fv) rfl ?_)
    refine ixS_rd h7 (i + 1) hi1 (fun g hg => (hr g hg).feds) (fun _ => rfl) hf fun a ha => ?_
    refine ldN_of h7 (i + 1) hi1 ha rfl ?_
    refine fld_at (ld1_at h7 0 rfl (v := x.pv) rfl ?_)
    refine lnS_rd h7 (i + 1) hi1 (fun g hg => (hr g hg).par) ?_
    refine ref08_Fed_s (i + 1) hi1 h7 (fun g hg => (hr g hg).fed f hfm) (hs.fed f hfm) fun w9 h9 => ?_
    have hsp : x.Feds.map FedX.f = (x.Feds.take j).map FedX.f ++ f.f :: (x.Feds.drop (j + 1)).map FedX.f := by
      conv => lhs; rw [take_split hf]
      simp
    have hlen : 0 + ((x.Feds.take j).map FedX.f).length = j := by rw [List.length_map, List.length_take]; omega
    refine ne_c (fun c2 => iff_t ?_) (fun c2 => iff_f (inc_s (by omega) ?_))
    · have := hk _ h9.drop
      rw [hsp, fedsE_app _ _ _ _ hno, fedsE_cons, if_pos c2, hlen] at this
      exact this
    · refine hg _ _ _ (by omega) ⟨j + 1, by omega, rfl, rfl, fun y hy => ?_, h9⟩
      rw [List.take_add_one, hf, List.map_append] at hy
      rcases List.mem_append.1 hy with h | h
      · exact hno y h
      · simp at h
        rw [h]; exact c2
  · have ej : j = x.Feds.length := by omega
    rw [ej, List.take_length] at hno
    have := hk _ h6.drop
    rw [← List.append_nil (x.Feds.map FedX.f), fedsE_app _ _ _ _ hno] at this
    exact this
end Go.Proofs.YtbopajpmadlmhaaGreat
end
section
namespace Go.E
open Go.RowKit
section
variable {α : Type} {e w : World} {L : List HP} {K : KV} {size : Nat} {f : α → List Value} {v : Value} {l : List α} {t : TypeId}
theorem flatMap_get (hf : ∀ x, (f x).length = size) {j off : Nat} {x : α} (hx : l[j]? = some x) (ho : off < size) : (l.flatMap f)[j * size + off]? = (f x)[off]? := by
  have h := congrArg (fun y => y[off]?) (flatMap_at hf l j x hx)
  simp only [List.getElem?_take, List.getElem?_drop, if_pos ho] at h
  exact h
theorem add_zero0 {b : Nat} (n : Nat) : (⟨b, 0, none⟩ : Addr).add n = ⟨b, n, none⟩ := by
  unfold Addr.add
  split
  · rename_i h; rw [h]
  · simp
theorem ixS_own {j : Nat} {k : IntKind} {x : α} (hS : Sat e w L) (i : Nat) (hi : L[i]? = some (ownS t size f v l)) (hx : l[j]? = some x)
    (hk : ∀ b c, v = .slice (some ⟨b, 0, none⟩) l.length c → K (.pointer (some ⟨b, j * size, none⟩)) w) : ixS size v (.int k (j : Int)) w K := by
  have hj := (List.getElem?_eq_some_iff.1 hx).1
  obtain ⟨g, hg, _⟩ := hS.get i hi
  rcases hg with ⟨_, rfl⟩ | ⟨b, c, cs, hv, _⟩
  · simp at hj
  · rw [hv]
    have h1 := hk b c hv
    refine ixS_sl hj ?_
    rw [Nat.zero_add]
    exact h1
theorem cell_own {j off : Nat} {x : α} {u : Value} {b c : Nat} (hS : Sat e w L) (i : Nat) (hi : L[i]? = some (ownS t size f v l)) (hf : ∀ x, (f x).length = size) (hv : v = .slice (some ⟨b, 0, none⟩) l.length c) (hx : l[j]? = some x) (hu : (f x)[off]? = some u) :
    w.cell? ⟨b, j * size + off, none⟩ = some u := by
  have hj := (List.getElem?_eq_some_iff.1 hx).1
  have ho : off < size := by rw [← hf x]; exact (List.getElem?_eq_some_iff.1 hu).1
  obtain ⟨g, hg, hs⟩ := hS.get i hi
  obtain ⟨A, c', h1, h2, h3⟩ := own_rd hg
  obtain ⟨a, h4, h5⟩ := h3 (by omega)
  rw [hv] at h1
  injection h1 with e1
  rw [h4] at e1
  injection e1 with e1
  subst e1
  have h6 := (h5.up hs) (j * size + off) u (by rw [flatMap_get hf hx ho]; exact hu)
  rw [add_zero0] at h6
  exact h6
theorem ldF_own {j off : Nat} {x : α} {u : Value} {b c : Nat} (hS : Sat e w L) (i : Nat) (hi : L[i]? = some (ownS t size f v l)) (hf : ∀ x, (f x).length = size) (hv : v = .slice (some ⟨b, 0, none⟩) l.length c) (hx : l[j]? = some x) (hu : (f x)[off]? = some u)
    (hk : K u w) : ld1 (.pointer (some ⟨b, j * size + off, none⟩)) w K := ⟨_, u, rfl, cell_own hS i hi hf hv hx hu, hk⟩
theorem wrL_fld {cs : List Value} (hf : ∀ x, (f x).length = size) {j off : Nat} {x x' : α} {us : List Value} (hx : l[j]? = some x) (ht : cs.take (l.length * size) = l.flatMap f) (ho : off + us.length ≤ size) (hx' : wrL (f x) off us = f x') :
    wrL cs (j * size + off) us = wrL cs (j * size) (f x') := by
  have hj := (List.getElem?_eq_some_iff.1 hx).1
  have hle : (j + 1) * size ≤ l.length * size := Nat.mul_le_mul_right _ (by omega)
  rw [Nat.add_mul, Nat.one_mul] at hle
  have hcl : l.length * size ≤ cs.length := by
    have := congrArg List.length ht
    rw [List.length_take, flatMap_length hf] at this
    omega
  apply List.ext_getElem?
  intro i
  rw [wrL_get _ _ _ (by omega), wrL_get _ _ _ (by rw [hf]; omega), hf]
  by_cases h1 : i < j * size
  · rw [if_pos (by omega), if_pos h1]
  · by_cases h2 : i < j * size + size
    · rw [if_neg h1, if_pos h2, ← hx', wrL_get _ _ _ (by rw [hf]; exact ho)]
      have hcx : cs[i]? = (f x)[i - j * size]? := by
        rw [← flatMap_get hf hx (by omega), ← ht, List.getElem?_take, if_pos (by omega)]
        congr 1
        omega
      by_cases h3 : i < j * size + off
      · rw [if_pos h3, if_pos (by omega), hcx]
      · by_cases h4 : i < j * size + off + us.length
        · rw [if_neg h3, if_pos h4, if_neg (by omega), if_pos (by omega)]
          congr 1
          omega
        · rw [if_neg h3, if_neg h4, if_neg (by omega), if_neg (by omega), hcx]
    · rw [if_neg (by omega), if_neg (by omega), if_neg h1, if_neg h2]
theorem stF_own {j off n : Nat} {x x' : α} {u : Value} {us : List Value} {b c : Nat} (hS : Sat e w L) (i : Nat) (hi : L[i]? = some (ownS t size f v l)) (hf : ∀ x, (f x).length = size) (hv : v = .slice (some ⟨b, 0, none⟩) l.length c) (hx : l[j]? = some x)
    (hu : u.cells.toList = us) (hn : us.length = n) (ho : off + n ≤ size) (hff : ∀ c ∈ us, flat c = true) (hx' : wrL (f x) off us = f x')
    (hk : ∀ w', Sat e w' (L.set i (ownS t size f v (l.set j x'))) → K undef w') : stN n (.pointer (some ⟨b, j * size + off, none⟩)) u w K := by
  have hj := (List.getElem?_eq_some_iff.1 hx).1
  obtain ⟨b', c', cs, hv', hc, hn', ht, h1⟩ := hS.own_open i hi (by omega)
  rw [hv] at hv'
  injection hv' with e1 e2 e3
  injection e1 with e1
  injection e1 with e1
  subst e1 e3
  have hle : (j + 1) * size ≤ l.length * size := Nat.mul_le_mul_right _ (by omega)
  have hle2 : l.length * size ≤ c * size := Nat.mul_le_mul_right _ hn'
  rw [Nat.add_mul, Nat.one_mul] at hle
  have hil := (List.getElem?_eq_some_iff.1 hi).1
  refine stN_at h1 i (by rw [List.getElem?_set_self hil]) hu hn (by omega) hff rfl fun w' h2 => hk _ ?_
  rw [List.set_set] at h2
  have h3 := h2.imp_at (Q := ownS t size f v (l.set j x')) i (by rw [List.getElem?_set_self hil]) fun g hg => by
    rw [hv]
    refine own_set hf hc hn' ht hj ?_ hg
    exact (wrL_fld hf hx ht (by omega) hx').symm
  rw [List.set_set] at h3
  exact h3
end
end Go.E
end
section
namespace Go.Proofs.YtbopajpmadlmhaaGreat
open Go Go.E
set_option maxRecDepth 100000
variable {e w : World} {L R : List HP} {K : KV} {S S2 : HP}

def upL (ps : List Int) : Nat → Int → List Int
  | 0, _ => []
  | n + 1, a => if a < 0 then [] else a :: upL ps n (ps.getD a.toNat (-1))
theorem upL_succ (ps : List Int) (n : Nat) (a : Int) : upL ps (n + 1) a = if a < 0 then [] else a :: upL ps n (ps.getD a.toNat (-1)) := rfl
theorem upL_neg (ps : List Int) {a : Int} (h : a < 0) : ∀ n, upL ps n a = []
  | 0 => rfl
  | n + 1 => by rw [upL_succ, if_pos h]
def above (ps : List Int) (a : Int) : List Int := upL ps (a.toNat + 1) a
theorem isA_s {v : Value} {ps : List Int} {a b : Int} (i : Nat) (hi : L[i]? = some S) (hS : Sat e w L) (hr : ∀ g, S g → rdS 1 (intsK .i64) v ps g) (ht : okTree ps) (ha : 0 ≤ a ∧ a < ps.length) (hk : ∀ w', Sat e w' L → K (.bool (decide (b ∈ above ps a))) w') :
    Cl prog 158 #[v, .int .i64 a, .int .i64 b] w K := by
  refine tree_IsA_calls ?_
  unfold tree_IsA
  rw [zero_4]
  refine al_s (cs := [.int .i64 b]) hS rfl fun cb w1 h1 => ?_
  refine al_s (cs := [.bool false]) h1 rfl fun cr w2 h2 => ?_
  refine tree_up_calls ?_
  unfold tree_up
  refine al_s (cs := [v]) h2 ?_ fun cp w3 h3 => ?_
  · obtain ⟨A, c, rfl, _⟩ := hS.shape i hi hr
    rfl
  refine al_s (cs := [.int .i64 a]) h3 rfl fun ca w4 h4 => ?_
  refine rfC_s rfl (by kernel_rfl) h4 fun l E LR w5 Kf rule fin finr h5 => ?_
  refine tree_up_1_calls (t0 := .func (.yield l) #[] #[]) (t1 := .pointer (some ⟨ca, 0, none⟩)) (t2 := .pointer (some ⟨cp, 0, none⟩)) ?_
  unfold tree_up_1
  refine ld1_at h5 2 rfl rfl ?_
  refine ld1_at h5 3 rfl rfl ?_
  have hi6 : (lpC LR l .ready :: dfC E :: blk ca 3 [.int .i64 a] :: blk cp 24 [v] :: blk cr 4 [.bool false] :: blk cb 3 [.int .i64 b] :: L)[i + 6]? = some S := by simpa using hi
  refine lnS_rd h5 (i + 6) hi6 hr ?_
  refine ge_f (by omega) (gd_ff (ld1_at h5 3 rfl rfl (gd_ff (tree_Check_s (i + 6) hi6 h5 hr ?_))))
  have htE : treeE ps = 0 := by unfold treeE; exact if_pos ht
  rw [htE]
  repeat (first | refine gd_tt ?_ | refine gd_ff ?_ | refine gd_tf ?_ | refine gd_ft ?_ | refine gd_u ?_ | refine pk_t ?_ | refine pk_f ?_ | refine iff_t ?_ | refine iff_f ?_ | refine not_t ?_ | refine not_f ?_ | refine beq_s ?_ | refine bne_s ?_ | refine ncP_p ?_ | refine nc_p ?_ | refine fld_at ?_ | refine xt_02 ?_ | refine xt_12 ?_ | refine xt_03 ?_ | refine xt_13 ?_ | refine xt_23 ?_ | refine eq_t (by omega) ?_ | refine eq_f (by omega) ?_ | refine ne_t (by omega) ?_ | refine ne_f (by omega) ?_ | refine lt_t (by omega) ?_ | refine lt_f (by omega) ?_ | refine gt_t (by omega) ?_ | refine gt_f (by omega) ?_ | refine ge_t (by omega) ?_ | refine ge_f (by omega) ?_ | refine le_t (by omega) ?_ | refine le_f (by omega) ?_)
  refine lpi0 (fun n w => ∃ z : Int, z < n ∧ -1 ≤ z ∧ z < ps.length ∧ (b ∈ above ps a ↔ b ∈ upL ps n z) ∧
      Sat e w (lpC LR l .ready :: dfC E :: blk ca 3 [.int .i64 z] :: blk cp 24 [v] :: blk cr 4 [.bool false] :: blk cb 3 [.int .i64 b] :: L)) (a.toNat + 1) ⟨a, by omega, by omega, by omega, Iff.rfl, h5⟩ ?_
  rintro n w g1 ⟨z, hzn, hz1, hzl, hiff, h6⟩ hg
  refine ld1_at h6 2 rfl rfl ?_
  by_cases hz : 0 ≤ z
  case neg =>
    refine ge_f (by omega) (iff_f ?_)
    have hb : ¬ b ∈ above ps a := by rw [hiff, upL_neg ps (by omega)]; simp
    refine fin h6 fun w7 h7 => ?_
    refine stN_at h7 3 rfl (vs := [.bool false]) rfl rfl (by simp) (by simp [flat]) (cs' := [.bool false]) (by rfl) fun w8 h8 => ?_
    refine rdef_s h8 fun w9 h9 => ?_
    refine ld1_at h9 2 rfl rfl ?_
    have := hk _ (h9.selR [_, _, _, _] [] [] (by decide) rfl)
    rw [decide_eq_false hb] at this
    exact this
  refine ge_t (by omega) (iff_t (ld1_at h6 2 rfl rfl ?_))
  obtain ⟨m, rfl⟩ : ∃ m, n = m + 1 := ⟨n - 1, by omega⟩
  rw [upL_succ, if_neg (by omega)] at hiff
  refine rule h6 rfl ?_
  show bgn l w fun w => ld1 _ w fun t13 w => bi .eql .i64 (.int .i64 z) t13 w fun t14 w => _
  refine bgn_s h6 fun w7 h7 => ?_
  refine ld1_at h7 5 rfl rfl ?_
  refine eq_c (fun c1 => iff_t ?_) (fun c1 => iff_f ?_)
  · refine stN_at h7 4 rfl (vs := [.bool true]) rfl rfl (by simp) (by simp [flat]) (cs' := [.bool true]) (by rfl) fun w8 h8 => ?_
    refine edr_s h8 fun w9 h9 => ?_
    refine not_f (iff_t ?_)
    have hb : b ∈ above ps a := by rw [hiff, c1]; simp
    refine finr h9 fun w10 h10 => ?_
    refine rdef_s h10 fun w11 h11 => ?_
    refine ld1_at h11 2 rfl rfl ?_
    have := hk _ (h11.selR [_, _, _, _] [] [] (by decide) rfl)
    rw [decide_eq_true hb] at this
    exact this
  · refine edn_s h7 fun w9 h9 => ?_
    refine not_t (iff_f ?_)
    refine ld1_at h9 3 rfl rfl (ld1_at h9 2 rfl rfl ?_)
    obtain ⟨y, hy⟩ := get_of_lt (l := ps) (j := z.toNat) (by omega)
    have hzN : z = ((z.toNat : Nat) : Int) := by omega
    have hp := ht.2.2 z.toNat y hy
    have hpl := ht.2.1
    have hgd : ps.getD z.toNat (-1) = y := by rw [List.getD_eq_getElem?_getD, hy]; rfl
    rw [hgd] at hiff
    have hi9 : (lpC LR l .ready :: dfC E :: blk ca 3 [.int .i64 z] :: blk cp 24 [v] :: blk cr 4 [.bool false] :: blk cb 3 [.int .i64 b] :: L)[i + 6]? = some S := by simpa using hi
    rw [show Value.int .i64 z = .int .i64 ((z.toNat : Nat) : Int) from by rw [← hzN]]
    refine ixS_rd h9 (i + 6) hi9 hr (fun _ => rfl) hy fun q hq => ?_
    refine ld1_of h9 (i + 6) hi9 hq (v := .int .i64 y) rfl ?_
    refine stN_at h9 2 rfl (vs := [.int .i64 y]) rfl rfl (by simp) (by simp [flat]) (cs' := [.int .i64 y]) (by rfl) fun w10 h10 => ?_
    refine hg m _ (by omega) ⟨y, by omega, by omega, by omega, ?_, h10⟩
    rw [hiff]
    simp [Ne.symm c1]

def hearsB (ps : List Int) (c : Int) (f : Fed) : Bool := f.Subs.any fun s => decide (s ∈ above ps c)
def routesL (ps : List Int) (f c : Int) (l : List Fed) : List Int := (l.zipIdx.filter fun p => decide ((p.2 : Int) ≠ f) && hearsB ps c p.1).map fun p => (p.2 : Int)
theorem routesL_snoc (ps : List Int) (f c : Int) (l : List Fed) (x : Fed) : routesL ps f c (l ++ [x]) = routesL ps f c l ++ if (l.length : Int) ≠ f ∧ hearsB ps c x = true then [(l.length : Int)] else [] := by
  unfold routesL
  rw [List.zipIdx_append, List.filter_append, List.map_append]
  congr 1
  simp only [List.zipIdx_singleton, Nat.zero_add, List.filter_cons, List.filter_nil]
  by_cases h : (l.length : Int) ≠ f ∧ hearsB ps c x = true
  · rw [if_pos h, if_pos (by simp [h])]; rfl
  · rw [if_neg h, if_neg (by simpa using h)]; rfl
theorem routesL_len (ps : List Int) (f c : Int) (l : List Fed) : (routesL ps f c l).length ≤ l.length := by
  unfold routesL
  rw [List.length_map]
  exact Nat.le_trans (List.length_filter_le _ _) (by simp)
theorem containsInt_s {v fv : Value} {l : List Int} {p : Int → Bool} (i : Nat) (hi : L[i]? = some S) (hS : Sat e w L) (hr : ∀ g, S g → rdS 1 (intsK .i64) v l g) (hl : l.length ≤ 1000000)
    (hp : ∀ o ∈ l, ∀ (w : World) (K : KV), Sat e w L → (∀ w', Sat e w' L → K (.bool (p o)) w') → clV prog fv #[.int .i64 o] w K)
    (hk : ∀ w', Sat e w' L → K (.bool (l.any p)) w') : Cl prog 156 #[v, fv] w K := by
  refine slices_ContainsFunc_int_int_calls ?_
  unfold slices_ContainsFunc_int_int
  refine slices_IndexFunc_int_int_calls ?_
  unfold slices_IndexFunc_int_int
  refine lnS_rd hS i hi hr ?_
  refine lpi1 (fun q t8 w => ∃ j : Nat, j ≤ l.length ∧ t8 = .int .i64 j ∧ q = l.length - j ∧ (∀ o ∈ l.take j, p o = false) ∧ Sat e w L) l.length ⟨0, Nat.zero_le _, rfl, rfl, by simp, hS⟩ ?_
  rintro q _ w g ⟨j, hj, rfl, rfl, hno, h1⟩ hg
  refine lt_c (fun c => iff_t ?_) (fun c => iff_f ?_)
  · obtain ⟨o, ho⟩ := get_of_lt (l := l) (j := j) (by omega)
    refine ixS_rd h1 i hi hr (fun _ => rfl) ho fun a ha => ?_
    refine ld1_of h1 i hi ha (v := .int .i64 o) rfl ?_
    refine hp o (List.mem_of_getElem? ho) _ _ h1 fun w2 h2 => ?_
    cases hpo : p o with
    | true =>
      refine iff_t (ge_t (by omega) ?_)
      have := hk _ h2
      rw [List.any_eq_true.2 ⟨o, List.mem_of_getElem? ho, hpo⟩] at this
      exact this
    | false =>
      refine iff_f (inc_s (by omega) ?_)
      refine hg _ _ _ (by omega) ⟨j + 1, by omega, rfl, rfl, fun y hy => ?_, h2⟩
      rw [take_snoc ho] at hy
      rcases List.mem_append.1 hy with h | h
      · exact hno y h
      · rw [List.mem_singleton.1 h]; exact hpo
  · have ej : j = l.length := by omega
    rw [ej, List.take_length] at hno
    refine ge_f (by omega) ?_
    have := hk _ h1
    rw [List.any_eq_false.2 fun o ho => by rw [hno o ho]; decide] at this
    exact this
theorem routes_s {x : WdX} {f c : Int} (i : Nat) (hi : L[i]? = some S) (hS : Sat e w L) (hr : ∀ g, S g → RdWd x g) (hs : x.short) (ht : okTree x.Parents) (hc : 0 ≤ c ∧ c < x.Parents.length)
    (hk : ∀ v w', Sat e w' (ownS 3 1 (intsK .i64) v (routesL x.w.Parents f c x.w.Feds) :: L) → K v w') : Cl prog 110 #[.agg x.cs.toArray, .int .i64 f, .int .i64 c] w K := by
  refine config_Routes_calls ?_
  unfold config_Routes
  refine al_s (cs := x.cs) hS rfl fun b w1 h1 => ?_
  refine al_s (cs := [.int .i64 c]) h1 rfl fun cb w2 h2 => ?_
  refine fld_at (ld1_at h2 1 rfl (v := x.fv) rfl ?_)
  have hi2 : (blk cb 3 [.int .i64 c] :: blk b 27 x.cs :: L)[i + 2]? = some S := by simpa using hi
  refine lnS_rd h2 (i + 2) hi2 (fun g hg => (hr g hg).feds) ?_
  have hfl := hs.feds
  rw [zero_66]
  refine lpi2 (fun q t7 t13 w => ∃ j : Nat, j ≤ x.Feds.length ∧ t13 = .int .i64 j ∧ q = x.Feds.length - j ∧ Sat e w (ownS 3 1 (intsK .i64) t7 (routesL x.Parents f c ((x.Feds.take j).map FedX.f)) :: blk cb 3 [.int .i64 c] :: blk b 27 x.cs :: L)) x.Feds.length
    ⟨0, Nat.zero_le _, rfl, rfl, h2.own_nil 3 1 (intsK .i64)⟩ ?_
  rintro q t7 _ w g ⟨j, hj, rfl, rfl, h3⟩ hg
  have hi3 : (ownS 3 1 (intsK .i64) t7 (routesL x.Parents f c ((x.Feds.take j).map FedX.f)) :: blk cb 3 [.int .i64 c] :: blk b 27 x.cs :: L)[i + 3]? = some S := by simpa using hi
  refine lt_c (fun c0 => iff_t ?_) (fun c0 => iff_f ?_)
  · obtain ⟨fd, hf⟩ := get_of_lt (l := x.Feds) (j := j) (by omega)
    have hfm := List.mem_of_getElem? hf
    have hlen : ((x.Feds.take j).map FedX.f).length = j := by rw [List.length_map, List.length_take]; omega
    have hsn : routesL x.Parents f c ((x.Feds.take (j + 1)).map FedX.f) = routesL x.Parents f c ((x.Feds.take j).map FedX.f) ++ if (j : Int) ≠ f ∧ hearsB x.Parents c fd.f = true then [(j : Int)] else [] := by
      rw [take_snoc hf, List.map_append, List.map_singleton, routesL_snoc, hlen]
    have hrl := routesL_len x.Parents f c ((x.Feds.take j).map FedX.f)
    rw [hlen] at hrl
    refine J1.cut (fun t7 w => Sat e w (ownS 3 1 (intsK .i64) t7 (routesL x.Parents f c ((x.Feds.take (j + 1)).map FedX.f)) :: blk cb 3 [.int .i64 c] :: blk b 27 x.cs :: L)) (fun k2 hcut => ?_) (fun t7 w h4 => ?_)
    · rw [hsn] at hcut
      refine ixS_rd h3 (i + 3) hi3 (fun g hg => (hr g hg).feds) (fun _ => rfl) hf fun a ha => ?_
      refine ldN_of h3 (i + 3) hi3 ha rfl ?_
      refine al_s (cs := [.int .i64 0, .int .i64 0, .int .i64 0, .slice none 0 0, .slice none 0 0, .slice none 0 0, .slice none 0 0]) h3 rfl fun t w5 h5 => ?_
      refine stN_at h5 0 rfl (vs := fd.cs) rfl rfl (by simp) (fed_cells i hi hS fun g hg => (hr g hg).fed fd hfm) (cs' := fd.cs) (by rfl) fun w6 h6 => ?_
      refine ne_c (fun c1 => ?_) (fun c1 => ?_)
      · refine gd_tt (fld_at (gd_tt (ld1_at h6 0 rfl (v := fd.sv) rfl (gd_tt (gd_tt ?_)))))
        refine containsInt_s (p := fun s => decide (s ∈ above x.Parents c)) (i + 4) (by simpa using hi) h6 (fun g hg => ((hr g hg).fed fd hfm).subs) (by have := (hs.fed fd hfm).subs; omega) (fun o ho w K h hK => ?_) fun w7 h7 => ?_
        · refine ⟨_, _, _, rfl, ?_⟩
          refine config_Routes_1_calls (t0 := .int .i64 o) (t1 := .pointer (some ⟨b, 0, none⟩)) (t2 := .pointer (some ⟨cb, 0, none⟩)) ?_
          unfold config_Routes_1
          refine fld_at (ld1_at h 3 rfl (v := x.pv) rfl ?_)
          refine ld1_at h 2 rfl rfl ?_
          exact isA_s (i + 4) (by simpa using hi) h (fun g hg => (hr g hg).par) ht hc fun w' h' => hK _ h'
        · refine pk_t (iff_b _ (fun hh => ?_) (fun hh => ?_))
          · have hh' : hearsB x.Parents c fd.f = true := hh
            rw [if_pos ⟨c1, hh'⟩] at hcut
            refine push1 te_24 (f := intsK .i64) (fun _ => rfl) (fun _ _ h => by simp [intsK] at h; subst h; rfl) (h7.pick 1 rfl) (x := (j : Int)) rfl (by omega) fun v' w8 h8 => ?_
            exact hcut _ _ (h8.selR [_, _, _, _] [_, _, _] [0, 2, 3] (by decide) rfl)
          · have hh' : ¬ hearsB x.Parents c fd.f = true := by unfold hearsB; rw [show fd.f.Subs = fd.Subs from rfl, hh]; decide
            rw [if_neg fun h => hh' h.2, List.append_nil] at hcut
            exact hcut _ _ h7.drop
      · repeat (first | refine gd_tt ?_ | refine gd_ff ?_ | refine gd_tf ?_ | refine gd_ft ?_ | refine gd_u ?_ | refine pk_t ?_ | refine pk_f ?_ | refine iff_t ?_ | refine iff_f ?_ | refine not_t ?_ | refine not_f ?_ | refine beq_s ?_ | refine bne_s ?_ | refine ncP_p ?_ | refine nc_p ?_ | refine fld_at ?_ | refine xt_02 ?_ | refine xt_12 ?_ | refine xt_03 ?_ | refine xt_13 ?_ | refine xt_23 ?_ | refine eq_t (by omega) ?_ | refine eq_f (by omega) ?_ | refine ne_t (by omega) ?_ | refine ne_f (by omega) ?_ | refine lt_t (by omega) ?_ | refine lt_f (by omega) ?_ | refine gt_t (by omega) ?_ | refine gt_f (by omega) ?_ | refine ge_t (by omega) ?_ | refine ge_f (by omega) ?_ | refine le_t (by omega) ?_ | refine le_f (by omega) ?_)
        rw [if_neg fun h => h.1 c1, List.append_nil] at hcut
        exact hcut _ _ h6.drop
    · refine inc_s (by omega) ?_
      exact hg _ _ _ _ (by omega) ⟨j + 1, by omega, rfl, rfl, h4⟩
  · have ej : j = x.Feds.length := by omega
    rw [ej, List.take_length] at h3
    exact hk _ _ (h3.selR [_, _, _] [_] [0] (by decide) rfl)
end Go.Proofs.YtbopajpmadlmhaaGreat
namespace Go.Proofs.YtbopajpmadlmhaaGreat
open Go Go.E
set_option maxRecDepth 100000
variable {e w : World} {L R : List HP} {K : KV} {S S2 : HP}

theorem tmodK (a : Int) : ∃ k : Int, a = 1000 * k + a.tmod 1000 ∧ -999 ≤ a.tmod 1000 ∧ a.tmod 1000 ≤ 999 := by
  refine ⟨a.tdiv 1000, (Int.mul_tdiv_add_tmod a 1000).symm, ?_, ?_⟩
  · by_cases h : 0 ≤ a
    · have := Int.tmod_nonneg 1000 h; omega
    · have h1 := Int.neg_tmod a 1000
      have h2 := Int.tmod_lt_of_pos (-a) (show (0 : Int) < 1000 by decide)
      rw [h1] at h2
      omega
  · have := Int.tmod_lt_of_pos a (show (0 : Int) < 1000 by decide); omega
theorem modulo_s {n : Int} (hk : K (.int .i64 (n % 1000)) w) : Cl prog 155 #[.int .i64 n] w K := by
  refine table_modulo_calls ?_
  unfold table_modulo
  refine rem_s (by decide) ?_
  obtain ⟨k, h1, h2, h3⟩ := tmodK n
  generalize n.tmod 1000 = r at h1 h2 h3
  refine lt_c (fun c => iff_t ?_) (fun c => iff_f ?_)
  · refine add_s (by omega) (by omega) ?_
    rw [show r + 1000 = n % 1000 from by omega]
    exact hk
  · rw [show r = n % 1000 from by omega]
    exact hk
def sentM (f seq now body : Int) (o : Out) : Msg := ⟨⟨addT now o.Delay, f, seq⟩, -1, o.Class, (body + o.Add) % 1000⟩
theorem sent_s {f seq now body : Int} {o : Out} (hS : Sat e w L) (hk : ∀ w', Sat e w' L → K (.agg (sentM f seq now body o).cs.toArray) w') :
    Cl prog 109 #[.int .i64 f, .int .i64 seq, .int .i64 now, .int .i64 body, .agg o.cs.toArray] w K := by
  refine table_Sent_calls ?_
  unfold table_Sent
  refine al_s (cs := o.cs) hS rfl fun t9 w1 h1 => ?_
  rw [zero_37]
  refine al_s (cs := Msg.zero.cs) h1 rfl fun t10 w2 h2 => ?_
  refine dr_s h2 fun w3 h3 => ?_
  refine fld_at (ld1_at h3 1 rfl (v := .int .i64 o.Delay) rfl ?_)
  refine fld_at (ld1_at h3 1 rfl (v := .int .i64 o.Class) rfl ?_)
  refine fld_at (ld1_at h3 1 rfl (v := .int .i64 o.Add) rfl ?_)
  refine vtime_Add_s ?_
  have oA : ld1 (.pointer (some ⟨t9, 0 + 2, none⟩)) w3 (fun v' w'' => v' = .int .i64 o.Add ∧ w'' = w3) := ld1_at h3 1 rfl (v := .int .i64 o.Add) rfl ⟨rfl, rfl⟩
  have oC : ld1 (.pointer (some ⟨t9, 0 + 0, none⟩)) w3 (fun v' w'' => v' = .int .i64 o.Class ∧ w'' = w3) := ld1_at h3 1 rfl (v := .int .i64 o.Class) rfl ⟨rfl, rfl⟩
  have key : ∀ K : KV, K (.agg (ints [addT now o.Delay, f, seq]).toArray) w3 → bld (zeroD prog 35) #[(0, 1), (1, 1), (2, 1)] [(0, .int .i64 (addT now o.Delay)), (1, .int .i64 f), (2, .int .i64 seq)] w3 K := fun K h => bld_s (ints [addT now o.Delay, f, seq]) (by kernel_rfl) h
  have e0 : (body % 1000 + o.Add % 1000) % 1000 = (body + o.Add) % 1000 := by omega
  have fin : bld #[.int .i64 0, .int .i64 0, .int .i64 0, .int .i64 0, .int .i64 0, .int .i64 0] #[(0, 3), (3, 1), (4, 1), (5, 1)] [(0, .agg (ints [addT now o.Delay, f, seq]).toArray), (1, .int .i64 (-1)), (2, .int .i64 o.Class), (3, .int .i64 ((body % 1000 + o.Add % 1000) % 1000))] w3 fun t27 w =>
      stN 6 (.pointer (some ⟨t10, 0, none⟩)) t27 w fun _ w => ldN 6 (.pointer (some ⟨t10, 0, none⟩)) w fun r0 _ => K r0 w := by
    rw [e0]
    refine bld_s (sentM f seq now body o).cs (by kernel_rfl) ?_
    refine stN_at h3 0 rfl (vs := (sentM f seq now body o).cs) rfl rfl (by simp [ints, Msg.ns, Msg.zero]) (ints_flat _) (cs' := (sentM f seq now body o).cs) (by rfl) fun w4 h4 => ?_
    refine ldN_at h4 0 (vs := (sentM f seq now body o).cs) rfl (by rfl) rfl ?_
    exact hk _ h4.drop.drop
  have mA : ∀ K : KV, K (.int .i64 (o.Add % 1000)) w3 → Cl prog 155 #[.int .i64 o.Add] w3 K := fun K h => modulo_s h
  have mB : ∀ K : KV, K (.int .i64 (body % 1000)) w3 → Cl prog 155 #[.int .i64 body] w3 K := fun K h => modulo_s h
  have mS : ∀ K : KV, K (.int .i64 ((body % 1000 + o.Add % 1000) % 1000)) w3 → Cl prog 155 #[.int .i64 (body % 1000 + o.Add % 1000)] w3 K := fun K h => modulo_s h
  refine ⟨oA, oC, ?_, ?_⟩
  · refine key _ ⟨oA, oC, mB _ ⟨oA, oC, mA _ ⟨oC, add_s (by omega) (by omega) (mS _ ⟨oC, ?_⟩)⟩⟩⟩
    exact fin
  · refine mB _ ⟨oA, oC, key _ ⟨oA, oC, mA _ ⟨oC, add_s (by omega) (by omega) (mS _ ⟨oC, ?_⟩)⟩⟩, ?_⟩
    · exact fin
    · refine mA _ ⟨oC, add_s (by omega) (by omega) ⟨key _ ⟨oA, oC, mS _ ⟨oC, ?_⟩⟩, mS _ ⟨oC, key _ ⟨oA, oC, ?_⟩⟩⟩⟩
      · exact fin
      · exact fin

def spreadL (ps : List Int) (feds : List Fed) (f seq now body : Int) (outs : List Out) : List Msg := outs.zipIdx.flatMap fun p => (routesL ps f p.1.Class feds).map fun to => { sentM f (seq + p.2) now body p.1 with To := to }
theorem spreadL_snoc (ps : List Int) (feds : List Fed) (f seq now body : Int) (outs : List Out) (o : Out) : spreadL ps feds f seq now body (outs ++ [o]) = spreadL ps feds f seq now body outs ++ (routesL ps f o.Class feds).map fun to => { sentM f (seq + outs.length) now body o with To := to } := by
  unfold spreadL
  rw [List.zipIdx_append, List.flatMap_append]
  simp
theorem spreadL_len (ps : List Int) (feds : List Fed) (f seq now body : Int) (outs : List Out) : (spreadL ps feds f seq now body outs).length ≤ outs.length * feds.length := by
  have key : ∀ (l : List (Out × Nat)), (l.flatMap fun p => (routesL ps f p.1.Class feds).map fun to => ({ sentM f (seq + p.2) now body p.1 with To := to } : Msg)).length ≤ l.length * feds.length := by
    intro l
    induction l with
    | nil => simp
    | cons p l ih =>
      rw [List.flatMap_cons, List.length_append, List.length_map, List.length_cons, Nat.add_mul]
      have := routesL_len ps f p.1.Class feds
      omega
  have := key outs.zipIdx
  rw [List.length_zipIdx] at this
  exact this
def okSend (n : Nat) (o : Out) : Prop := 0 ≤ o.Class ∧ o.Class < n ∧ 0 ≤ o.Add
theorem spread_s {x : WdX} {f seq now body : Int} {v : Value} {outs : List Out} (i k : Nat) (hi : L[i]? = some S) (hk2 : L[k]? = some S2) (hS : Sat e w L) (hr : ∀ g, S g → RdWd x g) (hr2 : ∀ g, S2 g → rdS 3 Out.cs v outs g) (hs : x.short) (ht : okTree x.Parents)
    (ho : ∀ o ∈ outs, okSend x.Parents.length o) (hl : outs.length ≤ 1000) (hq : 0 ≤ seq ∧ seq ≤ 1125899906842624)
    (hk : ∀ v w', Sat e w' (ownS 37 6 Msg.cs v (spreadL x.w.Parents x.w.Feds f seq now body outs) :: L) → K v w') : Cl prog 56 #[.agg x.cs.toArray, .int .i64 f, .int .i64 seq, .int .i64 now, .int .i64 body, v] w K := by
  refine config_Spread_calls ?_
  unfold config_Spread
  refine al_s (cs := x.cs) hS rfl fun b w1 h1 => ?_
  have hi1 : (blk b 27 x.cs :: L)[i + 1]? = some S := by simpa using hi
  have hk1 : (blk b 27 x.cs :: L)[k + 1]? = some S2 := by simpa using hk2
  refine lnS_rd h1 (k + 1) hk1 hr2 ?_
  have hfl := hs.feds
  rw [zero_87, zero_37]
  have hflat := wd_cells i hi hS hr
  refine lpi2 (fun q t13 t21 w => ∃ j : Nat, j ≤ outs.length ∧ t21 = .int .i64 j ∧ q = outs.length - j ∧ Sat e w (ownS 37 6 Msg.cs t13 (spreadL x.w.Parents x.w.Feds f seq now body (outs.take j)) :: blk b 27 x.cs :: L)) outs.length
    ⟨0, Nat.zero_le _, rfl, rfl, h1.own_nil 37 6 Msg.cs⟩ ?_
  rintro q t13 _ w g ⟨j, hj, rfl, rfl, h2⟩ hg
  refine lt_c (fun c0 => iff_t ?_) (fun c0 => iff_f ?_)
  · obtain ⟨o, hoj⟩ := get_of_lt (l := outs) (j := j) (by omega)
    obtain ⟨o1, o2, o3⟩ := ho o (List.mem_of_getElem? hoj)
    have hlen : (outs.take j).length = j := by rw [List.length_take]; omega
    have hsn : spreadL x.w.Parents x.w.Feds f seq now body (outs.take (j + 1)) = spreadL x.w.Parents x.w.Feds f seq now body (outs.take j) ++ (routesL x.w.Parents f o.Class x.w.Feds).map fun to => { sentM f (seq + j) now body o with To := to } := by
      rw [take_snoc hoj, spreadL_snoc, hlen]
    have hsl := spreadL_len x.w.Parents x.w.Feds f seq now body (outs.take j)
    have hfl2 : x.w.Feds.length ≤ 1000 := by simp only [WdX.w, List.length_map]; exact hfl
    rw [hlen] at hsl
    have hsl2 : j * x.w.Feds.length ≤ 1000 * 1000 := Nat.mul_le_mul (by omega) hfl2
    have hi2 : (ownS 37 6 Msg.cs t13 (spreadL x.w.Parents x.w.Feds f seq now body (outs.take j)) :: blk b 27 x.cs :: L)[i + 2]? = some S := by simpa using hi
    have hk3 : (ownS 37 6 Msg.cs t13 (spreadL x.w.Parents x.w.Feds f seq now body (outs.take j)) :: blk b 27 x.cs :: L)[k + 2]? = some S2 := by simpa using hk2
    refine ixS_rd h2 (k + 2) hk3 hr2 (fun _ => rfl) hoj fun a ha => ?_
    refine ldN_of h2 (k + 2) hk3 ha rfl ?_
    refine al_s (cs := ints [0, 0, 0]) h2 rfl fun t w3 h3 => ?_
    refine stN_at h3 0 rfl (vs := o.cs) rfl rfl (by decide) (ints_flat _) (cs' := o.cs) (by rfl) fun w4 h4 => ?_
    refine add_s (by omega) (by omega) ?_
    refine ldN_at h4 0 (vs := o.cs) rfl (by rfl) rfl ?_
    refine sent_s h4 fun w5 h5 => ?_
    refine al_s (cs := Msg.zero.cs) h5 rfl fun tm w6 h6 => ?_
    generalize hm : sentM f (seq + j) now body o = m at hsn h6 ⊢
    have hmc : m.Class = o.Class := by rw [← hm]; rfl
    refine stN_at h6 0 rfl (vs := m.cs) rfl rfl (by decide) (ints_flat _) (cs' := m.cs) (by rfl) fun w7 h7 => ?_
    refine ldN_at h7 3 (vs := x.cs) rfl (by rfl) rfl ?_
    refine fld_at (ld1_at h7 0 rfl (v := .int .i64 m.Class) rfl ?_)
    rw [hmc]
    refine routes_s (x := x) (i + 4) (by simpa using hi) h7 hr hs ht ⟨o1, o2⟩ fun tv w8 h8 => ?_
    refine lnS_rd h8 0 rfl (fun g hg => own_rd hg) ?_
    generalize hrt : routesL x.w.Parents f o.Class x.w.Feds = rt at hsn h8 ⊢
    have hrtl : rt.length ≤ 1000 := by rw [← hrt]; exact Nat.le_trans (routesL_len _ _ _ _) hfl2
    refine lpi2 (fun q t13 t40 w => ∃ (n : Nat) (m' : Msg), n ≤ rt.length ∧ t40 = .int .i64 n ∧ q = rt.length - n ∧ (∀ to, { m' with To := to } = { m with To := to }) ∧
        Sat e w (ownS 37 6 Msg.cs t13 (spreadL x.w.Parents x.w.Feds f seq now body (outs.take j) ++ (rt.take n).map fun to => { m with To := to }) :: ownS 3 1 (intsK .i64) tv rt :: blk tm 37 m'.cs :: blk t 87 o.cs :: blk b 27 x.cs :: L)) rt.length
      ⟨0, m, Nat.zero_le _, rfl, rfl, fun _ => rfl, by simpa using h8.selR [_, _, _, _, _] [_, _, _, _, _] [3, 0, 1, 2, 4] (by decide) rfl⟩ ?_
    rintro q t13' _ w g2 ⟨n, m', hn, rfl, rfl, hmm, h9⟩ hg2
    refine lt_c (fun c1 => iff_t ?_) (fun c1 => iff_f ?_)
    · obtain ⟨to, hto⟩ := get_of_lt (l := rt) (j := n) (by omega)
      refine ixS_rd h9 1 rfl (fun g hg => own_rd hg) (fun _ => rfl) hto fun a ha => ?_
      refine ld1_of h9 1 rfl ha (v := .int .i64 to) rfl ?_
      refine fld_at (stN_at h9 2 rfl (vs := ints [to]) rfl rfl (Nat.le_of_ble_eq_true rfl) (ints_flat _) (cs' := ({ m' with To := to } : Msg).cs) (by rfl) fun w10 h10 => ?_)
      refine ldN_at h10 2 (vs := ({ m' with To := to } : Msg).cs) rfl (by rfl) rfl ?_
      refine push1 te_33 (f := Msg.cs) (fun _ => rfl) (fun _ => ints_flat _) h10 (x := { m' with To := to }) rfl (by rw [List.length_append, List.length_map, List.length_take]; omega) fun v' w11 h11 => ?_
      refine inc_s (by omega) ?_
      refine hg2 _ _ _ _ (by omega) ⟨n + 1, { m' with To := to }, by omega, rfl, rfl, fun to' => hmm to', ?_⟩
      rw [take_snoc hto, List.map_append, ← List.append_assoc, List.map_singleton, ← hmm to]
      exact h11
    · have en : n = rt.length := by omega
      rw [en, List.take_length, ← hsn] at h9
      refine inc_s (by omega) ?_
      exact hg _ _ _ _ (by omega) ⟨j + 1, by omega, rfl, rfl, h9.selR [_, _, _, _, _] [_, _] [0, 4] (by decide) rfl⟩
  · have ej : j = outs.length := by omega
    rw [ej, List.take_length] at h2
    exact hk _ _ (h2.selR [_, _] [_] [0] (by decide) rfl)
end Go.Proofs.YtbopajpmadlmhaaGreat
namespace Go.Proofs.YtbopajpmadlmhaaGreat
open Go Go.E
set_option maxRecDepth 100000
variable {e w : World} {L R : List HP} {K : KV} {S S2 : HP}

structure Done where
  m : Msg
  st : Int
  deriving DecidableEq
def Done.ns (d : Done) : List Int := [d.m.key.T, d.m.key.From, d.m.key.Seq, d.m.To, d.m.Class, d.m.Body, d.st]
abbrev Done.cs (d : Done) : List Value := ints d.ns
def Done.zero : Done := ⟨Msg.zero, 0⟩
theorem Done.eq_ns (a b : Done) : (a.ns == b.ns) = decide (a = b) := by
  rw [Bool.eq_iff_iff]
  obtain ⟨⟨⟨a1, a2, a3⟩, a4, a5, a6⟩, a7⟩ := a
  obtain ⟨⟨⟨b1, b2, b3⟩, b4, b5, b6⟩, b7⟩ := b
  simp [Done.ns, and_assoc]
theorem rd_nil {α : Type} {size : Nat} {f : α → List Value} {n c : Nat} {l : List α} (hS : Sat e w (S :: R)) (hr : ∀ g, S g → rdS size f (.slice none n c) l g) : l = [] := by
  obtain ⟨g, hg, _⟩ := hS.get 0 rfl
  obtain ⟨A', c', h1, h2, h3⟩ := hr g hg
  injection h1 with e1 e2 e3
  by_cases h0 : 0 < l.length
  · obtain ⟨a, ha, _⟩ := h3 h0
    rw [← e1] at ha
    cases ha
  · exact List.length_eq_zero_iff.1 (by omega)
theorem clone_ints_s {v : Value} {l : List Int} (hl : l.length ≤ 1000000) (hff : ∀ x ∈ l, ∀ v ∈ (intsK .i64) x, flat v = true) (hS : Sat e w (S :: R)) (hr : ∀ g, S g → rdS 1 (intsK .i64) v l g)
    (hk : ∀ v' w', Sat e w' (ownS 3 1 (intsK .i64) v' l :: S :: R) → K v' w') : Cl prog 95 #[v] w K := by
  refine slices_Clone_int_int_calls ?_
  unfold slices_Clone_int_int
  obtain ⟨A, c, rfl, _⟩ := hS.shape 0 rfl hr
  cases A with
  | none =>
    refine ex_oV (w' := w) (v := .bool true) (by kernel_rfl) ?_
    obtain rfl := rd_nil hS hr
    exact iff_t (hk _ _ (hS.own_nil 3 1 (intsK .i64)))
  | some a =>
    refine ex_oV (w' := w) (v := .bool false) (by kernel_rfl) ?_
    refine iff_f ?_
    refine bsl0 hS (intsK .i64) fun v1 w2 h2 => ?_
    refine apS_ownM te_24 und_24 (f := (intsK .i64)) (fun _ => rfl) hff h2 hr (by simp; omega) fun v2 w3 h3 => ?_
    rw [List.nil_append] at h3
    exact hk _ _ h3
theorem clone_outs_s {v : Value} {l : List Out} (hl : l.length ≤ 1000000) (hff : ∀ x ∈ l, ∀ v ∈ Out.cs x, flat v = true) (hS : Sat e w (S :: R)) (hr : ∀ g, S g → rdS 3 Out.cs v l g)
    (hk : ∀ v' w', Sat e w' (ownS 87 3 Out.cs v' l :: S :: R) → K v' w') : Cl prog 97 #[v] w K := by
  refine slices_Clone_api_Out_api_Out_calls ?_
  unfold slices_Clone_api_Out_api_Out
  obtain ⟨A, c, rfl, _⟩ := hS.shape 0 rfl hr
  cases A with
  | none =>
    refine ex_oV (w' := w) (v := .bool true) (by kernel_rfl) ?_
    obtain rfl := rd_nil hS hr
    exact iff_t (hk _ _ (hS.own_nil 87 3 Out.cs))
  | some a =>
    refine ex_oV (w' := w) (v := .bool false) (by kernel_rfl) ?_
    refine iff_f ?_
    refine bsl0 hS Out.cs fun v1 w2 h2 => ?_
    refine apS_ownM te_61 und_61 (f := Out.cs) (fun _ => rfl) hff h2 hr (by simp; omega) fun v2 w3 h3 => ?_
    rw [List.nil_append] at h3
    exact hk _ _ h3
theorem clone_rules_s {v : Value} {l : List RuleX} (hl : l.length ≤ 1000000) (hff : ∀ x ∈ l, ∀ v ∈ RuleX.cs x, flat v = true) (hS : Sat e w (S :: R)) (hr : ∀ g, S g → rdS 4 RuleX.cs v l g)
    (hk : ∀ v' w', Sat e w' (ownS 89 4 RuleX.cs v' l :: S :: R) → K v' w') : Cl prog 98 #[v] w K := by
  refine slices_Clone_api_Rule_api_Rule_calls ?_
  unfold slices_Clone_api_Rule_api_Rule
  obtain ⟨A, c, rfl, _⟩ := hS.shape 0 rfl hr
  cases A with
  | none =>
    refine ex_oV (w' := w) (v := .bool true) (by kernel_rfl) ?_
    obtain rfl := rd_nil hS hr
    exact iff_t (hk _ _ (hS.own_nil 89 4 RuleX.cs))
  | some a =>
    refine ex_oV (w' := w) (v := .bool false) (by kernel_rfl) ?_
    refine iff_f ?_
    refine bsl0 hS RuleX.cs fun v1 w2 h2 => ?_
    refine apS_ownM te_64 und_64 (f := RuleX.cs) (fun _ => rfl) hff h2 hr (by simp; omega) fun v2 w3 h3 => ?_
    rw [List.nil_append] at h3
    exact hk _ _ h3
theorem clone_feds_s {v : Value} {l : List FedX} (hl : l.length ≤ 1000000) (hff : ∀ x ∈ l, ∀ v ∈ FedX.cs x, flat v = true) (hS : Sat e w (S :: R)) (hr : ∀ g, S g → rdS 7 FedX.cs v l g)
    (hk : ∀ v' w', Sat e w' (ownS 66 7 FedX.cs v' l :: S :: R) → K v' w') : Cl prog 96 #[v] w K := by
  refine slices_Clone_api_Fed_api_Fed_calls ?_
  unfold slices_Clone_api_Fed_api_Fed
  obtain ⟨A, c, rfl, _⟩ := hS.shape 0 rfl hr
  cases A with
  | none =>
    refine ex_oV (w' := w) (v := .bool true) (by kernel_rfl) ?_
    obtain rfl := rd_nil hS hr
    exact iff_t (hk _ _ (hS.own_nil 66 7 FedX.cs))
  | some a =>
    refine ex_oV (w' := w) (v := .bool false) (by kernel_rfl) ?_
    refine iff_f ?_
    refine bsl0 hS FedX.cs fun v1 w2 h2 => ?_
    refine apS_ownM te_25 und_25 (f := FedX.cs) (fun _ => rfl) hff h2 hr (by simp; omega) fun v2 w3 h3 => ?_
    rw [List.nil_append] at h3
    exact hk _ _ h3
theorem clone_dones_s {v : Value} {l : List Done} (hl : l.length ≤ 1000000) (hff : ∀ x ∈ l, ∀ v ∈ Done.cs x, flat v = true) (hS : Sat e w (S :: R)) (hr : ∀ g, S g → rdS 7 Done.cs v l g)
    (hk : ∀ v' w', Sat e w' (ownS 45 7 Done.cs v' l :: S :: R) → K v' w') : Cl prog 69 #[v] w K := by
  refine slices_Clone_api_Done_api_Done_calls ?_
  unfold slices_Clone_api_Done_api_Done
  obtain ⟨A, c, rfl, _⟩ := hS.shape 0 rfl hr
  cases A with
  | none =>
    refine ex_oV (w' := w) (v := .bool true) (by kernel_rfl) ?_
    obtain rfl := rd_nil hS hr
    exact iff_t (hk _ _ (hS.own_nil 45 7 Done.cs))
  | some a =>
    refine ex_oV (w' := w) (v := .bool false) (by kernel_rfl) ?_
    refine iff_f ?_
    refine bsl0 hS Done.cs fun v1 w2 h2 => ?_
    refine apS_ownM te_52 und_52 (f := Done.cs) (fun _ => rfl) hff h2 hr (by simp; omega) fun v2 w3 h3 => ?_
    rw [List.nil_append] at h3
    exact hk _ _ h3
def stepR (l : List Rule) (s c : Int) : Int × List Out := match l.find? fun r => decide (r.State = s) && decide (r.Class = c) with
  | some r => (r.Next, r.Sends)
  | none => (s, [])
theorem stepR_none {l : List RuleX} {s c : Int} (h : ∀ r ∈ l, ¬ isOn s c r) : stepR (l.map RuleX.r) s c = (s, []) := by
  unfold stepR
  rw [List.find?_eq_none.2]
  intro r hr
  obtain ⟨x, hx, rfl⟩ := List.mem_map.1 hr
  have := h x hx
  unfold isOn at this
  intro hd
  rw [Bool.and_eq_true] at hd
  exact this ⟨of_decide_eq_true hd.1, of_decide_eq_true hd.2⟩
theorem stepR_some {l : List RuleX} {s c : Int} {j : Nat} {r : RuleX} (hj : l[j]? = some r) (hon : isOn s c r) (hlo : ∀ y ∈ l.take j, ¬ isOn s c y) : stepR (l.map RuleX.r) s c = (r.Next, r.Sends) := by
  unfold stepR
  have hsp : l.map RuleX.r = (l.take j).map RuleX.r ++ r.r :: (l.drop (j + 1)).map RuleX.r := by
    conv => lhs; rw [take_split hj]
    simp
  rw [hsp, List.find?_append]
  have h1 : ((l.take j).map RuleX.r).find? (fun r => decide (r.State = s) && decide (r.Class = c)) = none := by
    rw [List.find?_eq_none]
    intro r hr
    obtain ⟨x, hx, rfl⟩ := List.mem_map.1 hr
    have := hlo x hx
    unfold isOn at this
    intro hd
    rw [Bool.and_eq_true] at hd
    exact this ⟨of_decide_eq_true hd.1, of_decide_eq_true hd.2⟩
  unfold isOn at hon
  rw [h1, Option.none_or, List.find?_cons_of_pos (by simp [RuleX.r, hon])]
  rfl
theorem table_Step_s {v : Value} {l : List RuleX} {s c : Int} (hS : Sat e w (S :: R)) (hr : ∀ g, S g → RdRules v l g) (hl : l.length ≤ 1000) (hl2 : ∀ r ∈ l, r.Sends.length ≤ 1000)
    (hk : ∀ v' w', Sat e w' (ownS 87 3 Out.cs v' (stepR (l.map RuleX.r) s c).2 :: S :: R) → K (.tuple #[.int .i64 (stepR (l.map RuleX.r) s c).1, v']) w') : Cl prog 55 #[v, .int .i64 s, .int .i64 c] w K := by
  refine table_Step_calls ?_
  unfold table_Step
  refine table_Find_calls ?_
  unfold table_Find
  refine al_s (cs := [.int .i64 s]) hS rfl fun bs w1 h1 => ?_
  refine al_s (cs := [.int .i64 c]) h1 rfl fun bc w2 h2 => ?_
  refine slices_IndexFunc_api_Rule_api_Rule_calls ?_
  unfold slices_IndexFunc_api_Rule_api_Rule
  refine lnS_rd h2 2 rfl (fun g hg => (hr g hg).s) ?_
  refine lpi1 (fun q t8 w => ∃ j : Nat, j ≤ l.length ∧ t8 = .int .i64 j ∧ q = l.length - j ∧ (∀ y ∈ l.take j, ¬ isOn s c y) ∧ Sat e w (blk bc 3 [.int .i64 c] :: blk bs 3 [.int .i64 s] :: S :: R)) l.length ⟨0, Nat.zero_le _, rfl, rfl, by simp, h2⟩ ?_
  rintro q _ w g ⟨j, hj, rfl, rfl, hlo, h3⟩ hg
  refine lt_c (fun c0 => iff_t ?_) (fun c0 => iff_f ?_)
  · obtain ⟨r, hrj⟩ := get_of_lt (l := l) (j := j) (by omega)
    have hrm := List.mem_of_getElem? hrj
    refine ixS_rd h3 2 rfl (fun g hg => (hr g hg).s) (fun _ => rfl) hrj fun a ha => ?_
    refine ldN_of h3 2 rfl ha rfl ?_
    refine ⟨_, _, _, rfl, ?_⟩
    refine table_Find_1_calls (t0 := .agg r.cs.toArray) (t1 := .pointer (some ⟨bs, 0, none⟩)) (t2 := .pointer (some ⟨bc, 0, none⟩)) ?_
    unfold table_Find_1
    refine al_s (cs := r.cs) h3 rfl fun t w4 h4 => ?_
    refine fld_at (ld1_at h4 0 rfl (v := .int .i64 r.State) rfl ?_)
    refine ld1_at h4 2 rfl rfl ?_
    have hnext : ¬ isOn s c r → bi .add .i64 (.int .i64 j) (.int .i64 1) w4 fun t18 w => g [t18] w := by
      intro h
      refine inc_s (by omega) ?_
      refine hg _ _ _ (by omega) ⟨j + 1, by omega, rfl, rfl, fun y hy => ?_, h4.drop⟩
      rw [take_snoc hrj] at hy
      rcases List.mem_append.1 hy with h' | h'
      · exact hlo y h'
      · rw [List.mem_singleton.1 h']; exact h
    refine eq_c (fun c1 => ?_) (fun c1 => ?_)
    · refine gd_tt (fld_at (gd_tt (ld1_at h4 0 rfl (v := .int .i64 r.Class) rfl (gd_tt (ld1_at h4 1 rfl rfl ?_)))))
      refine gd_tt (eq_c (fun c2 => ?_) (fun c2 => ?_))
      · refine pk_t (iff_t (lt_f (by omega) (iff_f ?_)))
        rw [stepR_some hrj ⟨c1, c2⟩ hlo] at hk
        refine dr_s h4.drop.drop.drop fun w5 h5 => ?_
        refine ixS_rd h5 0 rfl (fun g hg => (hr g hg).s) (fun _ => rfl) hrj fun a ha => ?_
        refine fld_of ha fun a1 ha1 => ?_
        refine ld1_of h5 0 rfl ha1 (v := .int .i64 r.Next) rfl ?_
        refine ixS_rd h5 0 rfl (fun g hg => (hr g hg).s) (fun _ => rfl) hrj fun a2 ha2 => ?_
        refine fld_of ha2 fun a3 ha3 => ?_
        refine ld1_of h5 0 rfl ha3 (v := r.sv) rfl ?_
        refine clone_outs_s (by have := hl2 r hrm; omega) (fun _ _ => ints_flat _) h5 (fun g hg => (hr g hg).e r hrm) fun v' w6 h6 => ?_
        exact ⟨ld1_of h6 1 rfl ha1 (v := .int .i64 r.Next) rfl ⟨rfl, rfl⟩, hk _ _ h6⟩
      · exact pk_t (iff_f (hnext fun h => c2 h.2))
    · repeat (first | refine gd_tt ?_ | refine gd_ff ?_ | refine gd_tf ?_ | refine gd_ft ?_ | refine gd_u ?_ | refine pk_t ?_ | refine pk_f ?_ | refine iff_t ?_ | refine iff_f ?_ | refine not_t ?_ | refine not_f ?_ | refine beq_s ?_ | refine bne_s ?_ | refine ncP_p ?_ | refine nc_p ?_ | refine fld_at ?_ | refine xt_02 ?_ | refine xt_12 ?_ | refine xt_03 ?_ | refine xt_13 ?_ | refine xt_23 ?_ | refine eq_t (by omega) ?_ | refine eq_f (by omega) ?_ | refine ne_t (by omega) ?_ | refine ne_f (by omega) ?_ | refine lt_t (by omega) ?_ | refine lt_f (by omega) ?_ | refine gt_t (by omega) ?_ | refine gt_f (by omega) ?_ | refine ge_t (by omega) ?_ | refine ge_f (by omega) ?_ | refine le_t (by omega) ?_ | refine le_f (by omega) ?_)
      exact hnext fun h => c1 h.1
  · have ej : j = l.length := by omega
    rw [ej, List.take_length] at hlo
    rw [stepR_none hlo] at hk
    refine lt_t (by omega) (iff_t ?_)
    exact hk _ _ (h3.drop.drop.own_nil 87 3 Out.cs)
end Go.Proofs.YtbopajpmadlmhaaGreat
end
section
namespace Go.Proofs.YtbopajpmadlmhaaGreat
open Go Go.E
set_option maxRecDepth 100000
variable {e w : World} {R : List HP} {K : KV}

def KeyLt (a b : Key) : Prop := a.T < b.T ∨ (a.T = b.T ∧ (a.From < b.From ∨ (a.From = b.From ∧ a.Seq < b.Seq)))
theorem cmpK_cases (a b : Key) : (KeyLt a b ∧ cmpK a b = -1) ∨ (a = b ∧ cmpK a b = 0) ∨ (KeyLt b a ∧ cmpK a b = 1) := by
  obtain ⟨a1, a2, a3⟩ := a
  obtain ⟨b1, b2, b3⟩ := b
  unfold KeyLt cmpK cmpI
  simp only [Key.mk.injEq]
  rcases Int.lt_trichotomy a1 b1 with h | h | h
  · left
    rw [if_pos h]
    simp [h]
  · subst h
    rcases Int.lt_trichotomy a2 b2 with h | h | h
    · left; simp [h]
    · subst h
      rcases Int.lt_trichotomy a3 b3 with h | h | h
      · left; simp [h]
      · subst h; right; left; simp
      · right; right
        have : ¬ a3 < b3 := by omega
        simp [h, this]
    · right; right
      have : ¬ a2 < b2 := by omega
      simp [h, this]
  · right; right
    have : ¬ a1 < b1 := by omega
    simp [h, this]
theorem KeyLt.asymm {a b : Key} (h : KeyLt a b) : ¬ KeyLt b a := by unfold KeyLt at *; omega
theorem KeyLt.trans {a b c : Key} (h : KeyLt a b) (k : KeyLt b c) : KeyLt a c := by unfold KeyLt at *; omega
theorem KeyLt.irrefl (a : Key) : ¬ KeyLt a a := by unfold KeyLt; omega
theorem cmpK_lt {a b : Key} : cmpK a b < 0 ↔ KeyLt a b := by
  rcases cmpK_cases a b with ⟨h, e⟩ | ⟨h, e⟩ | ⟨h, e⟩ <;> rw [e]
  · exact ⟨fun _ => h, fun _ => by decide⟩
  · subst h; exact ⟨fun h => by omega, fun h => absurd h (KeyLt.irrefl a)⟩
  · exact ⟨fun h => by omega, fun k => absurd k h.asymm⟩
theorem cmpK_eq {a b : Key} : cmpK a b = 0 ↔ a = b := by
  rcases cmpK_cases a b with ⟨h, e⟩ | ⟨h, e⟩ | ⟨h, e⟩ <;> rw [e]
  · exact ⟨fun h => by omega, fun k => by subst k; exact absurd h (KeyLt.irrefl a)⟩
  · exact ⟨fun _ => h, fun _ => rfl⟩
  · exact ⟨fun h => by omega, fun k => by subst k; exact absurd h (KeyLt.irrefl a)⟩
theorem KeyLt.tri (a b : Key) : KeyLt a b ∨ a = b ∨ KeyLt b a := by
  rcases cmpK_cases a b with ⟨h, _⟩ | ⟨h, _⟩ | ⟨h, _⟩
  · exact .inl h
  · exact .inr (.inl h)
  · exact .inr (.inr h)

theorem ref01_Cmp_s {a b : Key} (hS : Sat e w R) (hk : ∀ w', Sat e w' R → K (.int .i64 (cmpK a b)) w') : Cl prog 29 #[.agg a.cs.toArray, .agg b.cs.toArray] w K := by
  refine pacelineref01_Cmp_calls ?_
  unfold pacelineref01_Cmp
  refine al_s (cs := a.cs) hS rfl fun b2 w1 h1 => ?_
  refine al_s (cs := b.cs) h1 rfl fun b3 w2 h2 => ?_
  refine ldN_at h2 1 (vs := a.cs) rfl (by rfl) rfl ?_
  refine ldN_at h2 0 (vs := b.cs) rfl (by rfl) rfl ?_
  refine bO_eq (ns := a.ns) (ms := b.ns) eqT_35 agg_35 egt_35 (by decide) rfl ?_
  rw [Key.eq_ns]
  have h3 := hk _ h2.drop.drop
  by_cases hab : a = b
  · rw [decide_eq_true hab]
    rw [cmpK_eq.2 hab] at h3
    exact iff_t h3
  · rw [decide_eq_false hab]
    refine iff_f ?_
    rcases cmpK_cases a b with ⟨h, e1⟩ | ⟨h, _⟩ | ⟨h, e1⟩
    · rw [e1] at h3
      rcases h with h | ⟨h0, h | ⟨h1', h⟩⟩
      · repeat (first | refine gd_tt ?_ | refine gd_ff ?_ | refine gd_tf ?_ | refine gd_ft ?_ | refine gd_u ?_ | refine pk_t ?_ | refine pk_f ?_ | refine iff_t ?_ | refine iff_f ?_ | refine not_t ?_ | refine not_f ?_ | refine beq_s ?_ | refine bne_s ?_ | refine ncP_p ?_ | refine nc_p ?_ | refine fld_at ?_ | refine xt_02 ?_ | refine xt_12 ?_ | refine xt_03 ?_ | refine xt_13 ?_ | refine xt_23 ?_ | refine eq_t (by omega) ?_ | refine eq_f (by omega) ?_ | refine ne_t (by omega) ?_ | refine ne_f (by omega) ?_ | refine lt_t (by omega) ?_ | refine lt_f (by omega) ?_ | refine gt_t (by omega) ?_ | refine gt_f (by omega) ?_ | refine ge_t (by omega) ?_ | refine ge_f (by omega) ?_ | refine le_t (by omega) ?_ | refine le_f (by omega) ?_ | refine ld1_at h2 0 rfl rfl ?_ | refine ld1_at h2 1 rfl rfl ?_ | refine ld1_at h2 2 rfl rfl ?_)
        exact h3
      · repeat (first | refine gd_tt ?_ | refine gd_ff ?_ | refine gd_tf ?_ | refine gd_ft ?_ | refine gd_u ?_ | refine pk_t ?_ | refine pk_f ?_ | refine iff_t ?_ | refine iff_f ?_ | refine not_t ?_ | refine not_f ?_ | refine beq_s ?_ | refine bne_s ?_ | refine ncP_p ?_ | refine nc_p ?_ | refine fld_at ?_ | refine xt_02 ?_ | refine xt_12 ?_ | refine xt_03 ?_ | refine xt_13 ?_ | refine xt_23 ?_ | refine eq_t (by omega) ?_ | refine eq_f (by omega) ?_ | refine ne_t (by omega) ?_ | refine ne_f (by omega) ?_ | refine lt_t (by omega) ?_ | refine lt_f (by omega) ?_ | refine gt_t (by omega) ?_ | refine gt_f (by omega) ?_ | refine ge_t (by omega) ?_ | refine ge_f (by omega) ?_ | refine le_t (by omega) ?_ | refine le_f (by omega) ?_ | refine ld1_at h2 0 rfl rfl ?_ | refine ld1_at h2 1 rfl rfl ?_ | refine ld1_at h2 2 rfl rfl ?_)
        exact h3
      · repeat (first | refine gd_tt ?_ | refine gd_ff ?_ | refine gd_tf ?_ | refine gd_ft ?_ | refine gd_u ?_ | refine pk_t ?_ | refine pk_f ?_ | refine iff_t ?_ | refine iff_f ?_ | refine not_t ?_ | refine not_f ?_ | refine beq_s ?_ | refine bne_s ?_ | refine ncP_p ?_ | refine nc_p ?_ | refine fld_at ?_ | refine xt_02 ?_ | refine xt_12 ?_ | refine xt_03 ?_ | refine xt_13 ?_ | refine xt_23 ?_ | refine eq_t (by omega) ?_ | refine eq_f (by omega) ?_ | refine ne_t (by omega) ?_ | refine ne_f (by omega) ?_ | refine lt_t (by omega) ?_ | refine lt_f (by omega) ?_ | refine gt_t (by omega) ?_ | refine gt_f (by omega) ?_ | refine ge_t (by omega) ?_ | refine ge_f (by omega) ?_ | refine le_t (by omega) ?_ | refine le_f (by omega) ?_ | refine ld1_at h2 0 rfl rfl ?_ | refine ld1_at h2 1 rfl rfl ?_ | refine ld1_at h2 2 rfl rfl ?_)
        exact h3
    · exact absurd h hab
    · rw [e1] at h3
      rcases h with h | ⟨h0, h | ⟨h1', h⟩⟩
      · repeat (first | refine gd_tt ?_ | refine gd_ff ?_ | refine gd_tf ?_ | refine gd_ft ?_ | refine gd_u ?_ | refine pk_t ?_ | refine pk_f ?_ | refine iff_t ?_ | refine iff_f ?_ | refine not_t ?_ | refine not_f ?_ | refine beq_s ?_ | refine bne_s ?_ | refine ncP_p ?_ | refine nc_p ?_ | refine fld_at ?_ | refine xt_02 ?_ | refine xt_12 ?_ | refine xt_03 ?_ | refine xt_13 ?_ | refine xt_23 ?_ | refine eq_t (by omega) ?_ | refine eq_f (by omega) ?_ | refine ne_t (by omega) ?_ | refine ne_f (by omega) ?_ | refine lt_t (by omega) ?_ | refine lt_f (by omega) ?_ | refine gt_t (by omega) ?_ | refine gt_f (by omega) ?_ | refine ge_t (by omega) ?_ | refine ge_f (by omega) ?_ | refine le_t (by omega) ?_ | refine le_f (by omega) ?_ | refine ld1_at h2 0 rfl rfl ?_ | refine ld1_at h2 1 rfl rfl ?_ | refine ld1_at h2 2 rfl rfl ?_)
        exact h3
      · repeat (first | refine gd_tt ?_ | refine gd_ff ?_ | refine gd_tf ?_ | refine gd_ft ?_ | refine gd_u ?_ | refine pk_t ?_ | refine pk_f ?_ | refine iff_t ?_ | refine iff_f ?_ | refine not_t ?_ | refine not_f ?_ | refine beq_s ?_ | refine bne_s ?_ | refine ncP_p ?_ | refine nc_p ?_ | refine fld_at ?_ | refine xt_02 ?_ | refine xt_12 ?_ | refine xt_03 ?_ | refine xt_13 ?_ | refine xt_23 ?_ | refine eq_t (by omega) ?_ | refine eq_f (by omega) ?_ | refine ne_t (by omega) ?_ | refine ne_f (by omega) ?_ | refine lt_t (by omega) ?_ | refine lt_f (by omega) ?_ | refine gt_t (by omega) ?_ | refine gt_f (by omega) ?_ | refine ge_t (by omega) ?_ | refine ge_f (by omega) ?_ | refine le_t (by omega) ?_ | refine le_f (by omega) ?_ | refine ld1_at h2 0 rfl rfl ?_ | refine ld1_at h2 1 rfl rfl ?_ | refine ld1_at h2 2 rfl rfl ?_)
        exact h3
      · repeat (first | refine gd_tt ?_ | refine gd_ff ?_ | refine gd_tf ?_ | refine gd_ft ?_ | refine gd_u ?_ | refine pk_t ?_ | refine pk_f ?_ | refine iff_t ?_ | refine iff_f ?_ | refine not_t ?_ | refine not_f ?_ | refine beq_s ?_ | refine bne_s ?_ | refine ncP_p ?_ | refine nc_p ?_ | refine fld_at ?_ | refine xt_02 ?_ | refine xt_12 ?_ | refine xt_03 ?_ | refine xt_13 ?_ | refine xt_23 ?_ | refine eq_t (by omega) ?_ | refine eq_f (by omega) ?_ | refine ne_t (by omega) ?_ | refine ne_f (by omega) ?_ | refine lt_t (by omega) ?_ | refine lt_f (by omega) ?_ | refine gt_t (by omega) ?_ | refine gt_f (by omega) ?_ | refine ge_t (by omega) ?_ | refine ge_f (by omega) ?_ | refine le_t (by omega) ?_ | refine le_f (by omega) ?_ | refine ld1_at h2 0 rfl rfl ?_ | refine ld1_at h2 1 rfl rfl ?_ | refine ld1_at h2 2 rfl rfl ?_)
        exact h3
end Go.Proofs.YtbopajpmadlmhaaGreat
end
section
namespace Go.E
open Go.RowKit
section
variable {κ ν : Type} [DecidableEq κ] {P : Program} {kt vt t : TypeId} {kf : κ → Value} {vf : ν → Value} {zv : Value} {e w : World} {L : List HP} {K : KV} {b : Nat} {m : List (κ × ν)}
theorem modify_same (es : Array MapEntry) (j : Nat) (e' : MapEntry) (kv : Value) (he : es[j]? = some e') (hk : e'.key = kv) : es.modify j (fun e => { e with key := kv }) = es := by
  apply Array.ext'
  rw [Array.toList_modify]
  apply List.ext_getElem?
  intro n
  rw [List.getElem?_modify]
  by_cases h : j = n
  · subst h
    rw [← Array.getElem?_toList] at he
    rw [he]
    cases e'
    simp only [if_true] at hk ⊢
    subst hk
    rfl
  · simp [h]
theorem born_idx {es : Array MapEntry} {clock j : Nat} {e' : MapEntry} (hb : Born es.toList clock) (he : es[j]? = some e') : es.findIdx? (fun e => (e.born : Int) == (e'.born : Int)) = some j := by
  obtain ⟨hj, hje⟩ := Array.getElem?_eq_some_iff.1 he
  rw [Array.findIdx?_eq_some_iff_getElem]
  refine ⟨hj, by rw [hje]; simp, fun i hi => ?_⟩
  have h1 := List.pairwise_iff_getElem.1 hb.1 i j (by simp; omega) (by simpa using hj) hi
  simp only [Array.getElem_toList] at h1
  rw [hje] at h1
  simp
  omega
theorem mes_s (KT : KeyT P kt kf) (MT : MapT P t kt vt zv) (hu : Uniq m) (hS : Sat e w (isMap kf vf b m :: L)) (k : κ) (x : ν) {xv : Value} (hx : xv = vf x) (hin : (lkA m k).isSome = true)
    (hk : ∀ w', Sat e w' (isMap kf vf b (upA m k x) :: L) → K undef w') : meM P t (.map (some b)) (kf k) w fun a w => xt 1 a w fun s _ => esM P t (.map (some b)) s xv w K := by
  subst hx
  obtain ⟨h1, h2, d, s1, s2, ⟨es, clock, hb, hm, hbo⟩, r⟩ := hS.mem
  have hh : w.heap[b]? = some (.map es clock) := s1 _ _ hb
  have hS0 : Sat e w ((fun g => g b = some (.map es clock)) :: L) := ⟨hS.os, hS.tape, hS.output, hS.drawn, hS.size, h1, h2, d, s1, s2, hb, r⟩
  have hf := KT.fnd k es.toList (m.map (·.1)) (es_keys hm) w
  have hl := fidx_lk m k
  cases hx : (m.map (·.1)).findIdx? (fun x => decide (x = k)) with
  | none =>
    rw [hx] at hl
    simp only [Option.bind_none] at hl
    rw [← hl] at hin
    cases hin
  | some j =>
    rw [hx] at hl hf
    simp only [Option.bind_some] at hl hf
    obtain ⟨hj, hjk, hjn⟩ := List.findIdx?_eq_some_iff_getElem.1 hx
    simp only [List.length_map] at hj
    simp only [List.getElem_map, decide_eq_true_eq] at hjk
    have hkey := es_key hm j
    rw [List.getElem?_eq_getElem hj] at hkey hl
    simp only [Option.map_some] at hkey hl
    obtain ⟨e', he, hek⟩ := Option.map_eq_some_iff.1 hkey
    rw [he] at hf
    simp only [Option.map_some] at hf
    have he2 : es[j]? = some e' := by rw [← Array.getElem?_toList]; exact he
    have hks : e'.key = kf k := by rw [hek, hjk]
    refine ex_oV (w' := World.setB w b (.map es clock)) (v := .tuple #[e'.val, goInt e'.born]) ?_ (xt_12 ?_)
    · unfold Instr.mapEntry
      have hst : (Instr.keyThatStays (((es[j]?).map (·.key)).getD (kf k)) (kf k)).run P w = .ok (kf k) w := by
        rw [he2]
        simp only [Option.map_some, Option.getD_some, hks, Instr.keyThatStays, KT.sam, if_true, Sem.run_pure]
      have hmd := modify_same es j e' (kf k) he2 hks
      simp only [Sem.run_bind, run_und MT.und, Result.andThen_ok, run_getObj hh, KT.chk, hf, hst, setObj, Sem.run, hh, World.setB]
      rw [he2]
      simp only [Option.map_some, Option.getD_some]
      rw [hmd]
      rfl
    · have hS1 := hS0.setB (o' := .map es clock)
      have hlt : b < w.heap.size := (Array.getElem?_eq_some_iff.1 hh).1
      have hh1 : (World.setB w b (.map es clock)).heap[b]? = some (.map es clock) := by simp [World.setB, hlt]
      refine ex_oU (w' := World.setB (World.setB w b (.map es clock)) b (.map (es.modify j fun e => { e with val := vf x }) clock)) ?_ (hk _ ?_)
      · unfold Instr.entryStore
        have hai : (asInt (goInt e'.born)).run P (World.setB w b (.map es clock)) = .ok (e'.born : Int) (World.setB w b (.map es clock)) := rfl
        simp only [Sem.run_bind, Result.andThen_ok, run_getObj hh1, hai, born_idx hbo he2, setObj, Sem.run, hh1]
        rfl
      · refine hS1.setB.imp fun g hg => ⟨_, _, hg, ?_, ?_⟩
        · unfold upA
          rw [← hl]
          simp only [Option.isSome_some, if_true]
          apply List.ext_getElem?
          intro n
          have hn := congrArg (fun l => l[n]?) hm
          simp only [List.getElem?_map] at hn ⊢
          rw [Array.toList_modify, List.getElem?_modify]
          cases hen : es.toList[n]? with
          | none =>
            rw [hen] at hn
            cases hmn : m[n]? with
            | none => rfl
            | some p => rw [hmn] at hn; cases hn
          | some en =>
            rw [hen] at hn
            cases hmn : m[n]? with
            | none => rw [hmn] at hn; cases hn
            | some p =>
              rw [hmn] at hn
              simp only [Option.map_some, Option.some.injEq] at hn ⊢
              by_cases hjn' : j = n
              · subst hjn'
                have hp : p.1 = k := by
                  rw [List.getElem?_eq_getElem hj] at hmn
                  cases hmn
                  exact hjk
                have hek2 : en.key = kf p.1 := by
                  have := congrArg Prod.fst hn
                  exact this
                simp [hp, pairOf, hek2]
              · have hp : p.1 ≠ k := by
                  intro hpk
                  have hnl := (List.getElem?_eq_some_iff.1 hmn).1
                  have e1 : (m.map (·.1))[j]? = some k := by simp [List.getElem?_eq_getElem hj, hjk]
                  have e2 : (m.map (·.1))[n]? = some k := by simp [hmn, hpk]
                  have := (List.getElem?_inj (by simpa using hj) hu).1 (e1.trans e2.symm)
                  exact hjn' this
                simp only [hjn', if_false, hp]
                exact congrArg some hn
        · rw [Array.toList_modify]
          exact born_modify hbo j _ (fun _ => rfl)
end

section
variable {P : Program} {w : World} {K : KV}
theorem tyA_ok {x : Value} {s t : TypeId} (h : (Instr.typeAssert (.iface t x) s t false).run P w = .ok x w) (hk : K x w) : tyA P (.iface t x) s t false w K := ex_oV h hk
end
end Go.E
end
section
namespace Go.Proofs.YtbopajpmadlmhaaGreat
open Go Go.E
set_option maxRecDepth 100000
variable {e w : World} {L R : List HP} {K : KV} {S S2 : HP}

def MLt (a b : Msg) : Prop := KeyLt a.key b.key ∨ (a.key = b.key ∧ a.To < b.To)
def cmpM (a b : Msg) : Int := if cmpK a.key b.key ≠ 0 then cmpK a.key b.key else cmpI a.To b.To
theorem MLt.irrefl (a : Msg) : ¬ MLt a a := by
  rintro (h | h)
  · exact KeyLt.irrefl _ h
  · omega
theorem MLt.trans {a b c : Msg} (h : MLt a b) (k : MLt b c) : MLt a c := by
  rcases h with h | ⟨h1, h2⟩
  · rcases k with k | ⟨k1, k2⟩
    · exact .inl (h.trans k)
    · rw [k1] at h; exact .inl h
  · rcases k with k | ⟨k1, k2⟩
    · rw [← h1] at k; exact .inl k
    · exact .inr ⟨h1.trans k1, by omega⟩
theorem MLt.asymm {a b : Msg} (h : MLt a b) : ¬ MLt b a := fun k => MLt.irrefl _ (h.trans k)
theorem MLt.tri (a b : Msg) : MLt a b ∨ (a.key = b.key ∧ a.To = b.To) ∨ MLt b a := by
  rcases KeyLt.tri a.key b.key with h | h | h
  · exact .inl (.inl h)
  · rcases Int.lt_trichotomy a.To b.To with k | k | k
    · exact .inl (.inr ⟨h, k⟩)
    · exact .inr (.inl ⟨h, k⟩)
    · exact .inr (.inr (.inr ⟨h.symm, k⟩))
  · exact .inr (.inr (.inl h))
theorem mLE_trans {a b c : Msg} (h : ¬ MLt a b) (k : ¬ MLt b c) : ¬ MLt a c := by
  intro hac
  rcases MLt.tri a b with h1 | h1 | h1
  · exact h h1
  · apply k
    rcases hac with h2 | h2
    · left; rw [← h1.1]; exact h2
    · right; rw [← h1.1, ← h1.2]; exact h2
  · exact k (h1.trans hac)
def swapW (l : List Msg) (i k : Nat) (x y : Msg) : List Msg := (l.set i y).set k x
theorem swapW_get {l : List Msg} {i k : Nat} {x y : Msg} (hx : l[i]? = some x) (hy : l[k]? = some y) (n : Nat) : (swapW l i k x y)[n]? = if n = k then some x else if n = i then some y else l[n]? := by
  have hi := (List.getElem?_eq_some_iff.1 hx).1
  have hk := (List.getElem?_eq_some_iff.1 hy).1
  unfold swapW
  rw [List.getElem?_set]
  by_cases h : k = n
  · subst h; simp [hk]
  · have h' : ¬ n = k := fun e => h e.symm
    rw [if_neg h, if_neg h', List.getElem?_set]
    by_cases h2 : i = n
    · subst h2; simp [hi]
    · have h2' : ¬ n = i := fun e => h2 e.symm
      rw [if_neg h2, if_neg h2']
end Go.Proofs.YtbopajpmadlmhaaGreat
namespace Go.Proofs.YtbopajpmadlmhaaGreat
open Go Go.E
set_option maxRecDepth 100000
variable {e w : World} {R : List HP} {K : KV}

def HeapyW (l : List Msg) (n : Nat) : Prop := ∀ (i : Nat) (x y : Msg), 0 < i → i < n → l[i]? = some x → l[(i - 1) / 2]? = some y → ¬ MLt x y
def UpW (l : List Msg) (j : Nat) : Prop :=
  (∀ (i : Nat) (x y : Msg), 0 < i → i ≠ j → l[i]? = some x → l[(i - 1) / 2]? = some y → ¬ MLt x y) ∧
  ∀ (i : Nat) (x y : Msg), 0 < i → 0 < j → (i - 1) / 2 = j → l[i]? = some x → l[(j - 1) / 2]? = some y → ¬ MLt x y
def DownW (l : List Msg) (j n : Nat) : Prop :=
  (∀ (i : Nat) (x y : Msg), 0 < i → i < n → (i - 1) / 2 ≠ j → l[i]? = some x → l[(i - 1) / 2]? = some y → ¬ MLt x y) ∧
  ∀ (i : Nat) (x y : Msg), 0 < i → i < n → 0 < j → (i - 1) / 2 = j → l[i]? = some x → l[(j - 1) / 2]? = some y → ¬ MLt x y
theorem HeapyW.min {l : List Msg} {n : Nat} (h : HeapyW l n) (hn : n ≤ l.length) {z : Msg} (hz : l[0]? = some z) : ∀ (i : Nat) (x : Msg), i < n → l[i]? = some x → ¬ MLt x z := by
  intro i
  induction i using Nat.strongRecOn with
  | _ i ih =>
    intro x hi hx
    by_cases h0 : i = 0
    · subst h0
      rw [hz] at hx
      injection hx with hx
      subst hx
      exact MLt.irrefl _
    · obtain ⟨y, hy⟩ := get_of_lt (l := l) (j := (i - 1) / 2) (by omega)
      exact mLE_trans (h i x y (by omega) hi hx hy) (ih _ (by omega) y (by omega) hy)
theorem UpW.done {l : List Msg} {j : Nat} (h : UpW l j) (hj : j = 0 ∨ ∃ x y, l[j]? = some x ∧ l[(j - 1) / 2]? = some y ∧ ¬ MLt x y) : HeapyW l l.length := by
  intro i x y hi _ hx hy
  by_cases hij : i = j
  · subst hij
    rcases hj with hj | ⟨x', y', hx', hy', hn⟩
    · omega
    · rw [hx] at hx'
      rw [hy] at hy'
      injection hx' with hx'
      injection hy' with hy'
      subst hx' hy'
      exact hn
  · exact h.1 i x y hi hij hx hy
theorem UpW.step {l : List Msg} {j : Nat} {x y : Msg} (h : UpW l j) (hj : 0 < j) (hx : l[j]? = some x) (hy : l[(j - 1) / 2]? = some y) (hlt : MLt x y) : UpW (swapW l ((j - 1) / 2) j y x) ((j - 1) / 2) := by
  obtain ⟨h1, h2⟩ := h
  have hg := swapW_get (i := (j - 1) / 2) (k := j) hy hx
  constructor
  · intro i a b hi hij ha hb
    rw [hg] at ha hb
    by_cases e1 : i = j
    · subst e1
      rw [if_pos rfl] at ha
      rw [if_neg (by omega), if_pos rfl] at hb
      injection ha with ha
      injection hb with hb
      subst ha hb
      exact hlt.asymm
    · rw [if_neg e1, if_neg hij] at ha
      by_cases e2 : (i - 1) / 2 = j
      · rw [if_pos e2] at hb
        injection hb with hb
        subst hb
        exact h2 i a y hi hj e2 ha hy
      · rw [if_neg e2] at hb
        by_cases e3 : (i - 1) / 2 = (j - 1) / 2
        · rw [if_pos e3] at hb
          injection hb with hb
          subst hb
          have := h1 i a y hi e1 ha (by rw [e3]; exact hy)
          intro hax
          exact this (hax.trans hlt)
        · rw [if_neg e3] at hb
          exact h1 i a b hi e1 ha hb
  · intro i a b hi hp hpar ha hb
    rw [hg] at ha hb
    rw [if_neg (by omega), if_neg (by omega)] at hb
    have hyb := h1 ((j - 1) / 2) y b hp (by omega) hy hb
    by_cases e1 : i = j
    · rw [if_pos e1] at ha
      injection ha with ha
      subst ha
      exact hyb
    · rw [if_neg e1, if_neg (by omega)] at ha
      have := h1 i a y hi e1 ha (by rw [hpar]; exact hy)
      exact mLE_trans this hyb

theorem DownW.done {l : List Msg} {j n : Nat} (h : DownW l j n) (hj : ∀ (i : Nat) (x y : Msg), 0 < i → i < n → (i - 1) / 2 = j → l[i]? = some x → l[j]? = some y → ¬ MLt x y) : HeapyW l n := by
  intro i x y hi hn hx hy
  by_cases hij : (i - 1) / 2 = j
  · exact hj i x y hi hn hij hx (by rw [← hij]; exact hy)
  · exact h.1 i x y hi hn hij hx hy
theorem DownW.step {l : List Msg} {j c n : Nat} {x y : Msg} (h : DownW l j n) (hc0 : 0 < c) (hcn : c < n) (hcj : (c - 1) / 2 = j) (hx : l[j]? = some x) (hy : l[c]? = some y) (hlt : MLt y x)
    (hmin : ∀ (i : Nat) (a : Msg), 0 < i → i < n → (i - 1) / 2 = j → l[i]? = some a → ¬ MLt a y) : DownW (swapW l j c x y) c n := by
  obtain ⟨h1, h2⟩ := h
  have hg := swapW_get (i := j) (k := c) hx hy
  constructor
  · intro i a b hi hn hij ha hb
    rw [hg] at ha hb
    rw [if_neg hij] at hb
    by_cases e1 : i = c
    · subst e1
      rw [if_pos rfl] at ha
      rw [if_pos hcj] at hb
      injection ha with ha
      injection hb with hb
      subst ha hb
      exact hlt.asymm
    · rw [if_neg e1] at ha
      by_cases e2 : (i - 1) / 2 = j
      · rw [if_pos e2] at hb
        rw [if_neg (by omega)] at ha
        injection hb with hb
        subst hb
        exact hmin i a hi hn e2 ha
      · rw [if_neg e2] at hb
        by_cases e3 : i = j
        · rw [if_pos e3] at ha
          injection ha with ha
          subst ha
          subst e3
          exact h2 c y b hc0 hcn hi hcj hy hb
        · rw [if_neg e3] at ha
          exact h1 i a b hi hn e2 ha hb
  · intro i a b hi hn hc hpar ha hb
    rw [hg] at ha hb
    rw [if_neg (by omega), if_neg (by omega)] at ha
    rw [if_neg (by omega), if_pos hcj] at hb
    injection hb with hb
    subst hb
    exact h1 i a y hi hn (by omega) ha (by rw [hpar]; exact hy)

end Go.Proofs.YtbopajpmadlmhaaGreat
end
section
namespace Go.Proofs.YtbopajpmadlmhaaGreat
open Go Go.E
set_option maxRecDepth 100000
variable {e w : World} {L R : List HP} {K : KV} {S S2 : HP}

theorem unpick {A : HP} {i : Nat} (hi : L[i]? = some S) (h : Sat e w (A :: S :: L.eraseIdx i)) : Sat e w (A :: L) := h.perm ((pick_perm L i S hi).symm.cons A)
theorem clone_ints_i {v : Value} {l : List Int} (i : Nat) (hi : L[i]? = some S) (hl : l.length ≤ 1000000) (hff : ∀ x ∈ l, ∀ v ∈ (intsK .i64) x, flat v = true) (hS : Sat e w L) (hr : ∀ g, S g → rdS 1 (intsK .i64) v l g)
    (hk : ∀ v' w', Sat e w' (ownS 3 1 (intsK .i64) v' l :: L) → K v' w') : Cl prog 95 #[v] w K :=
  clone_ints_s hl hff (hS.pick i hi) hr fun v' w' h => hk v' w' (unpick hi h)
theorem clone_outs_i {v : Value} {l : List Out} (i : Nat) (hi : L[i]? = some S) (hl : l.length ≤ 1000000) (hff : ∀ x ∈ l, ∀ v ∈ Out.cs x, flat v = true) (hS : Sat e w L) (hr : ∀ g, S g → rdS 3 Out.cs v l g)
    (hk : ∀ v' w', Sat e w' (ownS 87 3 Out.cs v' l :: L) → K v' w') : Cl prog 97 #[v] w K :=
  clone_outs_s hl hff (hS.pick i hi) hr fun v' w' h => hk v' w' (unpick hi h)
theorem clone_rules_i {v : Value} {l : List RuleX} (i : Nat) (hi : L[i]? = some S) (hl : l.length ≤ 1000000) (hff : ∀ x ∈ l, ∀ v ∈ RuleX.cs x, flat v = true) (hS : Sat e w L) (hr : ∀ g, S g → rdS 4 RuleX.cs v l g)
    (hk : ∀ v' w', Sat e w' (ownS 89 4 RuleX.cs v' l :: L) → K v' w') : Cl prog 98 #[v] w K :=
  clone_rules_s hl hff (hS.pick i hi) hr fun v' w' h => hk v' w' (unpick hi h)
theorem clone_feds_i {v : Value} {l : List FedX} (i : Nat) (hi : L[i]? = some S) (hl : l.length ≤ 1000000) (hff : ∀ x ∈ l, ∀ v ∈ FedX.cs x, flat v = true) (hS : Sat e w L) (hr : ∀ g, S g → rdS 7 FedX.cs v l g)
    (hk : ∀ v' w', Sat e w' (ownS 66 7 FedX.cs v' l :: L) → K v' w') : Cl prog 96 #[v] w K :=
  clone_feds_s hl hff (hS.pick i hi) hr fun v' w' h => hk v' w' (unpick hi h)
theorem clone_dones_i {v : Value} {l : List Done} (i : Nat) (hi : L[i]? = some S) (hl : l.length ≤ 1000000) (hff : ∀ x ∈ l, ∀ v ∈ Done.cs x, flat v = true) (hS : Sat e w L) (hr : ∀ g, S g → rdS 7 Done.cs v l g)
    (hk : ∀ v' w', Sat e w' (ownS 45 7 Done.cs v' l :: L) → K v' w') : Cl prog 69 #[v] w K :=
  clone_dones_s hl hff (hS.pick i hi) hr fun v' w' h => hk v' w' (unpick hi h)
def RuleOwn (r : RuleX) : HP := ownS 87 3 Out.cs r.sv r.Sends
def FedOwn (f : FedX) : HP := sepL [ownS 3 1 (intsK .i64) f.pv f.Pubs, ownS 3 1 (intsK .i64) f.sv f.Subs, ownS 87 3 Out.cs f.iv f.Init, ownS 89 4 RuleX.cs f.rv f.Rules, sepL (f.Rules.map RuleOwn)]
def WdOwn (x : WdX) : HP := sepL [ownS 3 1 (intsK .i64) x.pv x.Parents, ownS 66 7 FedX.cs x.fv x.Feds, sepL (x.Feds.map FedOwn)]
theorem rdS_up {α : Type} {size : Nat} {f : α → List Value} {v : Value} {l : List α} {h g : Hp} (s : Sub h g) (k : rdS size f v l h) : rdS size f v l g := by
  obtain ⟨A, c, h1, h2, h3⟩ := k
  exact ⟨A, c, h1, h2, fun h0 => by obtain ⟨a, h4, h5⟩ := h3 h0; exact ⟨a, h4, h5.up s⟩⟩
theorem sepL_get {l : List HP} {g : Hp} {i : Nat} {P : HP} (h : sepL l g) (hi : l[i]? = some P) : ∃ g', P g' ∧ Sub g' g := SatH.get (S := P) h hi
theorem rules_rd {f : FedX} {g : Hp} (h1 : rdS 4 RuleX.cs f.rv f.Rules g) (h2 : sepL (f.Rules.map RuleOwn) g) : RdRules f.rv f.Rules g := by
  refine ⟨h1, fun r hr => ?_⟩
  obtain ⟨i, hi⟩ := List.getElem?_of_mem hr
  obtain ⟨g', h3, h4⟩ := sepL_get (i := i) (P := RuleOwn r) h2 (by rw [List.getElem?_map, hi]; rfl)
  exact rdS_up h4 (own_rd h3)
theorem RdRules.up {v : Value} {l : List RuleX} {h g : Hp} (s : Sub h g) (k : RdRules v l h) : RdRules v l g := ⟨rdS_up s k.s, fun r hr => rdS_up s (k.e r hr)⟩
theorem RdFed.up {f : FedX} {h g : Hp} (s : Sub h g) (k : RdFed f h) : RdFed f g := ⟨k.rules.up s, rdS_up s k.pubs, rdS_up s k.subs, rdS_up s k.init⟩
theorem fedOwn_rd {f : FedX} {g : Hp} (h : FedOwn f g) : RdFed f g := by
  obtain ⟨g1, k1, s1⟩ := sepL_get (i := 0) h rfl
  obtain ⟨g2, k2, s2⟩ := sepL_get (i := 1) h rfl
  obtain ⟨g3, k3, s3⟩ := sepL_get (i := 2) h rfl
  obtain ⟨g4, k4, s4⟩ := sepL_get (i := 3) h rfl
  obtain ⟨g5, k5, s5⟩ := sepL_get (i := 4) h rfl
  have k5' : sepL (f.Rules.map RuleOwn) g := SatH.up k5 s5
  exact ⟨rules_rd (rdS_up s4 (own_rd k4)) k5', rdS_up s1 (own_rd k1), rdS_up s2 (own_rd k2), rdS_up s3 (own_rd k3)⟩
theorem wdOwn_rd {x : WdX} {g : Hp} (h : WdOwn x g) : RdWd x g := by
  obtain ⟨g1, k1, s1⟩ := sepL_get (i := 0) h rfl
  obtain ⟨g2, k2, s2⟩ := sepL_get (i := 1) h rfl
  obtain ⟨g3, k3, s3⟩ := sepL_get (i := 2) h rfl
  refine ⟨rdS_up s1 (own_rd k1), rdS_up s2 (own_rd k2), fun f hf => ?_⟩
  obtain ⟨i, hi⟩ := List.getElem?_of_mem hf
  obtain ⟨g', h3, h4⟩ := sepL_get (i := i) (P := FedOwn f) k3 (by rw [List.getElem?_map, hi]; rfl)
  exact (fedOwn_rd h3).up (h4.trans s3)
theorem own_congr {α : Type} {t : TypeId} {size : Nat} {f : α → List Value} {v : Value} {l l' : List α} {g : Hp} (hl : l.map f = l'.map f) (h : ownS t size f v l g) : ownS t size f v l' g := by
  have hlen : l.length = l'.length := by simpa using congrArg List.length hl
  have hfm : l.flatMap f = l'.flatMap f := by rw [List.flatMap_def, List.flatMap_def, hl]
  rcases h with ⟨h1, h2⟩ | ⟨b, c, cs, h1, h2, h3, h4, h5⟩
  · subst h2
    refine .inl ⟨h1, List.length_eq_zero_iff.1 (by rw [← hlen]; rfl)⟩
  · exact .inr ⟨b, c, cs, by rw [← hlen]; exact h1, h2, h3, by omega, by rw [← hlen, ← hfm]; exact h5⟩
theorem rule_cells {v : Value} {l : List RuleX} (i : Nat) (hi : L[i]? = some S) (hS : Sat e w L) (hr : ∀ g, S g → RdRules v l g) : ∀ r ∈ l, ∀ c ∈ r.cs, flat c = true := by
  intro r hrm c hc
  obtain ⟨g, hg, _⟩ := hS.get i hi
  obtain ⟨A, c', hsv, _⟩ := (hr g hg).e r hrm
  simp only [RuleX.cs, List.mem_cons, List.not_mem_nil, or_false] at hc
  rcases hc with rfl | rfl | rfl | rfl
  · rfl
  · rfl
  · rfl
  · rw [hsv]; rfl
theorem sep_push {A : HP} {l : List HP} (h : Sat e w (A :: sepL l :: R)) : Sat e w (sepL (l ++ [A]) :: R) := by
  have h1 : Sat e w (sepL (A :: l) :: R) := Sat.join (l' := A :: l) (by
    have := h.swap.split
    exact this.perm (List.perm_middle (a := A) (l₁ := l) (l₂ := R)))
  exact h1.imp fun g hg => SatH.perm (List.perm_append_singleton A l).symm hg
end Go.Proofs.YtbopajpmadlmhaaGreat
namespace Go.Proofs.YtbopajpmadlmhaaGreat
open Go Go.E
set_option maxRecDepth 100000

structure FA where
  st : Int
  sent : Int
  log : List Done
def insM (m : Msg) : List Msg → List Msg
  | [] => [m]
  | a :: l => if cmpM m a < 0 then m :: a :: l else a :: insM m l
def putL (l ms : List Msg) : List Msg := ms.foldl (fun l m => insM m l) l
structure WdOk (wd : Wd) : Prop where
  tree : okTree wd.Parents
  n : 1 ≤ wd.Feds.length ∧ wd.Feds.length ≤ 8
  en : 0 ≤ wd.End ∧ wd.End ≤ 1099511627776
  sends : ∀ f ∈ wd.Feds, ∀ r ∈ f.Rules, r.Sends.length ≤ 3 ∧ ∀ o ∈ r.Sends, okSend wd.Parents.length o ∧ 1 ≤ o.Delay
  init : ∀ f ∈ wd.Feds, f.Init.length ≤ 4 ∧ ∀ o ∈ f.Init, okSend wd.Parents.length o ∧ 0 ≤ o.Delay
theorem sendsE_zero {f : Fed} : ∀ {l : List Out}, sendsE f l = 0 → ∀ o ∈ l, o.Class ∈ f.Pubs ∧ f.Look ≤ o.Delay
  | [], _, o, ho => by cases ho
  | x :: l, h, o, ho => by
    rw [sendsE_cons] at h
    split at h
    · cases h
    · rename_i h1
      split at h
      · cases h
      · rename_i h2
        rcases List.mem_cons.1 ho with rfl | ho
        · exact ⟨Classical.not_not.1 h1, by omega⟩
        · exact sendsE_zero h o ho
theorem rulesE_zero {f : Fed} {most : Int} : ∀ {l : List Rule}, rulesE f most l = 0 → ∀ r ∈ l, sendsE f r.Sends = 0
  | [], _, o, ho => by cases ho
  | x :: l, h, r, hr => by
    rw [rulesE_cons] at h
    split at h
    · cases h
    · rename_i h1
      split at h
      · rename_i h2
        exact absurd h h2
      · rename_i h2
        rcases List.mem_cons.1 hr with rfl | hr
        · exact Classical.not_not.1 h2
        · exact rulesE_zero h r hr
theorem rising_hi {most : Int} : ∀ {l : List Int} {lo : Int}, rising most lo l → ∀ c ∈ l, c < most
  | [], _, _, c, hc => by cases hc
  | a :: l, lo, h, c, hc => by
    obtain ⟨h1, h2, h3⟩ := h
    rcases List.mem_cons.1 hc with rfl | hc
    · exact h2
    · exact rising_hi h3 c hc
theorem fedE_zero {f : Fed} {most : Int} (h : fedE f most = 0) : 1 ≤ f.Look ∧ okRules f.Rules ∧ rising most (-1) f.Pubs ∧ rulesE f most f.Rules = 0 ∧ okInit f := by
  rw [fedE_chain] at h
  split at h
  · cases h
  · split at h
    · cases h
    · rename_i h1 h2
      split at h
      · cases h
      · split at h
        · cases h
        · rename_i h3 h4
          split at h
          · cases h
          · rename_i h5
            split at h
            · rename_i h6; exact absurd h h6
            · rename_i h6
              split at h
              · cases h
              · rename_i h7
                exact ⟨(Classical.not_not.1 h2).1, Classical.not_not.1 h4, (Classical.not_not.1 h5).1, Classical.not_not.1 h6, Classical.not_not.1 h7⟩
theorem fedsE_zero {most : Int} : ∀ {l : List Fed} {i : Nat}, (fedsE most i l).2 = 0 → ∀ f ∈ l, fedE f most = 0
  | [], _, _, f, hf => by cases hf
  | x :: l, i, h, f, hf => by
    rw [fedsE_cons] at h
    split at h
    · rename_i h1; exact absurd h h1
    · rename_i h1
      rcases List.mem_cons.1 hf with rfl | hf
      · exact Classical.not_not.1 h1
      · exact fedsE_zero h f hf
theorem checkW_ok {wd : Wd} (h : (checkW wd).2 = 0) : WdOk wd := by
  unfold checkW at h
  split at h
  · rename_i h1; exact absurd h h1
  · rename_i h1
    split at h
    · cases h
    · rename_i h2
      have ht : okTree wd.Parents := by
        have := Classical.not_not.1 h1
        unfold treeE at this
        split at this
        · assumption
        · cases this
      have h2 := Classical.not_not.1 h2
      have hf := fedsE_zero h
      refine ⟨ht, by omega, h2.1, fun f hfm r hr => ?_, fun f hfm => ?_⟩
      · obtain ⟨k1, k2, k3, k4, k5⟩ := fedE_zero (hf f hfm)
        have hok := k2.2.1 r hr
        refine ⟨hok.2.2.2.2.2.2.1, fun o ho => ?_⟩
        obtain ⟨p1, p2⟩ := sendsE_zero (rulesE_zero k4 r hr) o ho
        have p3 := hok.2.2.2.2.2.2.2 o ho
        exact ⟨⟨p3.1, rising_hi k3 _ p1, p3.2.2.2.2.1⟩, by omega⟩
      · obtain ⟨k1, k2, k3, k4, k5⟩ := fedE_zero (hf f hfm)
        refine ⟨k5.1, fun o ho => ?_⟩
        obtain ⟨p1, p2, p3, p4, p5⟩ := k5.2 o ho
        have := rising_lo k3 _ p1
        exact ⟨⟨by omega, rising_hi k3 _ p1, p4⟩, p2⟩

theorem routesL_mem {ps : List Int} {f c : Int} {l : List Fed} {to : Int} (h : to ∈ routesL ps f c l) : 0 ≤ to ∧ to < l.length ∧ to ≠ f := by
  unfold routesL at h
  obtain ⟨p, hp, rfl⟩ := List.mem_map.1 h
  obtain ⟨h1, h2⟩ := List.mem_filter.1 hp
  rw [Bool.and_eq_true] at h2
  have h3 := of_decide_eq_true h2.1
  have h4 := List.snd_lt_of_mem_zipIdx h1
  exact ⟨by omega, by omega, h3⟩
structure SentBy (feds : List Fed) (f seq now : Int) (k : Nat) (m : Msg) : Prop where
  from' : m.key.From = f
  seq : seq ≤ m.key.Seq ∧ m.key.Seq < seq + k
  to : 0 ≤ m.To ∧ m.To < feds.length ∧ m.To ≠ f
  body : 0 ≤ m.Body
  time : ∃ o : Out, m.key.T = addT now o.Delay
theorem spread_mem {ps : List Int} {feds : List Fed} {f seq now body : Int} {outs : List Out} {m : Msg} (h : m ∈ spreadL ps feds f seq now body outs) :
    ∃ (i : Nat) (o : Out) (to : Int), outs[i]? = some o ∧ to ∈ routesL ps f o.Class feds ∧ m = { sentM f (seq + i) now body o with To := to } := by
  unfold spreadL at h
  obtain ⟨p, hp, h⟩ := List.mem_flatMap.1 h
  obtain ⟨to, hto, rfl⟩ := List.mem_map.1 h
  have := List.mem_zipIdx_iff_getElem?.1 hp
  exact ⟨p.2, p.1, to, this, hto, rfl⟩
theorem spread_by {ps : List Int} {feds : List Fed} {f seq now body : Int} {outs : List Out} {m : Msg} (h : m ∈ spreadL ps feds f seq now body outs) : SentBy feds f seq now outs.length m := by
  obtain ⟨i, o, to, h1, h2, rfl⟩ := spread_mem h
  have hi := (List.getElem?_eq_some_iff.1 h1).1
  exact ⟨rfl, ⟨by simp only [sentM]; omega, by simp only [sentM]; omega⟩, routesL_mem h2, by simp only [sentM]; omega, o, rfl⟩
end Go.Proofs.YtbopajpmadlmhaaGreat
namespace Go.Proofs.YtbopajpmadlmhaaGreat
open Go Go.E
set_option maxRecDepth 100000

theorem stepR_cases (l : List Rule) (s c : Int) : (∃ r ∈ l, r.State = s ∧ r.Class = c ∧ stepR l s c = (r.Next, r.Sends)) ∨ ((∀ r ∈ l, ¬ (r.State = s ∧ r.Class = c)) ∧ stepR l s c = (s, [])) := by
  unfold stepR
  cases h : l.find? fun r => decide (r.State = s) && decide (r.Class = c) with
  | some r =>
    have h1 := List.find?_some h
    rw [Bool.and_eq_true] at h1
    exact .inl ⟨r, List.mem_of_find?_eq_some h, of_decide_eq_true h1.1, of_decide_eq_true h1.2, rfl⟩
  | none =>
    rw [List.find?_eq_none] at h
    exact .inr ⟨fun r hr hn => h r hr (by rw [Bool.and_eq_true]; exact ⟨decide_eq_true hn.1, decide_eq_true hn.2⟩), rfl⟩
theorem step_outs {wd : Wd} (hw : WdOk wd) {f : Fed} (hf : f ∈ wd.Feds) (s c : Int) : (stepR f.Rules s c).2.length ≤ 3 ∧ ∀ o ∈ (stepR f.Rules s c).2, okSend wd.Parents.length o ∧ 1 ≤ o.Delay := by
  rcases stepR_cases f.Rules s c with ⟨r, hr, _, _, h⟩ | ⟨_, h⟩
  · rw [h]; exact hw.sends f hf r hr
  · rw [h]; exact ⟨by simp, by simp⟩
end Go.Proofs.YtbopajpmadlmhaaGreat
end
section
namespace Go.Proofs.YtbopajpmadlmhaaGreat
open Go Go.E
set_option maxRecDepth 100000

structure Clk where
  (L : List Int) (self : Int) (told : Int)
def Clk.okJ (c : Clk) (j : Int) : Prop := 0 ≤ j ∧ j < c.L.length ∧ j ≠ c.self
instance (c : Clk) (j : Int) : Decidable (c.okJ j) := inferInstanceAs (Decidable (_ ∧ _))
def Clk.get (c : Clk) (j : Int) : Int := c.L.getD j.toNat 0
def Clk.at' (c : Clk) (j : Int) : Int := if c.okJ j then c.get j else -1
def Clk.hearE (c : Clk) (j t : Int) : Int := if ¬ c.okJ j ∨ validT t = false then 1 else if t < c.get j then 110 else 0
def Clk.hear (c : Clk) (j t : Int) : Clk := if c.hearE j t = 0 then ⟨c.L.set j.toNat t, c.self, c.told⟩ else c
def Clk.bound (c : Clk) : Int := (List.range c.L.length).foldl (fun (n : Int) (j : Nat) => if (j : Int) = c.self then n else min n (c.get j)) Inf
theorem Clk.hearE_bad {c : Clk} {j t : Int} (h : ¬ c.okJ j ∨ validT t = false) : c.hearE j t = 1 := if_pos h
theorem Clk.hearE_early {c : Clk} {j t : Int} (h : c.okJ j) (hv : validT t = true) (h1 : t < c.get j) : c.hearE j t = 110 := by
  unfold Clk.hearE
  rw [if_neg (by simp [h, hv]), if_pos h1]
theorem Clk.hearE_ok {c : Clk} {j t : Int} (h : c.okJ j) (hv : validT t = true) (h1 : ¬ t < c.get j) : c.hearE j t = 0 := by
  unfold Clk.hearE
  rw [if_neg (by simp [h, hv]), if_neg h1]
theorem Clk.hear_bad {c : Clk} {j t : Int} (h : ¬ c.okJ j ∨ validT t = false) : c.hear j t = c := by
  unfold Clk.hear
  rw [hearE_bad h, if_neg (by decide)]
theorem Clk.hear_early {c : Clk} {j t : Int} (h : c.okJ j) (hv : validT t = true) (h1 : t < c.get j) : c.hear j t = c := by
  unfold Clk.hear
  rw [hearE_early h hv h1, if_neg (by decide)]
theorem Clk.hear_ok {c : Clk} {j t : Int} (h : c.okJ j) (hv : validT t = true) (h1 : ¬ t < c.get j) : c.hear j t = ⟨c.L.set j.toNat t, c.self, c.told⟩ := by
  unfold Clk.hear
  rw [hearE_ok h hv h1, if_pos rfl]

def kI : Int → Value := fun n => .int .i64 n
def MapOf (c : Clk) (m : List (Int × Int)) : Prop := Uniq m ∧ ∀ j, lkA m j = if c.okJ j then some (c.get j) else none
variable {e w : World} {R : List HP} {K : KV}

theorem MapOf.mem {c : Clk} {m : List (Int × Int)} (h : MapOf c m) {p : Int × Int} : p ∈ m ↔ c.okJ p.1 ∧ p.2 = c.get p.1 := by
  have hk := h.2 p.1
  constructor
  · intro hp
    have hf : lkA m p.1 = some p.2 := by
      unfold lkA
      rw [find_uniq h.1 hp]
      rfl
    rw [hf] at hk
    by_cases ho : c.okJ p.1
    · rw [if_pos ho] at hk
      exact ⟨ho, Option.some.inj hk⟩
    · rw [if_neg ho] at hk
      cases hk
  · rintro ⟨ho, he⟩
    rw [if_pos ho] at hk
    unfold lkA at hk
    obtain ⟨q, hq, hv⟩ := Option.map_eq_some_iff.1 hk
    have h1 := List.mem_of_find?_eq_some hq
    have h2 := List.find?_some hq
    simp only [decide_eq_true_eq] at h2
    have : q = p := by cases q; cases p; simp_all
    exact this ▸ h1

theorem MapOf.step {c : Clk} {m : List (Int × Int)} (h : MapOf c m) {j t : Int} (hj : c.okJ j) (told : Int) : MapOf ⟨c.L.set j.toNat t, c.self, told⟩ (upA m j t) := by
  refine ⟨h.1.up j t, fun i => ?_⟩
  rw [lkA_up h.1]
  have hok : ∀ i, Clk.okJ ⟨c.L.set j.toNat t, c.self, told⟩ i ↔ c.okJ i := fun i => by simp [Clk.okJ]
  have hlt : j.toNat < c.L.length := by have := hj.2.1; have := hj.1; omega
  by_cases hij : i = j
  · subst hij
    rw [if_pos rfl, if_pos ((hok _).2 hj)]
    simp [Clk.get, List.getD_eq_getElem?_getD, hlt]
  · rw [if_neg hij, h.2 i]
    by_cases ho : c.okJ i
    · rw [if_pos ho, if_pos ((hok _).2 ho)]
      have hne : j.toNat ≠ i.toNat := by have := ho.1; have := hj.1; omega
      simp [Clk.get, List.getD_eq_getElem?_getD, hne]
    · rw [if_neg ho, if_neg (fun k => ho ((hok _).1 k))]

end Go.Proofs.YtbopajpmadlmhaaGreat
end
section
namespace Go.Proofs.YtbopajpmadlmhaaGreat
open Go Go.E
set_option maxRecDepth 100000
variable {e w : World} {R : List HP} {K : KV}

theorem clampT_id {t : Int} (h0 : 0 ≤ t) (h1 : t ≤ MaxT) : clampT t = t := by unfold clampT; rw [if_neg (by omega), if_neg (by omega)]

structure CStep where
  (Kind A B : Int)
  deriving DecidableEq
def CStep.ns (s : CStep) : List Int := [s.Kind, s.A, s.B]
abbrev CStep.cs (s : CStep) : List Value := ints s.ns
def CStep.of (l : List Int) : CStep := ⟨l.getD 0 0, l.getD 1 0, l.getD 2 0⟩
theorem CStep.of_ns {l : List Int} (h : l.length = 3) : (CStep.of l).ns = l := by
  match l, h with
  | [_, _, _], _ => rfl
theorem CStep.of_cs {l : List Int} (h : l.length = 3) : (CStep.of l).cs = ints l := congrArg ints (CStep.of_ns h)

end Go.Proofs.YtbopajpmadlmhaaGreat
namespace Go.Proofs.YtbopajpmadlmhaaGreat
open Go Go.E
set_option maxRecDepth 100000
variable {e w : World} {R : List HP} {K : KV}

def Clk.Good (c : Clk) : Prop := ∀ x ∈ c.L, 0 ≤ x ∧ x ≤ Inf
theorem validT_bd {t : Int} (h : validT t = true) : 0 ≤ t ∧ t ≤ Inf := by
  simp only [validT, decide_eq_true_eq] at h
  unfold Inf MaxT at *
  omega
theorem Clk.Good.get {c : Clk} (h : c.Good) {j : Int} (hj : c.okJ j) : 0 ≤ c.get j ∧ c.get j ≤ Inf := by
  refine h _ ?_
  have hl : j.toNat < c.L.length := by have := hj.1; have := hj.2.1; omega
  unfold Clk.get
  rw [List.getD_eq_getElem?_getD, List.getElem?_eq_getElem hl]
  exact List.getElem_mem hl
theorem Clk.hear_cases (c : Clk) (j t : Int) : (c.hearE j t ≠ 0 ∧ c.hear j t = c) ∨ (c.okJ j ∧ validT t = true ∧ ¬ t < c.get j ∧ c.hearE j t = 0 ∧ c.hear j t = ⟨c.L.set j.toNat t, c.self, c.told⟩) := by
  by_cases h : ¬ c.okJ j ∨ validT t = false
  · exact .inl ⟨by rw [Clk.hearE_bad h]; decide, Clk.hear_bad h⟩
  · have ho : c.okJ j := by by_cases k : c.okJ j; exact k; exact absurd (Or.inl k) h
    have hv : validT t = true := by cases k : validT t; exact absurd (Or.inr k) h; rfl
    by_cases h1 : t < c.get j
    · exact .inl ⟨by rw [Clk.hearE_early ho hv h1]; decide, Clk.hear_early ho hv h1⟩
    · exact .inr ⟨ho, hv, h1, Clk.hearE_ok ho hv h1, Clk.hear_ok ho hv h1⟩
theorem Clk.Good.hear {c : Clk} (h : c.Good) (j t : Int) : (c.hear j t).Good := by
  rcases c.hear_cases j t with ⟨_, h1⟩ | ⟨_, hv, _, _, h1⟩
  · rw [h1]; exact h
  · rw [h1]
    intro x hx
    rcases List.mem_or_eq_of_mem_set hx with hx | rfl
    · exact h x hx
    · exact validT_bd hv
end Go.Proofs.YtbopajpmadlmhaaGreat
end
section
namespace Go.Proofs.YtbopajpmadlmhaaGreat
open Go Go.E
set_option maxRecDepth 100000
variable {e w : World} {R : List HP} {K : KV}

def kfK (k : Key) : Value := .agg k.cs.toArray
def vfN (n : Nat) : Value := .int .i64 (n : Int)
theorem keyT_Key : KeyT prog 35 kfK :=
  keyT_chk (κ := Key) (ns := Key.ns) (n := 6) Tryz.underlying35 eqT_35 agg_35 (by decide) (fun _ => rfl) Key.eq_ns (fun b k w => by cases b <;> kernel_rfl)

structure AtOk (m : List (Key × Nat)) (l : List Msg) : Prop where
  u : Uniq m
  ok : ∀ (k : Key) (i : Nat), lkA m k = some i ↔ ∃ x, l[i]? = some x ∧ x.key = k
theorem AtOk.nil : AtOk [] [] := ⟨List.nodup_nil, fun k i => by simp [lkA]⟩
theorem AtOk.inj {m : List (Key × Nat)} {l : List Msg} (h : AtOk m l) {i j : Nat} {x y : Msg} (hx : l[i]? = some x) (hy : l[j]? = some y) (hk : x.key = y.key) : i = j := by
  have h1 := (h.ok x.key i).2 ⟨x, hx, rfl⟩
  have h2 := (h.ok x.key j).2 ⟨y, hy, hk.symm⟩
  rw [h1] at h2
  injection h2
theorem AtOk.has {m : List (Key × Nat)} {l : List Msg} (h : AtOk m l) (k : Key) : (lkA m k).isSome = true ↔ ∃ x ∈ l, x.key = k := by
  constructor
  · intro hs
    obtain ⟨i, hi⟩ := Option.isSome_iff_exists.1 hs
    obtain ⟨x, hx, hk⟩ := (h.ok k i).1 hi
    exact ⟨x, List.mem_of_getElem? hx, hk⟩
  · rintro ⟨x, hx, hk⟩
    obtain ⟨i, hi⟩ := List.mem_iff_getElem?.1 hx
    rw [(h.ok k i).2 ⟨x, hi, hk⟩]
    rfl
theorem AtOk.push {m : List (Key × Nat)} {l : List Msg} (h : AtOk m l) {x : Msg} (hx : ∀ y ∈ l, y.key ≠ x.key) : AtOk (upA m x.key l.length) (l ++ [x]) := by
  refine ⟨h.u.up _ _, fun k i => ?_⟩
  rw [lkA_up h.u]
  by_cases hk : k = x.key
  · rw [if_pos hk]
    constructor
    · intro hi
      injection hi with hi
      subst hi
      exact ⟨x, by simp, hk.symm⟩
    · rintro ⟨y, hy, hyk⟩
      by_cases hil : i < l.length
      · rw [List.getElem?_append_left hil] at hy
        exact absurd (hyk.trans hk) (hx y (List.mem_of_getElem? hy))
      · have hle := (List.getElem?_eq_some_iff.1 hy).1
        rw [List.length_append] at hle
        simp only [List.length_cons, List.length_nil] at hle
        rw [show i = l.length by omega]
  · rw [if_neg hk, h.ok k i]
    constructor
    · rintro ⟨y, hy, hyk⟩
      exact ⟨y, by rw [List.getElem?_append_left (List.getElem?_eq_some_iff.1 hy).1]; exact hy, hyk⟩
    · rintro ⟨y, hy, hyk⟩
      by_cases hil : i < l.length
      · rw [List.getElem?_append_left hil] at hy
        exact ⟨y, hy, hyk⟩
      · have hle := (List.getElem?_eq_some_iff.1 hy).1
        rw [List.length_append] at hle
        simp only [List.length_cons, List.length_nil] at hle
        rw [show i = l.length by omega] at hy
        have : y = x := by simpa using hy.symm
        rw [this] at hyk
        exact absurd hyk.symm hk
def swapM (l : List Msg) (i k : Nat) (x y : Msg) : List Msg := (l.set i y).set k x
theorem swapM_len (l : List Msg) (i k : Nat) (x y : Msg) : (swapM l i k x y).length = l.length := by simp [swapM]
theorem swapM_get {l : List Msg} {i k : Nat} {x y : Msg} (hx : l[i]? = some x) (hy : l[k]? = some y) (n : Nat) : (swapM l i k x y)[n]? = if n = k then some x else if n = i then some y else l[n]? := by
  have hi := (List.getElem?_eq_some_iff.1 hx).1
  have hk := (List.getElem?_eq_some_iff.1 hy).1
  unfold swapM
  rw [List.getElem?_set]
  by_cases h : k = n
  · subst h; simp [hk]
  · have h' : ¬ n = k := fun e => h e.symm
    rw [if_neg h, if_neg h', List.getElem?_set]
    by_cases h2 : i = n
    · subst h2; simp [hi]
    · have h2' : ¬ n = i := fun e => h2 e.symm
      rw [if_neg h2, if_neg h2']
theorem AtOk.swap {m : List (Key × Nat)} {l : List Msg} (h : AtOk m l) {i k : Nat} {x y : Msg} (hx : l[i]? = some x) (hy : l[k]? = some y) : AtOk (upA (upA m y.key i) x.key k) (swapM l i k x y) := by
  have u1 := h.u.up y.key i
  refine ⟨u1.up _ _, fun q n => ?_⟩
  rw [lkA_up u1, lkA_up h.u, swapM_get hx hy]
  by_cases h1 : q = x.key
  · rw [if_pos h1]
    constructor
    · intro hn
      injection hn with hn
      subst hn
      exact ⟨x, by rw [if_pos rfl], h1.symm⟩
    · rintro ⟨z, hz, hzk⟩
      split at hz
      · rename_i e; rw [e]
      · split at hz
        · rename_i e1 e2
          injection hz with hz
          subst hz
          have := h.inj hx hy (by rw [hzk, h1])
          omega
        · rename_i e1 e2
          have := h.inj hz hx (by rw [hzk, h1])
          omega
  · rw [if_neg h1]
    by_cases h2 : q = y.key
    · rw [if_pos h2]
      constructor
      · intro hn
        injection hn with hn
        subst hn
        refine ⟨y, ?_, h2.symm⟩
        by_cases hik : i = k
        · subst hik
          rw [hx] at hy
          injection hy with hy
          subst hy
          exact absurd h2 h1
        · rw [if_neg hik, if_pos rfl]
      · rintro ⟨z, hz, hzk⟩
        split at hz
        · injection hz with hz
          subst hz
          exact absurd hzk.symm h1
        · split at hz
          · rename_i e1 e2; rw [e2]
          · rename_i e1 e2
            have := h.inj hz hy (by rw [hzk, h2])
            omega
    · rw [if_neg h2, h.ok q n]
      constructor
      · rintro ⟨z, hz, hzk⟩
        refine ⟨z, ?_, hzk⟩
        have n1 : n ≠ k := fun e => by subst e; rw [hy] at hz; injection hz with hz; subst hz; exact h2 hzk.symm
        have n2 : n ≠ i := fun e => by subst e; rw [hx] at hz; injection hz with hz; subst hz; exact h1 hzk.symm
        rw [if_neg n1, if_neg n2]
        exact hz
      · rintro ⟨z, hz, hzk⟩
        split at hz
        · injection hz with hz; subst hz; exact absurd hzk.symm h1
        · split at hz
          · injection hz with hz; subst hz; exact absurd hzk.symm h2
          · exact ⟨z, hz, hzk⟩
theorem swapM_perm {l : List Msg} {i k : Nat} {x y : Msg} (hx : l[i]? = some x) (hy : l[k]? = some y) : (swapM l i k x y).Perm l := by
  have hi := (List.getElem?_eq_some_iff.1 hx)
  have hk := (List.getElem?_eq_some_iff.1 hy)
  by_cases hik : i = k
  · subst hik
    rw [hx] at hy
    injection hy with hy
    subst hy
    have : swapM l i i x x = l := by
      apply List.ext_getElem?
      intro n
      rw [swapM_get hx hx]
      split
      · rename_i e; subst e; exact hx.symm
      · rfl
    rw [this]
  · unfold swapM
    have h1 := List.set_set_perm hi.1 hk.1
    rw [hi.2, hk.2] at h1
    exact h1

structure PX where
  (v : Value) (b : Nat) (m : List (Key × Nat))
def IsPrio (q : Nat) (room : Int) (l : List Msg) : HP := hex fun x : PX => sepL [pur (AtOk x.m l), blk q 155 [.int .i64 room, x.v, .map (some x.b)], ownS 37 6 Msg.cs x.v l, isMap kfK vfN x.b x.m]
theorem prio_of {q : Nat} {room : Int} {l : List Msg} (h : Sat e w (IsPrio q room l :: R)) : ∃ v b m, AtOk m l ∧ Sat e w (blk q 155 [.int .i64 room, v, .map (some b)] :: ownS 37 6 Msg.cs v l :: isMap kfK vfN b m :: R) := by
  obtain ⟨x, h0⟩ := h.ex
  exact ⟨x.v, x.b, x.m, Sat.pure h0.split⟩
theorem prio_mk {q : Nat} {room : Int} {l : List Msg} {v : Value} {b : Nat} {m : List (Key × Nat)} (ha : AtOk m l) (h : Sat e w (blk q 155 [.int .i64 room, v, .map (some b)] :: ownS 37 6 Msg.cs v l :: isMap kfK vfN b m :: R)) : Sat e w (IsPrio q room l :: R) :=
  .mk_ex ⟨v, b, m⟩ (.join (l' := [_, _, _, _]) (.mk_pure ha h))

theorem prio_New_s {n : Int} (hS : Sat e w R) (hk : ∀ q w', Sat e w' (IsPrio q (max 0 (min n 64)) [] :: R) → K (.pointer (some ⟨q, 0, none⟩)) w') : Cl prog 44 #[.int .i64 n] w K := by
  refine prio_New_calls ?_
  unfold prio_New
  refine min_s (max_s ?_)
  refine mkMap_s kfK vfN hS fun b w1 h1 => ?_
  rw [zero_155]
  refine bld_s [.int .i64 (max 0 (min n 64)), .slice none 0 0, .map (some b)] (by kernel_rfl) ?_
  refine al_s (cs := [.int .i64 (max 0 (min n 64)), .slice none 0 0, .map (some b)]) h1 rfl fun q w2 h2 => ?_
  refine hk _ _ (prio_mk (v := .slice none 0 0) AtOk.nil ((h2.own_nil 37 6 Msg.cs).selR [_, _, _] [_, _, _] [1, 0, 2] (by decide) rfl))
theorem prio_Len_s {q : Nat} {room : Int} {l : List Msg} (hS : Sat e w (IsPrio q room l :: R)) (hk : K (.int .i64 (l.length : Int)) w) : Cl prog 101 #[.pointer (some ⟨q, 0, none⟩)] w K := by
  obtain ⟨v, b, m, ha, h1⟩ := prio_of hS
  refine prio_Queue_Len_calls ?_
  unfold prio_Queue_Len
  refine ncP_p (fld_at (ld1_at h1 0 rfl (v := v) rfl ?_))
  exact lnS_rd h1 1 rfl (fun g hg => own_rd hg) hk

abbrev rcv (q : Nat) : Value := .agg #[.pointer (some ⟨q, 0, none⟩)]
theorem faced_Len_s {q : Nat} {room : Int} {l : List Msg} (hS : Sat e w (IsPrio q room l :: R)) (hk : ∀ w', Sat e w' (IsPrio q room l :: R) → K (.int .i64 (l.length : Int)) w') : clI prog (.iface 172 (rcv q)) "Len" #[] w K := by
  refine clI_s (f := 224) (rcv := rcv q) (by kernel_rfl) ?_
  refine prio_faced_Len_calls (t0 := rcv q) ?_
  unfold prio_faced_Len
  obtain ⟨v, b, m, ha, h1⟩ := prio_of hS
  refine al_s (cs := [.pointer (some ⟨q, 0, none⟩)]) h1 rfl fun c w2 h2 => ?_
  refine fld_at (ld1_at h2 0 rfl (v := .pointer (some ⟨q, 0, none⟩)) rfl ?_)
  refine ncP_p (fld_at (ld1_at h2 1 rfl (v := v) rfl ?_))
  exact lnS_rd h2 2 rfl (fun g hg => own_rd hg) (hk _ (prio_mk ha h2.drop))
theorem faced_Less_s {q i k : Nat} {room : Int} {l : List Msg} {x y : Msg} (hx : l[i]? = some x) (hy : l[k]? = some y) (hS : Sat e w (IsPrio q room l :: R)) (hk : ∀ w', Sat e w' (IsPrio q room l :: R) → K (.bool (decide (cmpK x.key y.key < 0))) w') :
    clI prog (.iface 172 (rcv q)) "Less" #[.int .i64 (i : Int), .int .i64 (k : Int)] w K := by
  refine clI_s (f := 225) (rcv := rcv q) (by kernel_rfl) ?_
  refine prio_faced_Less_calls (t0 := rcv q) (t1 := .int .i64 (i : Int)) (t2 := .int .i64 (k : Int)) ?_
  unfold prio_faced_Less
  obtain ⟨v, b, m, ha, h1⟩ := prio_of hS
  refine al_s (cs := [.pointer (some ⟨q, 0, none⟩)]) h1 rfl fun c w2 h2 => ?_
  refine dr_s h2 fun w3 h3 => ?_
  refine fld_at (ld1_at h3 0 rfl (v := .pointer (some ⟨q, 0, none⟩)) rfl ?_)
  refine ncP_p (fld_at (ld1_at h3 1 rfl (v := v) rfl ?_))
  refine ixS_rd h3 2 rfl (fun g hg => own_rd hg) (fun _ => rfl) hx fun p hp => ?_
  refine fld_of hp fun p1 hp1 => ?_
  refine ldN_sub (us := x.key.cs) h3 2 rfl hp1 (by rfl) rfl ?_
  refine fld_at (ld1_at h3 0 rfl (v := .pointer (some ⟨q, 0, none⟩)) rfl ?_)
  refine ncP_p (fld_at (ld1_at h3 1 rfl (v := v) rfl ?_))
  refine ixS_rd h3 2 rfl (fun g hg => own_rd hg) (fun _ => rfl) hy fun p hp => ?_
  refine fld_of hp fun p1 hp1 => ?_
  refine ldN_sub (us := y.key.cs) h3 2 rfl hp1 (by rfl) rfl ?_
  refine vtime_Cmp_s h3 fun w4 h4 => ?_
  exact lt_d (hk _ (prio_mk ha h4.drop))
theorem faced_Swap_s {q i k : Nat} {room : Int} {l : List Msg} {x y : Msg} (hx : l[i]? = some x) (hy : l[k]? = some y) (hS : Sat e w (IsPrio q room l :: R)) (hk : ∀ w', Sat e w' (IsPrio q room (swapM l i k x y) :: R) → K (.tuple #[]) w') :
    clI prog (.iface 172 (rcv q)) "Swap" #[.int .i64 (i : Int), .int .i64 (k : Int)] w K := by
  refine clI_s (f := 228) (rcv := rcv q) (by kernel_rfl) ?_
  refine prio_faced_Swap_calls (t0 := rcv q) (t1 := .int .i64 (i : Int)) (t2 := .int .i64 (k : Int)) ?_
  unfold prio_faced_Swap
  obtain ⟨v, b, m, ha, h1⟩ := prio_of hS
  have hi := (List.getElem?_eq_some_iff.1 hx).1
  have hkl := (List.getElem?_eq_some_iff.1 hy).1
  refine al_s (cs := [.pointer (some ⟨q, 0, none⟩)]) h1 rfl fun c w2 h2 => ?_
  refine dr_s h2 fun w3 h3 => ?_
  refine fld_at (ld1_at h3 0 rfl (v := .pointer (some ⟨q, 0, none⟩)) rfl ?_)
  refine ncP_p (fld_at (ld1_at h3 1 rfl (v := v) rfl ?_))
  refine fld_at (ld1_at h3 0 rfl (v := .pointer (some ⟨q, 0, none⟩)) rfl ?_)
  refine ncP_p (fld_at (ld1_at h3 1 rfl (v := v) rfl ?_))
  refine fld_at (ld1_at h3 0 rfl (v := .pointer (some ⟨q, 0, none⟩)) rfl ?_)
  refine ncP_p (fld_at (ld1_at h3 1 rfl (v := v) rfl ?_))
  refine ixS_rd h3 2 rfl (fun g hg => own_rd hg) (fun _ => rfl) hy fun p hp => ?_
  refine ldN_of h3 2 rfl hp rfl ?_
  refine fld_at (ld1_at h3 0 rfl (v := .pointer (some ⟨q, 0, none⟩)) rfl ?_)
  refine ncP_p (fld_at (ld1_at h3 1 rfl (v := v) rfl ?_))
  refine ixS_rd h3 2 rfl (fun g hg => own_rd hg) (fun _ => rfl) hx fun p hp => ?_
  refine ldN_of h3 2 rfl hp rfl ?_
  refine st_own' h3 2 rfl (fun _ => rfl) hi (x := y) rfl (ints_flat _) fun w4 h4 => ?_
  refine st_own' h4 2 rfl (fun _ => rfl) (by rw [List.length_set]; exact hkl) (x := x) rfl (ints_flat _) fun w5 h5 => ?_
  replace h5 : Sat e w5 (blk c 172 [.pointer (some ⟨q, 0, none⟩)] :: blk q 155 [.int .i64 room, v, .map (some b)] :: ownS 37 6 Msg.cs v (swapM l i k x y) :: isMap kfK vfN b m :: R) := h5
  have hgi : (swapM l i k x y)[i]? = some y := by
    rw [swapM_get hx hy]
    by_cases hik : i = k
    · subst hik; rw [if_pos rfl]; rw [hx] at hy; exact hy
    · rw [if_neg hik, if_pos rfl]
  have hgk : (swapM l i k x y)[k]? = some x := by rw [swapM_get hx hy, if_pos rfl]
  refine dr_s h5 fun w6 h6 => ?_
  refine fld_at (ld1_at h6 0 rfl (v := .pointer (some ⟨q, 0, none⟩)) rfl ?_)
  refine ncP_p (fld_at (ld1_at h6 1 rfl (v := .map (some b)) rfl ?_))
  refine fld_at (ld1_at h6 0 rfl (v := .pointer (some ⟨q, 0, none⟩)) rfl ?_)
  refine ncP_p (fld_at (ld1_at h6 1 rfl (v := v) rfl ?_))
  refine ixS_rd h6 2 rfl (fun g hg => own_rd hg) (fun _ => rfl) hgi fun p hp => ?_
  refine fld_of hp fun p1 hp1 => ?_
  refine ldN_sub (us := y.key.cs) h6 2 rfl hp1 (by rfl) rfl ?_
  refine fld_at (ld1_at h6 0 rfl (v := .pointer (some ⟨q, 0, none⟩)) rfl ?_)
  refine ncP_p (fld_at (ld1_at h6 1 rfl (v := .map (some b)) rfl ?_))
  refine fld_at (ld1_at h6 0 rfl (v := .pointer (some ⟨q, 0, none⟩)) rfl ?_)
  refine ncP_p (fld_at (ld1_at h6 1 rfl (v := v) rfl ?_))
  refine ixS_rd h6 2 rfl (fun g hg => own_rd hg) (fun _ => rfl) hgk fun p hp => ?_
  refine fld_of hp fun p1 hp1 => ?_
  refine ldN_sub (us := x.key.cs) h6 2 rfl hp1 (by rfl) rfl ?_
  have hy1 : (lkA m y.key).isSome = true := (ha.has y.key).2 ⟨y, List.mem_of_getElem? hy, rfl⟩
  have hx1 : (lkA (upA m y.key i) x.key).isSome = true := by
    rw [lkA_up ha.u]
    split
    · rfl
    · exact (ha.has x.key).2 ⟨x, List.mem_of_getElem? hx, rfl⟩
  refine mes_s keyT_Key mapT_153 ha.u (h6.pick 3 rfl) y.key i rfl hy1 fun w7 h7 => ?_
  refine mes_s keyT_Key mapT_153 (ha.u.up _ _) h7 x.key k rfl hx1 fun w8 h8 => ?_
  exact hk _ (prio_mk (ha.swap hx hy) (h8.selR [_, _, _, _] [_, _, _] [2, 3, 0] (by decide) rfl))
theorem faced_Push_s {q : Nat} {room : Int} {l : List Msg} {x : Msg} (hx : ∀ y ∈ l, y.key ≠ x.key) (hl : l.length ≤ 1000) (hS : Sat e w (IsPrio q room l :: R)) (hk : ∀ w', Sat e w' (IsPrio q room (l ++ [x]) :: R) → K (.tuple #[]) w') :
    clI prog (.iface 172 (rcv q)) "Push" #[.iface 37 (.agg x.cs.toArray)] w K := by
  refine clI_s (f := 227) (rcv := rcv q) (by kernel_rfl) ?_
  refine prio_faced_Push_calls (t0 := rcv q) (t1 := .iface 37 (.agg x.cs.toArray)) ?_
  unfold prio_faced_Push
  obtain ⟨v, b, m, ha, h1⟩ := prio_of hS
  refine al_s (cs := [.pointer (some ⟨q, 0, none⟩)]) h1 rfl fun c w2 h2 => ?_
  refine tyA_ok (by kernel_rfl) ?_
  rw [zero_37]
  refine al_s (cs := ints [0, 0, 0, 0, 0, 0]) h2 rfl fun d w3 h3 => ?_
  refine stN_at h3 0 rfl (vs := x.cs) rfl rfl (Nat.le_of_ble_eq_true rfl) (ints_flat _) (cs' := x.cs) (by kernel_rfl) fun w4 h4 => ?_
  refine dr_s h4 fun w5 h5 => ?_
  refine fld_at (ld1_at h5 1 rfl (v := .pointer (some ⟨q, 0, none⟩)) rfl ?_)
  refine ncP_p (fld_at (ld1_at h5 2 rfl (v := .map (some b)) rfl ?_))
  refine fld_at (ldN_at h5 0 (vs := x.key.cs) rfl (by rfl) rfl ?_)
  refine fld_at (ld1_at h5 1 rfl (v := .pointer (some ⟨q, 0, none⟩)) rfl ?_)
  refine ncP_p (fld_at (ld1_at h5 2 rfl (v := v) rfl ?_))
  refine lnS_rd h5 3 rfl (fun g hg => own_rd hg) ?_
  refine upM_s keyT_Key mapT_153 ha.u (h5.pick 4 rfl) x.key l.length rfl fun w6 h6 => ?_
  replace h6 : Sat e w6 (ownS 37 6 Msg.cs v l :: blk d 37 x.cs :: blk c 172 [.pointer (some ⟨q, 0, none⟩)] :: blk q 155 [.int .i64 room, v, .map (some b)] :: isMap kfK vfN b (upA m x.key l.length) :: R) :=
    h6.selR [_, _, _, _, _] [_, _, _, _, _] [4, 1, 2, 3, 0] (by decide) rfl
  refine dr_s h6 fun w7 h7 => ?_
  refine fld_at (ld1_at h7 2 rfl (v := .pointer (some ⟨q, 0, none⟩)) rfl ?_)
  refine fld_at (ld1_at h7 2 rfl (v := .pointer (some ⟨q, 0, none⟩)) rfl ?_)
  refine ncP_p (fld_at (ld1_at h7 3 rfl (v := v) rfl ?_))
  refine ldN_at h7 1 (vs := x.cs) rfl (by rfl) rfl ?_
  refine bsl1 (vs := x.cs) rfl rfl h7 fun b30 w8 h8 => ?_
  refine ⟨ld1_at h8 4 rfl rfl ⟨rfl, rfl⟩, ld1_at h8 3 rfl rfl ⟨rfl, rfl⟩, ld1_at h8 3 rfl rfl ⟨rfl, rfl⟩, ?_⟩
  refine apS_own te_33 und_33 (f := Msg.cs) (fun _ => rfl) (fun _ => ints_flat _) h8.swap (m := [x]) (blk_rd1 (f := Msg.cs) (x := x) (Nat.le_refl _)) (by simp; omega) fun v' w9 h9 => ?_
  refine ⟨ld1_at h9 3 rfl rfl ⟨rfl, rfl⟩, ?_⟩
  refine ncP_p (fld_at ?_)
  refine st1_at h9 4 rfl (h9.own_cells 0 rfl) (Nat.le_of_ble_eq_true rfl) rfl fun w10 h10 => ?_
  exact hk _ (prio_mk (ha.push hx) (h10.selR [_, _, _, _, _, _] [_, _, _] [4, 0, 5] (by decide) rfl))
end Go.Proofs.YtbopajpmadlmhaaGreat
end
