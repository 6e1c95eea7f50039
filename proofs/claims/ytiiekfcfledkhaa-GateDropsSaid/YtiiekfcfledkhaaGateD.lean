/- The law GateDrops. Conditions: none. -/
import Derived.Test.YtiiekfcfledkhaaGateA
import Derived.Test.YtiiekfcfledkhaaTimeA
import Derived.Test.YtiiekfcfledkhaaEngN
import Derived.Test.YtiiekfcfledkhaaPf0
import Derived.Test.YtiiekfcfledkhaaPf1
import Derived.Test.YtiiekfcfledkhaaPf2
import Derived.Test.YtiiekfcfledkhaaPf3
import Derived.Test.YtiiekfcfledkhaaPf4
import Derived.Test.YtiiekfcfledkhaaPf5
import Derived.Test.YtiiekfcfledkhaaPf6
import Derived.Test.YtiiekfcfledkhaaPf7
import Derived.Test.YtiiekfcfledkhaaPf8
import Derived.Test.YtiiekfcfledkhaaPf9
import Derived.Test.YtiiekfcfledkhaaPf10
namespace Go.Proofs.Ytiiekfcfledkhaa
open Go Go.E
set_option maxRecDepth 100000
variable {e w : World} {R : List HP} {K : KV}

theorem drop1_s {b : Nat} {k : Key} {x : Kept} (hS : Sat e w (blk b 24 k.cs :: R)) (hk : ∀ w', Sat e w' (blk b 24 k.cs :: R) → K (.bool (decide (0 ≤ cmpK x.cause k))) w') :
    clV prog (.func (.func 66) #[] #[.pointer (some ⟨b, 0, none⟩)]) #[.agg x.cs.toArray] w K := by
  refine ⟨_, _, _, rfl, ?_⟩
  refine gate_Gate_Drop_1_calls (t0 := .agg x.cs.toArray) (t1 := .pointer (some ⟨b, 0, none⟩)) ?_
  unfold gate_Gate_Drop_1
  refine al_s (cs := x.cs) hS rfl fun b2 w1 h1 => ?_
  refine fld_at ?_
  refine ldN_at h1 0 (vs := x.cause.cs) rfl (by rfl) rfl ?_
  refine ldN_at h1 1 (vs := k.cs) rfl (by rfl) rfl ?_
  refine vtime_Cmp_s h1 fun w2 h2 => ?_
  refine ge_d ?_
  exact hk _ h2.drop

def dropP (k : Key) (x : Kept) : Bool := decide (0 ≤ cmpK x.cause k)
theorem gate_Drop_s {g : Nat} {fl : Int} {l : List Kept} (k : Key) (hS : Sat e w (IsGate g fl l :: R)) (hl : l.length ≤ 1000000)
    (hk : ∀ v w', Sat e w' (ownS 28 6 Msg.cs v ((l.filter (dropP k)).map Kept.m) :: IsGate g fl (l.filter fun x => !dropP k x) :: R) → K v w') : Cl prog 45 #[.pointer (some ⟨g, 0, none⟩), .agg k.cs.toArray] w K := by
  refine gate_Gate_Drop_calls ?_
  unfold gate_Gate_Drop
  refine al_s (cs := k.cs) hS rfl fun b3 w1 h1 => ?_
  refine gate_part_s (dropP k) h1.swap hl (fun w R K x h hk => drop1_s h hk) fun v' w2 h2 => ?_
  refine messages_s h2 (fun g hg => own_rd hg) (Nat.le_trans (List.length_filter_le _ _) hl) fun v3 w3 h3 => ?_
  exact hk _ _ (h3.selR [_, _, _, _] [_, _] [0, 2] (by decide) rfl)

/-- What is held behind the first j steps. -/
def dropK (l : List Int) (j : Nat) : List Kept := (List.range j).map fun i => ⟨⟨l.getD i 0, 0, 0⟩, ⟨⟨0, 0, 0⟩, 0, 0, i⟩⟩
def dropN (l : List Int) (a : Int) (j : Nat) : Nat := ((List.range j).filter fun i => decide (l.getD i 0 < a)).length
theorem dropP_eq (c a : Int) (m : Msg) : dropP ⟨a, 0, 0⟩ ⟨⟨c, 0, 0⟩, m⟩ = !decide (c < a) := by
  unfold dropP cmpK cmpI
  simp only [Int.lt_irrefl, if_false]
  by_cases h : c < a
  · simp [h]
  · by_cases h2 : a < c
    · simp [h, h2]
    · simp [h, h2]
theorem dropK_not (l : List Int) (a : Int) (j : Nat) : (dropK l j).filter (fun x => !dropP ⟨a, 0, 0⟩ x) = ((List.range j).filter fun i => decide (l.getD i 0 < a)).map fun i : Nat => (⟨⟨l.getD i 0, 0, 0⟩, ⟨⟨0, 0, 0⟩, 0, 0, i⟩⟩ : Kept) := by
  unfold dropK
  rw [List.filter_map]
  congr 1
  apply List.filter_congr
  intro i _
  simp only [Function.comp, dropP_eq, Bool.not_not]
theorem dropK_yes (l : List Int) (a : Int) (j : Nat) : ((dropK l j).filter (dropP ⟨a, 0, 0⟩)).length + dropN l a j = j := by
  have h1 : ((dropK l j).filter (dropP ⟨a, 0, 0⟩)).length = ((List.range j).filter fun i => !decide (l.getD i 0 < a)).length := by
    unfold dropK
    rw [List.filter_map, List.length_map]
    congr 1
    apply List.filter_congr
    intro i _
    simp only [Function.comp, dropP_eq]
  rw [h1]
  unfold dropN
  have h2 := List.length_eq_countP_add_countP (fun i => decide (l.getD i 0 < a)) (l := List.range j)
  rw [List.length_range] at h2
  rw [List.countP_eq_length_filter, List.countP_eq_length_filter] at h2
  have h3 : ((List.range j).filter fun i => !decide (l.getD i 0 < a)).length = ((List.range j).filter fun i => decide (¬ (decide (l.getD i 0 < a)) = true)).length := by
    congr 1
    apply List.filter_congr
    intro i _
    cases decide (l.getD i 0 < a) <;> rfl
  omega

theorem wf8 {n : Int} (h : (Lit.int .u8 n).wf = true) : 0 ≤ n ∧ n ≤ 255 := by
  simp only [Lit.wf, IntKind.min, IntKind.max, IntKind.signed, IntKind.bits] at h
  simp at h
  omega

theorem gateDrops_s {v : Value} {l : List Int} {S : HP} (hS : Sat e w (S :: R)) (hr : ∀ g, S g → rdS 1 (intsK .u8) v l g) (hw : ∀ m ∈ l, (Lit.int .u8 m).wf = true) {a : Int} (ha : (Lit.int .u8 a).wf = true)
    (hk : ∀ w', Sat e w' (S :: R) → K (.bool true) w') : Cl prog 13 #[v, .int .u8 a] w K := by
  have ha' := wf8 ha
  refine pacelinelaw14_GateDrops_calls ?_
  unfold pacelinelaw14_GateDrops
  refine lnS_rd hS 0 rfl hr ?_
  refine gt_c (fun c1 => iff_t (hk _ hS)) (fun c1 => iff_f ?_)
  refine gate_New_s hS fun g w1 h1 => ?_
  refine lpi2 (fun m t6 t7 w => ∃ j : Nat, j ≤ l.length ∧ t7 = .int .i64 j ∧ t6 = .int .i64 (dropN l a j) ∧ m = l.length - j ∧ Sat e w (IsGate g 0 (dropK l j) :: S :: R)) l.length
    ⟨0, Nat.zero_le _, rfl, rfl, rfl, h1⟩ ?_
  rintro m _ _ w g1 ⟨j, hj, rfl, rfl, rfl, h2⟩ hg
  have hnj : dropN l a j ≤ j := by
    unfold dropN
    have := List.length_filter_le (fun i => decide (l.getD i 0 < a)) (List.range j)
    rw [List.length_range] at this
    exact this
  refine lnS_rd h2 1 rfl hr ?_
  refine lt_c (fun c2 => iff_t ?_) (fun c2 => iff_f ?_)
  · obtain ⟨x, hx⟩ := get_of_lt (l := l) (j := j) (by omega)
    have hxw := wf8 (hw x (List.mem_of_getElem? hx))
    have hxd : l.getD j 0 = x := by rw [List.getD_eq_getElem?_getD, hx]; rfl
    have hns : dropN l a (j + 1) = dropN l a j + if x < a then 1 else 0 := by
      unfold dropN
      rw [List.range_succ, List.filter_append, List.length_append]
      congr 1
      by_cases hxa : x < a
      · rw [if_pos hxa]; rw [List.filter_cons, List.filter_nil, hxd]; simp [hxa]
      · rw [if_neg hxa]; rw [List.filter_cons, List.filter_nil, hxd]; simp [hxa]
    refine J1.cut (fun y w => y = .int .i64 (dropN l a (j + 1)) ∧ Sat e w (IsGate g 0 (dropK l (j + 1)) :: S :: R)) (fun k2 hcut => ?_) ?_
    · refine ixS_rd h2 1 rfl hr (fun _ => rfl) hx fun p hp => ?_
      refine ld1_of h2 1 rfl hp rfl ?_
      refine cv_s ?_
      rw [wrap_i64 (by omega) (by omega)]
      rw [zero_24, zero_28]
      refine bld_s (Key.cs ⟨x, 0, 0⟩) (by kernel_rfl) ?_
      refine bld_s (Msg.cs ⟨⟨0, 0, 0⟩, 0, 0, j⟩) (by kernel_rfl) ?_
      have hlen : (dropK l j).length = j := by simp [dropK]
      refine gate_Hold_s ⟨x, 0, 0⟩ ⟨⟨0, 0, 0⟩, 0, 0, j⟩ h2 (by omega) fun w3 h3 => ?_
      have e1 : holdE 0 (dropK l j) ⟨x, 0, 0⟩ = 0 := by
        unfold holdE
        rw [if_neg (show ¬ x < 0 by omega), if_neg (by omega)]
      have e2 : holdL 0 (dropK l j) ⟨x, 0, 0⟩ ⟨⟨0, 0, 0⟩, 0, 0, j⟩ = dropK l (j + 1) := by
        unfold holdL
        rw [if_neg (show ¬ x < 0 by omega), if_neg (by omega)]
        unfold dropK
        rw [List.range_succ, List.map_append, List.map_singleton, hxd]
      rw [e1]
      rw [e2] at h3
      repeat (first | refine gd_tt ?_ | refine gd_ff ?_ | refine gd_tf ?_ | refine gd_ft ?_ | refine gd_u ?_ | refine pk_t ?_ | refine pk_f ?_ | refine iff_t ?_ | refine iff_f ?_ | refine not_t ?_ | refine not_f ?_ | refine beq_s ?_ | refine bne_s ?_ | refine ncP_p ?_ | refine nc_p ?_ | refine fld_at ?_ | refine xt_02 ?_ | refine xt_12 ?_ | refine xt_03 ?_ | refine xt_13 ?_ | refine xt_23 ?_ | refine eq_t (by omega) ?_ | refine eq_f (by omega) ?_ | refine ne_t (by omega) ?_ | refine ne_f (by omega) ?_ | refine lt_t (by omega) ?_ | refine lt_f (by omega) ?_ | refine gt_t (by omega) ?_ | refine gt_f (by omega) ?_ | refine ge_t (by omega) ?_ | refine ge_f (by omega) ?_ | refine le_t (by omega) ?_ | refine le_f (by omega) ?_)
      refine ixS_rd h3 1 rfl hr (fun _ => rfl) hx fun p hp => ?_
      refine ld1_of h3 1 rfl hp rfl ?_
      refine lt_c (fun c3 => iff_t ?_) (fun c3 => iff_f ?_)
      · rw [if_pos c3] at hns
        refine inc_s (by omega) (hcut _ _ ⟨by rw [hns], h3⟩)
      · rw [if_neg c3] at hns
        exact hcut _ _ ⟨by rw [hns]; rfl, h3⟩
    · rintro _ w ⟨rfl, h3⟩
      refine inc_s (by omega) ?_
      exact hg _ _ _ _ (by omega) ⟨j + 1, by omega, rfl, rfl, rfl, h3⟩
  obtain rfl : j = l.length := by omega
  have hdl : (dropK l l.length).length = l.length := by simp [dropK]
  refine cv_s ?_
  rw [wrap_i64 (by omega) (by omega)]
  rw [zero_24, zero_28]
  refine bld_s (Key.cs ⟨a, 0, 0⟩) (by kernel_rfl) ?_
  refine gate_Drop_s ⟨a, 0, 0⟩ h2 (by omega) fun v3 w3 h3 => ?_
  refine cv_s ?_
  rw [wrap_i64 (by omega) (by omega)]
  refine bld_s (Key.cs ⟨a, 0, 0⟩) (by kernel_rfl) ?_
  refine gate_Drop_s ⟨a, 0, 0⟩ h3.swap (Nat.le_trans (List.length_filter_le _ _) (by omega)) fun v4 w4 h4 => ?_
  rw [List.filter_filter, List.filter_filter, show (fun x => dropP ⟨a, 0, 0⟩ x && !dropP ⟨a, 0, 0⟩ x) = fun _ => false from by funext x; cases dropP ⟨a, 0, 0⟩ x <;> rfl, show (fun x => !dropP ⟨a, 0, 0⟩ x && !dropP ⟨a, 0, 0⟩ x) = fun x => !dropP ⟨a, 0, 0⟩ x from by funext x; cases dropP ⟨a, 0, 0⟩ x <;> rfl] at h4
  have hyes := dropK_yes l a l.length
  have hnot := dropK_not l a l.length
  generalize hD : (dropK l l.length).filter (dropP ⟨a, 0, 0⟩) = D at hyes h4
  rw [hnot] at h4
  refine gate_Held_s (h4.pick 1 rfl) (by rw [List.length_map]; unfold dropN at hnj; omega) fun v5 w5 h5 => ?_
  rw [List.map_map] at h5
  simp only [Function.comp_def] at h5
  generalize hH : ((List.range l.length).filter fun i => decide (l.getD i 0 < a)) = H at h5
  have hHl : H.length = dropN l a l.length := by rw [← hH]; rfl
  refine lpi1 (fun m t11 w => ∃ j : Nat, j ≤ H.length ∧ t11 = .int .i64 j ∧ m = H.length - j ∧ Sat e w (ownS 28 6 Msg.cs v5 (H.map fun i : Nat => (⟨⟨0, 0, 0⟩, 0, 0, (i : Int)⟩ : Msg)) :: IsGate g 0 (H.map fun i : Nat => (⟨⟨l.getD i 0, 0, 0⟩, ⟨⟨0, 0, 0⟩, 0, 0, i⟩⟩ : Kept)) ::
      ownS 28 6 Msg.cs v4 (([] : List Kept).map Kept.m) :: ownS 28 6 Msg.cs v3 (D.map Kept.m) :: S :: R)) H.length
    ⟨0, Nat.zero_le _, rfl, rfl, ?_⟩ ?_
  · rw [show (List.filter (fun _ => false) (dropK l l.length)) = [] from by simp] at h5
    exact h5
  rintro m _ w g3 ⟨j, hj, rfl, rfl, h6⟩ hg3
  refine lnS_rd h6 0 rfl (fun g hg => own_rd hg) ?_
  rw [List.length_map]
  refine lt_c (fun c3 => iff_t ?_) (fun c3 => iff_f ?_)
  · obtain ⟨i, hi⟩ := get_of_lt (l := H) (j := j) (by omega)
    have him : i ∈ H := List.mem_of_getElem? hi
    rw [← hH, List.mem_filter, List.mem_range, decide_eq_true_eq] at him
    have hmi : (H.map fun i : Nat => (⟨⟨0, 0, 0⟩, 0, 0, (i : Int)⟩ : Msg))[j]? = some ⟨⟨0, 0, 0⟩, 0, 0, (i : Int)⟩ := by rw [List.getElem?_map, hi]; rfl
    obtain ⟨x, hx⟩ := get_of_lt (l := l) (j := i) him.1
    have hxd : l.getD i 0 = x := by rw [List.getD_eq_getElem?_getD, hx]; rfl
    rw [hxd] at him
    refine ixS_rd h6 0 rfl (fun g hg => own_rd hg) (fun _ => rfl) hmi fun p hp => ?_
    refine fld_of hp fun p1 hp1 => ?_
    refine ld1_of h6 0 rfl hp1 rfl ?_
    refine ixS_rd h6 4 rfl hr (fun _ => rfl) hx fun p hp => ?_
    refine ld1_of h6 4 rfl hp rfl ?_
    repeat (first | refine gd_tt ?_ | refine gd_ff ?_ | refine gd_tf ?_ | refine gd_ft ?_ | refine gd_u ?_ | refine pk_t ?_ | refine pk_f ?_ | refine iff_t ?_ | refine iff_f ?_ | refine not_t ?_ | refine not_f ?_ | refine beq_s ?_ | refine bne_s ?_ | refine ncP_p ?_ | refine nc_p ?_ | refine fld_at ?_ | refine xt_02 ?_ | refine xt_12 ?_ | refine xt_03 ?_ | refine xt_13 ?_ | refine xt_23 ?_ | refine eq_t (by omega) ?_ | refine eq_f (by omega) ?_ | refine ne_t (by omega) ?_ | refine ne_f (by omega) ?_ | refine lt_t (by omega) ?_ | refine lt_f (by omega) ?_ | refine gt_t (by omega) ?_ | refine gt_f (by omega) ?_ | refine ge_t (by omega) ?_ | refine ge_f (by omega) ?_ | refine le_t (by omega) ?_ | refine le_f (by omega) ?_)
    refine inc_s (by omega) ?_
    exact hg3 _ _ _ (by omega) ⟨j + 1, by omega, rfl, rfl, h6⟩
  refine lnS_rd h6 3 rfl (fun g hg => own_rd hg) ?_
  refine lnS_rd h6 4 rfl hr ?_
  refine sub_s (by omega) (by omega) ?_
  rw [List.length_map]
  repeat (first | refine gd_tt ?_ | refine gd_ff ?_ | refine gd_tf ?_ | refine gd_ft ?_ | refine gd_u ?_ | refine pk_t ?_ | refine pk_f ?_ | refine iff_t ?_ | refine iff_f ?_ | refine not_t ?_ | refine not_f ?_ | refine beq_s ?_ | refine bne_s ?_ | refine ncP_p ?_ | refine nc_p ?_ | refine fld_at ?_ | refine xt_02 ?_ | refine xt_12 ?_ | refine xt_03 ?_ | refine xt_13 ?_ | refine xt_23 ?_ | refine eq_t (by omega) ?_ | refine eq_f (by omega) ?_ | refine ne_t (by omega) ?_ | refine ne_f (by omega) ?_ | refine lt_t (by omega) ?_ | refine lt_f (by omega) ?_ | refine gt_t (by omega) ?_ | refine gt_f (by omega) ?_ | refine ge_t (by omega) ?_ | refine ge_f (by omega) ?_ | refine le_t (by omega) ?_ | refine le_f (by omega) ?_)
  refine lnS_rd h6 2 rfl (fun g hg => own_rd hg) ?_
  rw [List.map_nil, List.length_nil]
  repeat (first | refine gd_tt ?_ | refine gd_ff ?_ | refine gd_tf ?_ | refine gd_ft ?_ | refine gd_u ?_ | refine pk_t ?_ | refine pk_f ?_ | refine iff_t ?_ | refine iff_f ?_ | refine not_t ?_ | refine not_f ?_ | refine beq_s ?_ | refine bne_s ?_ | refine ncP_p ?_ | refine nc_p ?_ | refine fld_at ?_ | refine xt_02 ?_ | refine xt_12 ?_ | refine xt_03 ?_ | refine xt_13 ?_ | refine xt_23 ?_ | refine eq_t (by omega) ?_ | refine eq_f (by omega) ?_ | refine ne_t (by omega) ?_ | refine ne_f (by omega) ?_ | refine lt_t (by omega) ?_ | refine lt_f (by omega) ?_ | refine gt_t (by omega) ?_ | refine gt_f (by omega) ?_ | refine ge_t (by omega) ?_ | refine ge_f (by omega) ?_ | refine le_t (by omega) ?_ | refine le_f (by omega) ?_)
  refine lnS_rd h6 0 rfl (fun g hg => own_rd hg) ?_
  rw [List.length_map]
  repeat (first | refine gd_tt ?_ | refine gd_ff ?_ | refine gd_tf ?_ | refine gd_ft ?_ | refine gd_u ?_ | refine pk_t ?_ | refine pk_f ?_ | refine iff_t ?_ | refine iff_f ?_ | refine not_t ?_ | refine not_f ?_ | refine beq_s ?_ | refine bne_s ?_ | refine ncP_p ?_ | refine nc_p ?_ | refine fld_at ?_ | refine xt_02 ?_ | refine xt_12 ?_ | refine xt_03 ?_ | refine xt_13 ?_ | refine xt_23 ?_ | refine eq_t (by omega) ?_ | refine eq_f (by omega) ?_ | refine ne_t (by omega) ?_ | refine ne_f (by omega) ?_ | refine lt_t (by omega) ?_ | refine lt_f (by omega) ?_ | refine gt_t (by omega) ?_ | refine gt_f (by omega) ?_ | refine ge_t (by omega) ?_ | refine ge_f (by omega) ?_ | refine le_t (by omega) ?_ | refine le_f (by omega) ?_)
  refine bld_s (Key.cs ⟨-1, 0, 0⟩) (by kernel_rfl) ?_
  repeat (first | refine gd_tt ?_ | refine gd_ff ?_ | refine gd_tf ?_ | refine gd_ft ?_ | refine gd_u ?_ | refine pk_t ?_ | refine pk_f ?_ | refine iff_t ?_ | refine iff_f ?_ | refine not_t ?_ | refine not_f ?_ | refine beq_s ?_ | refine bne_s ?_ | refine ncP_p ?_ | refine nc_p ?_ | refine fld_at ?_ | refine xt_02 ?_ | refine xt_12 ?_ | refine xt_03 ?_ | refine xt_13 ?_ | refine xt_23 ?_ | refine eq_t (by omega) ?_ | refine eq_f (by omega) ?_ | refine ne_t (by omega) ?_ | refine ne_f (by omega) ?_ | refine lt_t (by omega) ?_ | refine lt_f (by omega) ?_ | refine gt_t (by omega) ?_ | refine gt_f (by omega) ?_ | refine ge_t (by omega) ?_ | refine ge_f (by omega) ?_ | refine le_t (by omega) ?_ | refine le_f (by omega) ?_)
  refine bld_s (Msg.cs ⟨⟨0, 0, 0⟩, 0, 0, 0⟩) (by kernel_rfl) ?_
  repeat (first | refine gd_tt ?_ | refine gd_ff ?_ | refine gd_tf ?_ | refine gd_ft ?_ | refine gd_u ?_ | refine pk_t ?_ | refine pk_f ?_ | refine iff_t ?_ | refine iff_f ?_ | refine not_t ?_ | refine not_f ?_ | refine beq_s ?_ | refine bne_s ?_ | refine ncP_p ?_ | refine nc_p ?_ | refine fld_at ?_ | refine xt_02 ?_ | refine xt_12 ?_ | refine xt_03 ?_ | refine xt_13 ?_ | refine xt_23 ?_ | refine eq_t (by omega) ?_ | refine eq_f (by omega) ?_ | refine ne_t (by omega) ?_ | refine ne_f (by omega) ?_ | refine lt_t (by omega) ?_ | refine lt_f (by omega) ?_ | refine gt_t (by omega) ?_ | refine gt_f (by omega) ?_ | refine ge_t (by omega) ?_ | refine ge_f (by omega) ?_ | refine le_t (by omega) ?_ | refine le_f (by omega) ?_)
  refine gate_Hold_s ⟨-1, 0, 0⟩ ⟨⟨0, 0, 0⟩, 0, 0, 0⟩ (h6.pick 1 rfl) (by rw [List.length_map]; omega) fun w7 h7 => ?_
  rw [show holdE 0 (H.map fun i : Nat => (⟨⟨l.getD i 0, 0, 0⟩, ⟨⟨0, 0, 0⟩, 0, 0, i⟩⟩ : Kept)) ⟨-1, 0, 0⟩ = 110 from if_pos (by decide)]
  repeat (first | refine gd_tt ?_ | refine gd_ff ?_ | refine gd_tf ?_ | refine gd_ft ?_ | refine gd_u ?_ | refine pk_t ?_ | refine pk_f ?_ | refine iff_t ?_ | refine iff_f ?_ | refine not_t ?_ | refine not_f ?_ | refine beq_s ?_ | refine bne_s ?_ | refine ncP_p ?_ | refine nc_p ?_ | refine fld_at ?_ | refine xt_02 ?_ | refine xt_12 ?_ | refine xt_03 ?_ | refine xt_13 ?_ | refine xt_23 ?_ | refine eq_t (by omega) ?_ | refine eq_f (by omega) ?_ | refine ne_t (by omega) ?_ | refine ne_f (by omega) ?_ | refine lt_t (by omega) ?_ | refine lt_f (by omega) ?_ | refine gt_t (by omega) ?_ | refine gt_f (by omega) ?_ | refine ge_t (by omega) ?_ | refine ge_f (by omega) ?_ | refine le_t (by omega) ?_ | refine le_f (by omega) ?_)
  exact hk _ h7.drop.drop.drop.drop
end Go.Proofs.Ytiiekfcfledkhaa
