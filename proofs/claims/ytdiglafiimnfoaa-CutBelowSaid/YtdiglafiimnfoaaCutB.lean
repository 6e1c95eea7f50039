/- Cuts: what Sent and Got do. Conditions: at most a million things are on their way. -/
import Derived.Test.YtdiglafiimnfoaaCutA
import Derived.Test.YtdiglafiimnfoaaEngP
namespace Go.Proofs.Ytdiglafiimnfoaa
open Go Go.E
set_option maxRecDepth 100000
variable {e w : World} {R : List HP} {K : KV}

theorem wf8c {n : Int} (h : (Lit.int .u8 n).wf = true) : 0 ≤ n ∧ n ≤ 255 := by
  simp only [Lit.wf, IntKind.min, IntKind.max, IntKind.signed, IntKind.bits] at h
  simp at h
  omega
theorem wf16c {n : Int} (h : (Lit.int .u16 n).wf = true) : 0 ≤ n ∧ n ≤ 65535 := by
  simp only [Lit.wf, IntKind.min, IntKind.max, IntKind.signed, IntKind.bits] at h
  simp at h
  omega
theorem CutS.turn_ok {c : CutS} {i : Nat} (hu : c.over < c.begun) (ht : c.T i ≠ c.begun) : c.turnE i = 0 ∧ c.turn i = { c with T := updF c.T i c.begun } := by
  have hn : ¬ (¬ c.over < c.begun ∨ c.T i = c.begun) := by simp [hu, ht]
  exact ⟨if_neg hn, if_neg hn⟩
theorem CutS.turn_no {c : CutS} {i : Nat} (ht : c.T i = c.begun) : c.turnE i = 130 ∧ c.turn i = c := ⟨if_pos (.inr ht), if_pos (.inr ht)⟩
theorem CutS.all_iff {c : CutS} {n : Nat} (hn : c.n = n) (p : Int → Int → Bool) : c.all p = true ↔ ∀ j, j < n → p (c.T j) (c.Rp j) = true := by
  unfold CutS.all
  rw [List.all_eq_true, hn]
  simp
theorem updF_eq (f : Nat → Int) (i : Nat) (x : Int) : updF f i x i = x := if_pos rfl
theorem updF_ne (f : Nat → Int) {i k : Nat} (x : Int) (h : k ≠ i) : updF f i x k = f k := if_neg h

def bl (b : Bool) : List Value := [.bool b]
theorem bl_flat (b : Bool) : ∀ v ∈ bl b, flat v = true := by
  intro v hv
  simp [bl] at hv
  subst hv
  rfl
theorem getD_set {l : List Bool} {i k : Nat} (hi : i < l.length) (b : Bool) : (l.set i b).getD k false = if k = i then b else l.getD k false := by
  rw [List.getD_eq_getElem?_getD, List.getD_eq_getElem?_getD, List.getElem?_set]
  by_cases h : i = k
  · subst h; simp [hi]
  · have : ¬ k = i := fun e => h e.symm
    simp [h, this]
def CutS.setOn (c : CutS) (k x : Int) : CutS := if k = 0 then { c with on0 := x } else { c with on1 := x }
theorem cut_setOn (c : CutS) (a x : Int) : ∃ j : Nat, j < 2 ∧ a % 2 = (j : Int) ∧ (ints c.ns)[19 + j * 1]? = some (.int .i64 (c.on (a % 2))) ∧ wrL (ints c.ns) (19 + j * 1) [.int .i64 x] = ints (c.setOn (a % 2) x).ns := by
  rcases Int.emod_two_eq a with h | h
  · exact ⟨0, by omega, h, by rw [h]; rfl, by rw [h]; rfl⟩
  · exact ⟨1, by omega, h, by rw [h]; rfl, by rw [h]; rfl⟩
def CutS.sent (c : CutS) (i : Nat) (t : Int) : CutS :=
  if c.over < c.begun ∧ c.T i = c.begun then { c.setOn (c.T i % 2) (c.on (c.T i % 2) + 1) with least := min c.least t } else c.setOn (c.T i % 2) (c.on (c.T i % 2) + 1)
theorem CutS.setOn_n (c : CutS) (k x : Int) : (c.setOn k x).n = c.n := by unfold CutS.setOn; split <;> rfl
theorem CutS.setOn_begun (c : CutS) (k x : Int) : (c.setOn k x).begun = c.begun := by unfold CutS.setOn; split <;> rfl
theorem CutS.setOn_over (c : CutS) (k x : Int) : (c.setOn k x).over = c.over := by unfold CutS.setOn; split <;> rfl
theorem CutS.setOn_T (c : CutS) (k x : Int) : (c.setOn k x).T = c.T := by unfold CutS.setOn; split <;> rfl
theorem CutS.setOn_Rp (c : CutS) (k x : Int) : (c.setOn k x).Rp = c.Rp := by unfold CutS.setOn; split <;> rfl
theorem CutS.setOn_least (c : CutS) (k x : Int) : (c.setOn k x).least = c.least := by unfold CutS.setOn; split <;> rfl
theorem CutS.setOn_value (c : CutS) (k x : Int) : (c.setOn k x).value = c.value := by unfold CutS.setOn; split <;> rfl
theorem cut_get (c : CutS) : (ints c.ns)[1]? = some (.int .i64 c.begun) ∧ (ints c.ns)[21]? = some (.int .i64 c.least) := ⟨rfl, rfl⟩
theorem cut_setLeast (c : CutS) (x : Int) : wrL (ints c.ns) 21 [.int .i64 x] = ints (CutS.ns { c with least := x }) := rfl

theorem cut_Sent_bad {g : Nat} {c : CutS} {i t : Int} (hx : In64 t) (hi : ¬ (0 ≤ i ∧ i < c.n) ∨ validT t = false) (hS : Sat e w (IsCut g c :: R)) (hk : K (.tuple #[.int .i64 0, .int .i64 1]) w) : Cl prog 19 #[.pointer (some ⟨g, 0, none⟩), .int .i64 i, .int .i64 t] w K := by
  refine cut_Cut_Sent_calls ?_
  unfold cut_Cut_Sent
  refine cut_is_s hS ?_
  by_cases hin : 0 ≤ i ∧ i < c.n
  · rw [decide_eq_true hin]
    repeat (first | refine gd_tt ?_ | refine gd_ff ?_ | refine gd_tf ?_ | refine gd_ft ?_ | refine gd_u ?_ | refine pk_t ?_ | refine pk_f ?_ | refine iff_t ?_ | refine iff_f ?_ | refine not_t ?_ | refine not_f ?_ | refine beq_s ?_ | refine bne_s ?_ | refine ncP_p ?_ | refine nc_p ?_ | refine fld_at ?_ | refine xt_02 ?_ | refine xt_12 ?_ | refine xt_03 ?_ | refine xt_13 ?_ | refine xt_23 ?_ | refine eq_t (by omega) ?_ | refine eq_f (by omega) ?_ | refine ne_t (by omega) ?_ | refine ne_f (by omega) ?_ | refine lt_t (by omega) ?_ | refine lt_f (by omega) ?_ | refine gt_t (by omega) ?_ | refine gt_f (by omega) ?_ | refine ge_t (by omega) ?_ | refine ge_f (by omega) ?_ | refine le_t (by omega) ?_ | refine le_f (by omega) ?_)
    refine vtime_Valid_s hx ?_
    rw [show validT t = false from hi.resolve_left (fun h => h hin)]
    repeat (first | refine gd_tt ?_ | refine gd_ff ?_ | refine gd_tf ?_ | refine gd_ft ?_ | refine gd_u ?_ | refine pk_t ?_ | refine pk_f ?_ | refine iff_t ?_ | refine iff_f ?_ | refine not_t ?_ | refine not_f ?_ | refine beq_s ?_ | refine bne_s ?_ | refine ncP_p ?_ | refine nc_p ?_ | refine fld_at ?_ | refine xt_02 ?_ | refine xt_12 ?_ | refine xt_03 ?_ | refine xt_13 ?_ | refine xt_23 ?_ | refine eq_t (by omega) ?_ | refine eq_f (by omega) ?_ | refine ne_t (by omega) ?_ | refine ne_f (by omega) ?_ | refine lt_t (by omega) ?_ | refine lt_f (by omega) ?_ | refine gt_t (by omega) ?_ | refine gt_f (by omega) ?_ | refine ge_t (by omega) ?_ | refine ge_f (by omega) ?_ | refine le_t (by omega) ?_ | refine le_f (by omega) ?_)
    exact hk
  · rw [decide_eq_false hin]
    repeat (first | refine gd_tt ?_ | refine gd_ff ?_ | refine gd_tf ?_ | refine gd_ft ?_ | refine gd_u ?_ | refine pk_t ?_ | refine pk_f ?_ | refine iff_t ?_ | refine iff_f ?_ | refine not_t ?_ | refine not_f ?_ | refine beq_s ?_ | refine bne_s ?_ | refine ncP_p ?_ | refine nc_p ?_ | refine fld_at ?_ | refine xt_02 ?_ | refine xt_12 ?_ | refine xt_03 ?_ | refine xt_13 ?_ | refine xt_23 ?_ | refine eq_t (by omega) ?_ | refine eq_f (by omega) ?_ | refine ne_t (by omega) ?_ | refine ne_f (by omega) ?_ | refine lt_t (by omega) ?_ | refine lt_f (by omega) ?_ | refine gt_t (by omega) ?_ | refine gt_f (by omega) ?_ | refine ge_t (by omega) ?_ | refine ge_f (by omega) ?_ | refine le_t (by omega) ?_ | refine le_f (by omega) ?_)
    exact hk
theorem cut_Sent_s {g : Nat} {c : CutS} {i : Nat} {t : Int} (hi : i < 8) (hin : (i : Int) < c.n) (hx : In64 t) (hv : validT t = true) (hb : ∀ k, -1000000 ≤ c.on k ∧ c.on k ≤ 1000000) (hS : Sat e w (IsCut g c :: R))
    (hk : ∀ w', Sat e w' (IsCut g (c.sent i t) :: R) → K (.tuple #[.int .i64 (c.T i % 2), .int .i64 0]) w') : Cl prog 19 #[.pointer (some ⟨g, 0, none⟩), .int .i64 i, .int .i64 t] w K := by
  refine cut_Cut_Sent_calls ?_
  unfold cut_Cut_Sent
  refine cut_is_s hS ?_
  rw [decide_eq_true (show 0 ≤ (i : Int) ∧ (i : Int) < c.n from ⟨by omega, hin⟩)]
  repeat (first | refine gd_tt ?_ | refine gd_ff ?_ | refine gd_tf ?_ | refine gd_ft ?_ | refine gd_u ?_ | refine pk_t ?_ | refine pk_f ?_ | refine iff_t ?_ | refine iff_f ?_ | refine not_t ?_ | refine not_f ?_ | refine beq_s ?_ | refine bne_s ?_ | refine ncP_p ?_ | refine nc_p ?_ | refine fld_at ?_ | refine xt_02 ?_ | refine xt_12 ?_ | refine xt_03 ?_ | refine xt_13 ?_ | refine xt_23 ?_ | refine eq_t (by omega) ?_ | refine eq_f (by omega) ?_ | refine ne_t (by omega) ?_ | refine ne_f (by omega) ?_ | refine lt_t (by omega) ?_ | refine lt_f (by omega) ?_ | refine gt_t (by omega) ?_ | refine gt_f (by omega) ?_ | refine ge_t (by omega) ?_ | refine ge_f (by omega) ?_ | refine le_t (by omega) ?_ | refine le_f (by omega) ?_)
  refine vtime_Valid_s hx ?_
  rw [hv]
  repeat (first | refine gd_tt ?_ | refine gd_ff ?_ | refine gd_tf ?_ | refine gd_ft ?_ | refine gd_u ?_ | refine pk_t ?_ | refine pk_f ?_ | refine iff_t ?_ | refine iff_f ?_ | refine not_t ?_ | refine not_f ?_ | refine beq_s ?_ | refine bne_s ?_ | refine ncP_p ?_ | refine nc_p ?_ | refine fld_at ?_ | refine xt_02 ?_ | refine xt_12 ?_ | refine xt_03 ?_ | refine xt_13 ?_ | refine xt_23 ?_ | refine eq_t (by omega) ?_ | refine eq_f (by omega) ?_ | refine ne_t (by omega) ?_ | refine ne_f (by omega) ?_ | refine lt_t (by omega) ?_ | refine lt_f (by omega) ?_ | refine gt_t (by omega) ?_ | refine gt_f (by omega) ?_ | refine ge_t (by omega) ?_ | refine ge_f (by omega) ?_ | refine le_t (by omega) ?_ | refine le_f (by omega) ?_)
  refine cut_Colour_s hi hin hS ?_
  refine dr_s hS fun w1 h1 => ?_
  obtain ⟨j, hj, hj2, hj3, hj4⟩ := cut_setOn c (c.T i) (c.on (c.T i % 2) + 1)
  have hbk := hb (c.T i % 2)
  refine ncP_p (fld_at ?_)
  rw [hj2]
  refine ixA_at hj (ld1_at h1 0 rfl hj3 ?_)
  rw [hj2] at hbk ⊢
  refine add_s (by omega) (by omega) ?_
  refine ncP_p (fld_at (ixA_at hj ?_))
  rw [hj2] at hj4
  refine stN_at h1 0 rfl (vs := [.int .i64 (c.on j + 1)]) rfl rfl (by rw [cut_len]; omega) (by simp [flat]) (cs' := ints (c.setOn j (c.on j + 1)).ns) hj4 fun w2 h2 => ?_
  refine dr_s h2 fun w3 h3 => ?_
  refine cut_Under_s (c := c.setOn j (c.on j + 1)) h3 fun w4 h4 => ?_
  rw [CutS.setOn_begun, CutS.setOn_over]
  by_cases hu : c.over < c.begun
  · rw [decide_eq_true hu]
    repeat (first | refine gd_tt ?_ | refine gd_ff ?_ | refine gd_tf ?_ | refine gd_ft ?_ | refine gd_u ?_ | refine pk_t ?_ | refine pk_f ?_ | refine iff_t ?_ | refine iff_f ?_ | refine not_t ?_ | refine not_f ?_ | refine beq_s ?_ | refine bne_s ?_ | refine ncP_p ?_ | refine nc_p ?_ | refine fld_at ?_ | refine xt_02 ?_ | refine xt_12 ?_ | refine xt_03 ?_ | refine xt_13 ?_ | refine xt_23 ?_ | refine eq_t (by omega) ?_ | refine eq_f (by omega) ?_ | refine ne_t (by omega) ?_ | refine ne_f (by omega) ?_ | refine lt_t (by omega) ?_ | refine lt_f (by omega) ?_ | refine gt_t (by omega) ?_ | refine gt_f (by omega) ?_ | refine ge_t (by omega) ?_ | refine ge_f (by omega) ?_ | refine le_t (by omega) ?_ | refine le_f (by omega) ?_)
    refine ixA_at hi ?_
    refine gd_tt (ldN_at h4 0 rfl (cut_pair _ i hi) rfl ?_)
    repeat (first | refine gd_tt ?_ | refine gd_ff ?_ | refine gd_tf ?_ | refine gd_ft ?_ | refine gd_u ?_ | refine pk_t ?_ | refine pk_f ?_ | refine iff_t ?_ | refine iff_f ?_ | refine not_t ?_ | refine not_f ?_ | refine beq_s ?_ | refine bne_s ?_ | refine ncP_p ?_ | refine nc_p ?_ | refine fld_at ?_ | refine xt_02 ?_ | refine xt_12 ?_ | refine xt_03 ?_ | refine xt_13 ?_ | refine xt_23 ?_ | refine eq_t (by omega) ?_ | refine eq_f (by omega) ?_ | refine ne_t (by omega) ?_ | refine ne_f (by omega) ?_ | refine lt_t (by omega) ?_ | refine lt_f (by omega) ?_ | refine gt_t (by omega) ?_ | refine gt_f (by omega) ?_ | refine ge_t (by omega) ?_ | refine ge_f (by omega) ?_ | refine le_t (by omega) ?_ | refine le_f (by omega) ?_)
    refine ld1_at h4 0 rfl (cut_get _).1 ?_
    refine gd_tt (turned_s h4 fun w5 h5 => ?_)
    rw [CutS.setOn_T, CutS.setOn_begun]
    by_cases ht : c.T i = c.begun
    · rw [decide_eq_true ht]
      repeat (first | refine gd_tt ?_ | refine gd_ff ?_ | refine gd_tf ?_ | refine gd_ft ?_ | refine gd_u ?_ | refine pk_t ?_ | refine pk_f ?_ | refine iff_t ?_ | refine iff_f ?_ | refine not_t ?_ | refine not_f ?_ | refine beq_s ?_ | refine bne_s ?_ | refine ncP_p ?_ | refine nc_p ?_ | refine fld_at ?_ | refine xt_02 ?_ | refine xt_12 ?_ | refine xt_03 ?_ | refine xt_13 ?_ | refine xt_23 ?_ | refine eq_t (by omega) ?_ | refine eq_f (by omega) ?_ | refine ne_t (by omega) ?_ | refine ne_f (by omega) ?_ | refine lt_t (by omega) ?_ | refine lt_f (by omega) ?_ | refine gt_t (by omega) ?_ | refine gt_f (by omega) ?_ | refine ge_t (by omega) ?_ | refine ge_f (by omega) ?_ | refine le_t (by omega) ?_ | refine le_f (by omega) ?_)
      refine ld1_at h5 0 rfl (cut_get _).2 ?_
      refine min_s ?_
      refine ncP_p (fld_at ?_)
      refine stN_at h5 0 rfl (vs := [.int .i64 (min (c.setOn j (c.on j + 1)).least t)]) rfl rfl (by rw [cut_len]; decide) (by simp [flat]) (cut_setLeast _ _) fun w6 h6 => ?_
      have e1 : c.sent i t = { c.setOn j (c.on j + 1) with least := min c.least t } := by
        unfold CutS.sent
        rw [if_pos ⟨hu, ht⟩, hj2]
      rw [CutS.setOn_least] at h6
      rw [e1, hj2] at hk
      exact hk _ h6
    · rw [decide_eq_false ht]
      repeat (first | refine gd_tt ?_ | refine gd_ff ?_ | refine gd_tf ?_ | refine gd_ft ?_ | refine gd_u ?_ | refine pk_t ?_ | refine pk_f ?_ | refine iff_t ?_ | refine iff_f ?_ | refine not_t ?_ | refine not_f ?_ | refine beq_s ?_ | refine bne_s ?_ | refine ncP_p ?_ | refine nc_p ?_ | refine fld_at ?_ | refine xt_02 ?_ | refine xt_12 ?_ | refine xt_03 ?_ | refine xt_13 ?_ | refine xt_23 ?_ | refine eq_t (by omega) ?_ | refine eq_f (by omega) ?_ | refine ne_t (by omega) ?_ | refine ne_f (by omega) ?_ | refine lt_t (by omega) ?_ | refine lt_f (by omega) ?_ | refine gt_t (by omega) ?_ | refine gt_f (by omega) ?_ | refine ge_t (by omega) ?_ | refine ge_f (by omega) ?_ | refine le_t (by omega) ?_ | refine le_f (by omega) ?_)
      have e1 : c.sent i t = c.setOn j (c.on j + 1) := by
        unfold CutS.sent
        rw [if_neg (fun h => ht h.2), hj2]
      rw [e1, hj2] at hk
      exact hk _ h5
  · rw [decide_eq_false hu]
    repeat (first | refine gd_tt ?_ | refine gd_ff ?_ | refine gd_tf ?_ | refine gd_ft ?_ | refine gd_u ?_ | refine pk_t ?_ | refine pk_f ?_ | refine iff_t ?_ | refine iff_f ?_ | refine not_t ?_ | refine not_f ?_ | refine beq_s ?_ | refine bne_s ?_ | refine ncP_p ?_ | refine nc_p ?_ | refine fld_at ?_ | refine xt_02 ?_ | refine xt_12 ?_ | refine xt_03 ?_ | refine xt_13 ?_ | refine xt_23 ?_ | refine eq_t (by omega) ?_ | refine eq_f (by omega) ?_ | refine ne_t (by omega) ?_ | refine ne_f (by omega) ?_ | refine lt_t (by omega) ?_ | refine lt_f (by omega) ?_ | refine gt_t (by omega) ?_ | refine gt_f (by omega) ?_ | refine ge_t (by omega) ?_ | refine ge_f (by omega) ?_ | refine le_t (by omega) ?_ | refine le_f (by omega) ?_)
    have e1 : c.sent i t = c.setOn j (c.on j + 1) := by
      unfold CutS.sent
      rw [if_neg (fun h => hu h.1), hj2]
    rw [e1, hj2] at hk
    exact hk _ h4

def CutS.gotE (c : CutS) (k : Int) : Int := if ¬ (0 ≤ k ∧ k ≤ 1) ∨ c.on k = 0 then 1 else 0
def CutS.got (c : CutS) (k : Int) : CutS := if ¬ (0 ≤ k ∧ k ≤ 1) ∨ c.on k = 0 then c else c.setOn k (c.on k - 1)
theorem cut_Got_bad {g : Nat} {c : CutS} {i k : Int} (hi : ¬ (0 ≤ i ∧ i < c.n)) (hS : Sat e w (IsCut g c :: R)) (hk : K (.int .i64 1) w) : Cl prog 21 #[.pointer (some ⟨g, 0, none⟩), .int .i64 i, .int .i64 k] w K := by
  refine cut_Cut_Got_calls ?_
  unfold cut_Cut_Got
  refine cut_is_s hS ?_
  rw [decide_eq_false hi]
  repeat (first | refine gd_tt ?_ | refine gd_ff ?_ | refine gd_tf ?_ | refine gd_ft ?_ | refine gd_u ?_ | refine pk_t ?_ | refine pk_f ?_ | refine iff_t ?_ | refine iff_f ?_ | refine not_t ?_ | refine not_f ?_ | refine beq_s ?_ | refine bne_s ?_ | refine ncP_p ?_ | refine nc_p ?_ | refine fld_at ?_ | refine xt_02 ?_ | refine xt_12 ?_ | refine xt_03 ?_ | refine xt_13 ?_ | refine xt_23 ?_ | refine eq_t (by omega) ?_ | refine eq_f (by omega) ?_ | refine ne_t (by omega) ?_ | refine ne_f (by omega) ?_ | refine lt_t (by omega) ?_ | refine lt_f (by omega) ?_ | refine gt_t (by omega) ?_ | refine gt_f (by omega) ?_ | refine ge_t (by omega) ?_ | refine ge_f (by omega) ?_ | refine le_t (by omega) ?_ | refine le_f (by omega) ?_)
  exact hk
theorem cut_Got_s {g : Nat} {c : CutS} {i : Nat} {k : Int} (hin : (i : Int) < c.n) (hb : ∀ k, -1000000 ≤ c.on k ∧ c.on k ≤ 1000000) (hS : Sat e w (IsCut g c :: R))
    (hk : ∀ w', Sat e w' (IsCut g (c.got k) :: R) → K (.int .i64 (c.gotE k)) w') : Cl prog 21 #[.pointer (some ⟨g, 0, none⟩), .int .i64 i, .int .i64 k] w K := by
  refine cut_Cut_Got_calls ?_
  unfold cut_Cut_Got
  refine cut_is_s hS ?_
  rw [decide_eq_true (show 0 ≤ (i : Int) ∧ (i : Int) < c.n from ⟨by omega, hin⟩)]
  refine not_t (gd_ff (gd_ff (shr1_s ?_)))
  by_cases hk1 : 0 ≤ k ∧ k ≤ 1
  · refine gd_ff (ne_f (by omega) ?_)
    obtain ⟨j, hj, hj2, hj3, hj4⟩ := cut_setOn c k (c.on (k % 2) - 1)
    have hkm : k % 2 = k := by omega
    rw [hkm] at hj2 hj3 hj4
    have hbk := hb k
    repeat (first | refine gd_tt ?_ | refine gd_ff ?_ | refine gd_tf ?_ | refine gd_ft ?_ | refine gd_u ?_ | refine pk_t ?_ | refine pk_f ?_ | refine iff_t ?_ | refine iff_f ?_ | refine not_t ?_ | refine not_f ?_ | refine beq_s ?_ | refine bne_s ?_ | refine ncP_p ?_ | refine nc_p ?_ | refine fld_at ?_ | refine xt_02 ?_ | refine xt_12 ?_ | refine xt_03 ?_ | refine xt_13 ?_ | refine xt_23 ?_ | refine eq_t (by omega) ?_ | refine eq_f (by omega) ?_ | refine ne_t (by omega) ?_ | refine ne_f (by omega) ?_ | refine lt_t (by omega) ?_ | refine lt_f (by omega) ?_ | refine gt_t (by omega) ?_ | refine gt_f (by omega) ?_ | refine ge_t (by omega) ?_ | refine ge_f (by omega) ?_ | refine le_t (by omega) ?_ | refine le_f (by omega) ?_)
    rw [hj2] at hj3 hj4 hbk ⊢
    refine ixA_at hj (gd_ff (ld1_at hS 0 rfl hj3 ?_))
    by_cases h0 : c.on k = 0
    · rw [hj2] at h0
      repeat (first | refine gd_tt ?_ | refine gd_ff ?_ | refine gd_tf ?_ | refine gd_ft ?_ | refine gd_u ?_ | refine pk_t ?_ | refine pk_f ?_ | refine iff_t ?_ | refine iff_f ?_ | refine not_t ?_ | refine not_f ?_ | refine beq_s ?_ | refine bne_s ?_ | refine ncP_p ?_ | refine nc_p ?_ | refine fld_at ?_ | refine xt_02 ?_ | refine xt_12 ?_ | refine xt_03 ?_ | refine xt_13 ?_ | refine xt_23 ?_ | refine eq_t (by omega) ?_ | refine eq_f (by omega) ?_ | refine ne_t (by omega) ?_ | refine ne_f (by omega) ?_ | refine lt_t (by omega) ?_ | refine lt_f (by omega) ?_ | refine gt_t (by omega) ?_ | refine gt_f (by omega) ?_ | refine ge_t (by omega) ?_ | refine ge_f (by omega) ?_ | refine le_t (by omega) ?_ | refine le_f (by omega) ?_)
      have e1 : c.gotE k = 1 := if_pos (.inr (by rw [hj2]; exact h0))
      have e2 : c.got k = c := if_pos (.inr (by rw [hj2]; exact h0))
      rw [e1, e2] at hk
      exact hk _ hS
    · have hn : ¬ (¬ (0 ≤ k ∧ k ≤ 1) ∨ c.on k = 0) := fun h => h.elim (fun h => h hk1) h0
      have e1 : c.gotE k = 0 := if_neg hn
      have e2 : c.got k = c.setOn k (c.on k - 1) := if_neg hn
      rw [e1, e2, hj2] at hk
      rw [hj2] at h0
      repeat (first | refine gd_tt ?_ | refine gd_ff ?_ | refine gd_tf ?_ | refine gd_ft ?_ | refine gd_u ?_ | refine pk_t ?_ | refine pk_f ?_ | refine iff_t ?_ | refine iff_f ?_ | refine not_t ?_ | refine not_f ?_ | refine beq_s ?_ | refine bne_s ?_ | refine ncP_p ?_ | refine nc_p ?_ | refine fld_at ?_ | refine xt_02 ?_ | refine xt_12 ?_ | refine xt_03 ?_ | refine xt_13 ?_ | refine xt_23 ?_ | refine eq_t (by omega) ?_ | refine eq_f (by omega) ?_ | refine ne_t (by omega) ?_ | refine ne_f (by omega) ?_ | refine lt_t (by omega) ?_ | refine lt_f (by omega) ?_ | refine gt_t (by omega) ?_ | refine gt_f (by omega) ?_ | refine ge_t (by omega) ?_ | refine ge_f (by omega) ?_ | refine le_t (by omega) ?_ | refine le_f (by omega) ?_)
      have h1 := hS.drew
      refine ixA_at hj (ld1_at h1 0 rfl hj3 ?_)
      refine sub_s (by omega) (by omega) ?_
      refine ncP_p (fld_at (ixA_at hj ?_))
      refine stN_at h1 0 rfl (vs := [.int .i64 (c.on j - 1)]) rfl rfl (by rw [cut_len]; omega) (by simp [flat]) hj4 fun w2 h2 => ?_
      exact hk _ h2
  · refine gd_ff (ne_t (by omega) ?_)
    repeat (first | refine gd_tt ?_ | refine gd_ff ?_ | refine gd_tf ?_ | refine gd_ft ?_ | refine gd_u ?_ | refine pk_t ?_ | refine pk_f ?_ | refine iff_t ?_ | refine iff_f ?_ | refine not_t ?_ | refine not_f ?_ | refine beq_s ?_ | refine bne_s ?_ | refine ncP_p ?_ | refine nc_p ?_ | refine fld_at ?_ | refine xt_02 ?_ | refine xt_12 ?_ | refine xt_03 ?_ | refine xt_13 ?_ | refine xt_23 ?_ | refine eq_t (by omega) ?_ | refine eq_f (by omega) ?_ | refine ne_t (by omega) ?_ | refine ne_f (by omega) ?_ | refine lt_t (by omega) ?_ | refine lt_f (by omega) ?_ | refine gt_t (by omega) ?_ | refine gt_f (by omega) ?_ | refine ge_t (by omega) ?_ | refine ge_f (by omega) ?_ | refine le_t (by omega) ?_ | refine le_f (by omega) ?_)
    have e1 : c.gotE k = 1 := if_pos (.inl hk1)
    have e2 : c.got k = c := if_pos (.inl hk1)
    rw [e1, e2] at hk
    exact hk _ hS
end Go.Proofs.Ytdiglafiimnfoaa
