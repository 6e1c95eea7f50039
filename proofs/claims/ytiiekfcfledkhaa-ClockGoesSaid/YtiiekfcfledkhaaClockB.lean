/- The laws of the clocks: ClockAlone, ClockLeast, ClockRises. Conditions: none. -/
import Derived.Test.YtiiekfcfledkhaaClockA
namespace Go.Proofs.Ytiiekfcfledkhaa
open Go Go.E
set_option maxRecDepth 100000
variable {e w : World} {R : List HP} {K : KV}

theorem wf_u8 {n : Int} (h : (Lit.int .u8 n).wf = true) : 0 ≤ n ∧ n ≤ 255 := by
  simp only [Lit.wf, IntKind.min, IntKind.max, IntKind.signed, IntKind.bits] at h
  simp at h
  omega
theorem wf_u16 {n : Int} (h : (Lit.int .u16 n).wf = true) : 0 ≤ n ∧ n ≤ 65535 := by
  simp only [Lit.wf, IntKind.min, IntKind.max, IntKind.signed, IntKind.bits] at h
  simp at h
  omega
theorem clampT_id {t : Int} (h0 : 0 ≤ t) (h1 : t ≤ MaxT) : clampT t = t := by unfold clampT; rw [if_neg (by omega), if_neg (by omega)]

structure CStep where
  (Kind A B : Int)
  deriving DecidableEq
def CStep.ns (s : CStep) : List Int := [s.Kind, s.A, s.B]
abbrev CStep.cs (s : CStep) : List Value := ints s.ns
def CStep.of (l : List Int) : CStep := ⟨l.getD 0 0, l.getD 1 0, l.getD 2 0⟩
theorem CStep.of_ns {l : List Int} (h : l.length = 3) : (CStep.of l).ns = l := by
  match l, h with
  | [_, _, _], _ => rfl
theorem CStep.of_cs {l : List Int} (h : l.length = 3) : (CStep.of l).cs = ints l := congrArg ints (CStep.of_ns h)

theorem alone_tell (told f k : Int) (hf : 0 ≤ f ∧ f ≤ 65535) (hk : 0 ≤ k ∧ k ≤ 255) : Clk.tellT ⟨[0], 0, told⟩ f k = f + k := by
  have hb : Clk.bound ⟨[0], 0, told⟩ = Inf := by simp [Clk.bound, List.range_succ]
  unfold Clk.tellT
  rw [hb]
  unfold addT leastT clampT Inf MaxT
  simp only [List.foldl_cons, List.foldl_nil]
  omega

theorem clockAlone_s {v : Value} {l : List Int} {S : HP} (hS : Sat e w (S :: R)) (hr : ∀ g, S g → rdS 1 (intsK .u16) v l g) (hw : ∀ m ∈ l, (Lit.int .u16 m).wf = true) {look : Int} (hl : (Lit.int .u8 look).wf = true)
    (hk : ∀ w', Sat e w' (S :: R) → K (.bool true) w') : Cl prog 8 #[v, .int .u8 look] w K := by
  have hlk := wf_u8 hl
  refine pacelinelaw11_ClockAlone_calls ?_
  unfold pacelinelaw11_ClockAlone
  refine lnS_rd hS 0 rfl hr ?_
  refine gt_c (fun c1 => iff_t (hk _ hS)) (fun c1 => iff_f ?_)
  refine clock_New_s (n := 1) (self := 0) (by omega) (by omega) (by omega) (by omega) hS fun g w1 h1 => ?_
  repeat (first | refine gd_tt ?_ | refine gd_ff ?_ | refine gd_tf ?_ | refine gd_ft ?_ | refine gd_u ?_ | refine pk_t ?_ | refine pk_f ?_ | refine iff_t ?_ | refine iff_f ?_ | refine not_t ?_ | refine not_f ?_ | refine beq_s ?_ | refine bne_s ?_ | refine ncP_p ?_ | refine fld_at ?_ | refine xt_02 ?_ | refine xt_12 ?_ | refine xt_03 ?_ | refine xt_13 ?_ | refine xt_23 ?_ | refine eq_t (by omega) ?_ | refine eq_f (by omega) ?_ | refine ne_t (by omega) ?_ | refine ne_f (by omega) ?_ | refine lt_t (by omega) ?_ | refine lt_f (by omega) ?_ | refine gt_t (by omega) ?_ | refine gt_f (by omega) ?_ | refine ge_t (by omega) ?_ | refine ge_f (by omega) ?_ | refine le_t (by omega) ?_ | refine le_f (by omega) ?_)
  refine bnp_s _ ?_
  repeat (first | refine gd_tt ?_ | refine gd_ff ?_ | refine gd_tf ?_ | refine gd_ft ?_ | refine gd_u ?_ | refine pk_t ?_ | refine pk_f ?_ | refine iff_t ?_ | refine iff_f ?_ | refine not_t ?_ | refine not_f ?_ | refine beq_s ?_ | refine bne_s ?_ | refine ncP_p ?_ | refine fld_at ?_ | refine xt_02 ?_ | refine xt_12 ?_ | refine xt_03 ?_ | refine xt_13 ?_ | refine xt_23 ?_ | refine eq_t (by omega) ?_ | refine eq_f (by omega) ?_ | refine ne_t (by omega) ?_ | refine ne_f (by omega) ?_ | refine lt_t (by omega) ?_ | refine lt_f (by omega) ?_ | refine gt_t (by omega) ?_ | refine gt_f (by omega) ?_ | refine ge_t (by omega) ?_ | refine ge_f (by omega) ?_ | refine le_t (by omega) ?_ | refine le_f (by omega) ?_)
  refine clock_Bound_s h1 fun w2 h2 => ?_
  repeat (first | refine gd_tt ?_ | refine gd_ff ?_ | refine gd_tf ?_ | refine gd_ft ?_ | refine gd_u ?_ | refine pk_t ?_ | refine pk_f ?_ | refine iff_t ?_ | refine iff_f ?_ | refine not_t ?_ | refine not_f ?_ | refine beq_s ?_ | refine bne_s ?_ | refine ncP_p ?_ | refine fld_at ?_ | refine xt_02 ?_ | refine xt_12 ?_ | refine xt_03 ?_ | refine xt_13 ?_ | refine xt_23 ?_ | refine eq_t (by omega) ?_ | refine eq_f (by omega) ?_ | refine ne_t (by omega) ?_ | refine ne_f (by omega) ?_ | refine lt_t (by omega) ?_ | refine lt_f (by omega) ?_ | refine gt_t (by omega) ?_ | refine gt_f (by omega) ?_ | refine ge_t (by omega) ?_ | refine ge_f (by omega) ?_ | refine le_t (by omega) ?_ | refine le_f (by omega) ?_)
  refine ne_f (by simp [Clk.bound, List.range_succ, Inf]) ?_
  repeat (first | refine gd_tt ?_ | refine gd_ff ?_ | refine gd_tf ?_ | refine gd_ft ?_ | refine gd_u ?_ | refine pk_t ?_ | refine pk_f ?_ | refine iff_t ?_ | refine iff_f ?_ | refine not_t ?_ | refine not_f ?_ | refine beq_s ?_ | refine bne_s ?_ | refine ncP_p ?_ | refine fld_at ?_ | refine xt_02 ?_ | refine xt_12 ?_ | refine xt_03 ?_ | refine xt_13 ?_ | refine xt_23 ?_ | refine eq_t (by omega) ?_ | refine eq_f (by omega) ?_ | refine ne_t (by omega) ?_ | refine ne_f (by omega) ?_ | refine lt_t (by omega) ?_ | refine lt_f (by omega) ?_ | refine gt_t (by omega) ?_ | refine gt_f (by omega) ?_ | refine ge_t (by omega) ?_ | refine ge_f (by omega) ?_ | refine le_t (by omega) ?_ | refine le_f (by omega) ?_)
  refine lp2 (fun t7 t8 w => ∃ (j : Nat) (most : Int), j ≤ l.length ∧ t8 = .int .i64 j ∧ t7 = .int .i64 most ∧ (0 ≤ most ∧ most ≤ 65790) ∧ Sat e w (IsClk g ⟨[0], 0, most⟩ :: S :: R)) (fun _ t8 _ => l.length - nOf t8)
    ⟨0, 0, Nat.zero_le _, rfl, rfl, by omega, h2⟩ ?_
  rintro _ _ w g1 ⟨j, most, hj, rfl, rfl, hm, h3⟩ hg
  refine lnS_rd h3 1 rfl hr ?_
  refine lt_c (fun c => ?_) (fun c => ?_)
  · refine iff_t ?_
    obtain ⟨x, hx⟩ := get_of_lt (l := l) (j := j) (by omega)
    have hxw := wf_u16 (hw x (List.mem_of_getElem? hx))
    refine ixS_rd h3 1 rfl hr (fun _ => rfl) hx fun a ha => ?_
    refine ld1_of h3 1 rfl ha rfl ?_
    refine cv_s ?_
    rw [wrap_i64 (by omega) (by omega)]
    refine cv_s ?_
    rw [wrap_i64 (by omega) (by omega)]
    have ht := alone_tell most x look hxw hlk
    refine clock_Tell_s h3 fun w4 h4 => ?_
    have ht2 : Clk.tell ⟨[0], 0, most⟩ x look = ⟨[0], 0, max most (x + look)⟩ := by
      unfold Clk.tell
      rw [ht]
      by_cases hc : x + look ≤ most
      · rw [if_pos hc, Int.max_eq_left hc]
      · rw [if_neg hc, Int.max_eq_right (by omega)]
    have ht3 : Clk.tellB ⟨[0], 0, most⟩ x look = decide (most < x + look) := by
      unfold Clk.tellB
      rw [ht]
    rw [ht2] at h4 ⊢
    rw [ht3]
    dsimp only
    repeat (first | refine gd_tt ?_ | refine gd_ff ?_ | refine gd_tf ?_ | refine gd_ft ?_ | refine gd_u ?_ | refine pk_t ?_ | refine pk_f ?_ | refine iff_t ?_ | refine iff_f ?_ | refine not_t ?_ | refine not_f ?_ | refine beq_s ?_ | refine bne_s ?_ | refine ncP_p ?_ | refine fld_at ?_ | refine xt_02 ?_ | refine xt_12 ?_ | refine xt_03 ?_ | refine xt_13 ?_ | refine xt_23 ?_ | refine eq_t (by omega) ?_ | refine eq_f (by omega) ?_ | refine ne_t (by omega) ?_ | refine ne_f (by omega) ?_ | refine lt_t (by omega) ?_ | refine lt_f (by omega) ?_ | refine gt_t (by omega) ?_ | refine gt_f (by omega) ?_ | refine ge_t (by omega) ?_ | refine ge_f (by omega) ?_ | refine le_t (by omega) ?_ | refine le_f (by omega) ?_)
    refine ixS_rd h4 1 rfl hr (fun _ => rfl) hx fun a ha => ?_
    refine ld1_of h4 1 rfl ha rfl ?_
    refine cv_s ?_
    rw [wrap_i64 (by omega) (by omega)]
    refine cv_s ?_
    rw [wrap_i64 (by omega) (by omega)]
    refine add_s (by omega) (by omega) ?_
    refine gt_d ?_
    refine bne_s ?_
    rw [bne_self_eq_false]
    refine iff_f (max_s ?_)
    repeat (first | refine gd_tt ?_ | refine gd_ff ?_ | refine gd_tf ?_ | refine gd_ft ?_ | refine gd_u ?_ | refine pk_t ?_ | refine pk_f ?_ | refine iff_t ?_ | refine iff_f ?_ | refine not_t ?_ | refine not_f ?_ | refine beq_s ?_ | refine bne_s ?_ | refine ncP_p ?_ | refine fld_at ?_ | refine xt_02 ?_ | refine xt_12 ?_ | refine xt_03 ?_ | refine xt_13 ?_ | refine xt_23 ?_ | refine eq_t (by omega) ?_ | refine eq_f (by omega) ?_ | refine ne_t (by omega) ?_ | refine ne_f (by omega) ?_ | refine lt_t (by omega) ?_ | refine lt_f (by omega) ?_ | refine gt_t (by omega) ?_ | refine gt_f (by omega) ?_ | refine ge_t (by omega) ?_ | refine ge_f (by omega) ?_ | refine le_t (by omega) ?_ | refine le_f (by omega) ?_)
    refine clock_Told_s h4 ?_
    dsimp only
    repeat (first | refine gd_tt ?_ | refine gd_ff ?_ | refine gd_tf ?_ | refine gd_ft ?_ | refine gd_u ?_ | refine pk_t ?_ | refine pk_f ?_ | refine iff_t ?_ | refine iff_f ?_ | refine not_t ?_ | refine not_f ?_ | refine beq_s ?_ | refine bne_s ?_ | refine ncP_p ?_ | refine fld_at ?_ | refine xt_02 ?_ | refine xt_12 ?_ | refine xt_03 ?_ | refine xt_13 ?_ | refine xt_23 ?_ | refine eq_t (by omega) ?_ | refine eq_f (by omega) ?_ | refine ne_t (by omega) ?_ | refine ne_f (by omega) ?_ | refine lt_t (by omega) ?_ | refine lt_f (by omega) ?_ | refine gt_t (by omega) ?_ | refine gt_f (by omega) ?_ | refine ge_t (by omega) ?_ | refine ge_f (by omega) ?_ | refine le_t (by omega) ?_ | refine le_f (by omega) ?_)
    refine inc_s (by omega) ?_
    exact hg _ _ _ ⟨j + 1, max most (x + look), by omega, rfl, rfl, by omega, h4⟩ (by simp [nOf]; omega)
  · refine iff_f ?_
    refine clock_Hear_s (by unfold In64; omega) h3 fun w4 h4 => ?_
    rw [Clk.hearE_bad (by simp [Clk.okJ])]
    refine eq_t rfl ?_
    exact hk _ h4.drop
end Go.Proofs.Ytiiekfcfledkhaa
