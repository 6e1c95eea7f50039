/- The law CmbEdge. Conditions: none. -/
import Derived.Test.YtenglfaeohgkfaaCmbE
namespace Go.Proofs.Ytenglfaeohgkfaa
open Go Go.E
set_option maxRecDepth 100000
variable {e w : World} {L Q : List HP} {K : KV} {S S2 : HP}

theorem wf8c {n : Int} (h : (Lit.int .u8 n).wf = true) : 0 ≤ n ∧ n ≤ 255 := by
  simp only [Lit.wf, IntKind.min, IntKind.max, IntKind.signed, IntKind.bits] at h
  simp at h
  omega
def CE (a b : Int) : Clk := ⟨[0, a, b], 0, 0⟩
def NE (q : List Msg) (a b : Int) : ND := ⟨CE a b, q, 0, 0, []⟩
theorem CE_bound {a b : Int} (ha : a ≤ Inf) : (CE a b).bound = min a b := by
  have h : (CE a b).bound = min (min Inf a) b := by
    simp [Clk.bound, CE, Clk.get, List.range_succ]
  rw [h]
  unfold Inf at *
  omega
theorem CE_ok1 (a b : Int) : (CE a b).okJ 1 := by unfold Clk.okJ CE; simp
theorem CE_ok2 (a b : Int) : (CE a b).okJ 2 := by unfold Clk.okJ CE; simp
theorem NE_hear1 {q : List Msg} {a b t : Int} (hv : validT t = true) (h : a ≤ t) : hearE (NE q a b) 1 (itB t) = 0 ∧ hearN (NE q a b) 1 (itB t) = NE q t b := by
  have h1 : ¬ t < (CE a b).get 1 := by show ¬ t < a; omega
  refine ⟨(if_pos rfl : hearE (NE q a b) 1 (itB t) = (CE a b).hearE 1 t).trans (Clk.hearE_ok (CE_ok1 a b) hv h1), ?_⟩
  have h2 : hearN (NE q a b) 1 (itB t) = ⟨(CE a b).hear 1 t, q, 0, 0, []⟩ := if_pos rfl
  rw [h2, Clk.hear_ok (CE_ok1 a b) hv h1]
  rfl
theorem NE_hear2 {q : List Msg} {a b t : Int} (hv : validT t = true) (h : b ≤ t) : hearE (NE q a b) 2 (itB t) = 0 ∧ hearN (NE q a b) 2 (itB t) = NE q a t := by
  have h1 : ¬ t < (CE a b).get 2 := by show ¬ t < b; omega
  refine ⟨(if_pos rfl : hearE (NE q a b) 2 (itB t) = (CE a b).hearE 2 t).trans (Clk.hearE_ok (CE_ok2 a b) hv h1), ?_⟩
  have h2 : hearN (NE q a b) 2 (itB t) = ⟨(CE a b).hear 2 t, q, 0, 0, []⟩ := if_pos rfl
  rw [h2, Clk.hear_ok (CE_ok2 a b) hv h1]
  rfl
theorem NE_plain {q : List Msg} {a b t j s bo : Int} (h1 : (CE a b).at' j = 0) (ht : 0 ≤ t) (hp : pushE 64 q (itP t j s bo).m = 0) : hearE (NE q a b) j (itP t j s bo) = 0 ∧ hearN (NE q a b) j (itP t j s bo) = NE (insK (itP t j s bo).m q) a b := by
  have e1 : hearE (NE q a b) j (itP t j s bo) = if (CE a b).at' j < 0 then 1 else if t < (CE a b).at' j then 110 else pushE 64 q (itP t j s bo).m := rfl
  have e2 : hearN (NE q a b) j (itP t j s bo) = if (0 : Int) = 0 ∧ ¬ (CE a b).at' j < 0 ∧ ¬ t < (CE a b).at' j then ⟨CE a b, pushQ q (itP t j s bo).m, 0, 0, []⟩ else NE q a b := rfl
  rw [e1, e2, h1, if_neg (by omega), if_neg (by omega), if_pos ⟨rfl, by omega, by omega⟩]
  refine ⟨hp, ?_⟩
  unfold pushQ
  rw [if_pos hp]
  rfl
theorem validT_u {t : Int} (h : 0 ≤ t ∧ t ≤ 255) : validT t = true := by
  unfold validT Inf MaxT
  rw [decide_eq_true_iff]
  omega

theorem cmbEdge_s {t : Int} {v : Value} {l : List Int} (hS : Sat e w (S :: Q)) (ht : (Lit.int .u8 t).wf = true) (hr : ∀ g, S g → rdS 1 (intsK .u8) v l g) (hl : ∀ m ∈ l, (Lit.int .u8 m).wf = true) (hk : ∀ w', Sat e w' (S :: Q) → K (.bool true) w') :
    Cl prog 6 #[.int .u8 t, v] w K := by
  have ht' := wf8c ht
  refine pacelinelaw12_CmbEdge_calls ?_
  unfold pacelinelaw12_CmbEdge
  refine lnS_rd hS 0 rfl hr ?_
  refine gt_c (fun c1 => ?_) (fun c1 => ?_)
  · repeat (first | refine gd_tt ?_ | refine gd_ff ?_ | refine gd_tf ?_ | refine gd_ft ?_ | refine gd_u ?_ | refine pk_t ?_ | refine pk_f ?_ | refine iff_t ?_ | refine iff_f ?_ | refine not_t ?_ | refine not_f ?_ | refine beq_s ?_ | refine bne_s ?_ | refine ncP_p ?_ | refine nc_p ?_ | refine fld_at ?_ | refine xt_02 ?_ | refine xt_12 ?_ | refine xt_03 ?_ | refine xt_13 ?_ | refine xt_23 ?_ | refine eq_t (by omega) ?_ | refine eq_f (by omega) ?_ | refine ne_t (by omega) ?_ | refine ne_f (by omega) ?_ | refine lt_t (by omega) ?_ | refine lt_f (by omega) ?_ | refine gt_t (by omega) ?_ | refine gt_f (by omega) ?_ | refine ge_t (by omega) ?_ | refine ge_f (by omega) ?_ | refine le_t (by omega) ?_ | refine le_f (by omega) ?_)
    exact shown12_s hS fun w2 h2 => hk _ h2
  refine gd_ff (shown12_s hS fun w2 h2 => gd_ff (not_t (pk_f (iff_f ?_))))
  refine start_s h2 fun r w3 h3 => ?_
  refine xt_02 (xt_12 (ne_f rfl (gd_ff (gd_ff (bnp_s _ (pk_f (gd_ff (gd_ff (gd_ff ?_)))))))))
  refine cv_s ?_
  rw [wrap_i64 (by omega) (by omega)]
  refine gd_ff (bld_s (ints [t, 1, 0]) (by kernel_rfl) (gd_ff (bld_s (ints [t, 1, 0, 0, 0, 0]) (by kernel_rfl) (gd_ff (bld_s (itP t 1 0 0).cs (by kernel_rfl) (gd_ff ?_))))))
  have hN0 : N0 = NE [] 0 0 := rfl
  obtain ⟨p1, p2⟩ := NE_plain (q := []) (a := 0) (b := 0) (t := t) (j := 1) (s := 0) (bo := 0) (by kernel_rfl) ht'.1 rfl
  refine node_Hear_s (i := itP t 1 0 0) (by show In64 t; unfold In64; omega) h3 fun w4 h4 => ?_
  rw [hN0, p2] at h4
  rw [hN0, p1]
  refine gd_ff (ne_f rfl (pk_f (iff_f ?_)))
  replace h4 : Sat e w4 (IsNode r echoW 0 (NE [(itP t 1 0 0).m] 0 0) 0 :: S :: Q) := h4
  refine lpi3 (fun q t7 t8 t9 w => ∃ (j : Nat) (a b : Int), j ≤ l.length ∧ t9 = .int .i64 j ∧ t7 = .int .i64 a ∧ t8 = .int .i64 b ∧ q = l.length - j ∧ (0 ≤ a ∧ a ≤ 255) ∧ (0 ≤ b ∧ b ≤ 255) ∧ Sat e w (IsNode r echoW 0 (NE [(itP t 1 0 0).m] a b) 0 :: S :: Q)) l.length ⟨0, 0, 0, Nat.zero_le _, rfl, rfl, rfl, rfl, by omega, by omega, h4⟩ ?_
  rintro q _ _ _ w g1 ⟨j, a, b, hj, rfl, rfl, rfl, rfl, ha, hb, h5⟩ hg1
  refine lnS_rd h5 1 rfl hr ?_
  refine lt_c (fun c2 => iff_t ?_) (fun c2 => iff_f ?_)
  · obtain ⟨m, hm⟩ := get_of_lt (l := l) (j := j) (by omega)
    have hm8 := wf8c (hl m (List.mem_of_getElem? hm))
    refine J2.cut (fun t7 t8 w => ∃ (a b : Int), t7 = .int .i64 a ∧ t8 = .int .i64 b ∧ (0 ≤ a ∧ a ≤ 255) ∧ (0 ≤ b ∧ b ≤ 255) ∧ Sat e w (IsNode r echoW 0 (NE [(itP t 1 0 0).m] a b) 0 :: S :: Q)) (fun k2 hcut => ?_) ?_
    · refine rem_s (by decide) (eq_d ?_)
      refine J2.cut (fun t7 t8 w => ∃ (a b : Int), t7 = .int .i64 a ∧ t8 = .int .i64 b ∧ (0 ≤ a ∧ a ≤ 255) ∧ (0 ≤ b ∧ b ≤ 255) ∧ Sat e w (IsNode r echoW 0 (NE [(itP t 1 0 0).m] a b) 0 :: S :: Q)) (fun k3 hc3 => ?_) ?_
      · refine iff_b _ (fun _ => ?_) (fun _ => ?_)
        · refine ixS_rd h5 1 rfl hr (fun _ => rfl) hm fun p hp => ld1_of h5 1 rfl hp (v := .int .u8 m) rfl ?_
          refine cv_s ?_
          rw [wrap_i64 (by omega) (by omega)]
          refine max_s ?_
          obtain ⟨a', ha'⟩ : ∃ a', a' = max a m := ⟨_, rfl⟩
          rw [← ha']
          refine bld_s (ints [a', 0, 0]) (by kernel_rfl) (bld_s (ints [a', 0, 0, 0, 0, 0]) (by kernel_rfl) (bld_s (itB a').cs (by kernel_rfl) ?_))
          obtain ⟨p1, p2⟩ := NE_hear1 (q := [(itP t 1 0 0).m]) (a := a) (b := b) (t := a') (validT_u (by omega)) (by omega)
          refine node_Hear_s (i := itB a') (by show In64 a'; unfold In64; omega) h5 fun w6 h6 => ?_
          rw [p2] at h6
          rw [p1]
          refine ne_f rfl (iff_f (hc3 _ _ _ ⟨a', b, rfl, rfl, by omega, hb, h6⟩))
        · refine ixS_rd h5 1 rfl hr (fun _ => rfl) hm fun p hp => ld1_of h5 1 rfl hp (v := .int .u8 m) rfl ?_
          refine cv_s ?_
          rw [wrap_i64 (by omega) (by omega)]
          refine max_s ?_
          obtain ⟨a', ha'⟩ : ∃ a', a' = max b m := ⟨_, rfl⟩
          rw [← ha']
          refine bld_s (ints [a', 0, 0]) (by kernel_rfl) (bld_s (ints [a', 0, 0, 0, 0, 0]) (by kernel_rfl) (bld_s (itB a').cs (by kernel_rfl) ?_))
          obtain ⟨p1, p2⟩ := NE_hear2 (q := [(itP t 1 0 0).m]) (a := a) (b := b) (t := a') (validT_u (by omega)) (by omega)
          refine node_Hear_s (i := itB a') (by show In64 a'; unfold In64; omega) h5 fun w6 h6 => ?_
          rw [p2] at h6
          rw [p1]
          refine ne_f rfl (iff_f (hc3 _ _ _ ⟨a, a', rfl, rfl, ha, by omega, h6⟩))
      · rintro _ _ w6 ⟨a, b, rfl, rfl, ha, hb, h6⟩
        have hbd := CE_bound (a := a) (b := b) (by unfold Inf; omega)
        have hsafe : safeN echoW (NE [(itP t 1 0 0).m] a b) = decide (t < min a b ∧ t < 100) := by
          have e1 : safeN echoW (NE [(itP t 1 0 0).m] a b) = decide (t < min 100 (CE a b).bound) := rfl
          rw [e1, hbd, Bool.eq_iff_iff, decide_eq_true_iff, decide_eq_true_iff]
          omega
        have hgo : ∀ q : Bool, q = decide (t < min a b ∧ t < 100) → ∀ w', Sat e w' (IsNode r echoW 0 (NE [(itP t 1 0 0).m] a b) 0 :: S :: Q) →
            Cl prog 16 #[.pointer (some ⟨r, 0, none⟩)] w' fun t92 w => bb .neq t92 (.bool q) w fun t94 w => t94 = .bool false ∧ Sat e w (IsNode r echoW 0 (NE [(itP t 1 0 0).m] a b) 0 :: S :: Q) := by
          intro q hq w' h'
          refine node_Safe_s h' fun w7 h7 => bne_s ⟨?_, h7⟩
          rw [hsafe, hq, bne_self_eq_false]
        refine cv_s ?_
        rw [wrap_i64 (by omega) (by omega)]
        refine min_s ?_
        have hgo2 : ∀ q : Bool, q = decide (t < min a b ∧ t < 100) → ∀ w', Sat e w' (IsNode r echoW 0 (NE [(itP t 1 0 0).m] a b) 0 :: S :: Q) →
            Cl prog 16 #[.pointer (some ⟨r, 0, none⟩)] w' fun t92 w => bb .neq t92 (.bool q) w fun t94 w =>
              gd t94 false (fun k => k (.pointer (some ⟨r, 0, none⟩)) w) w fun t96 w => gd t94 false (fun k => nc t96 w k) w fun t97 w => gd t94 false (fun k => fld 0 t97 w k) w fun t98 w => gd t94 false (fun k => ld1 t98 w k) w fun t99 w =>
              gd t94 false (fun k => Cl prog 10 #[t99] w k) w fun t100 w => gd t94 false (fun k => k (.int .i64 a) w) w fun t101 w => gd t94 false (fun k => k (.int .i64 b) w) w fun t102 w =>
              gd t94 false (fun k => mnI .i64 t101 t102 w k) w fun t103 w => gd t94 false (fun k => bi .neq .i64 t100 t103 w k) w fun t104 w => pk t94 (.bool true) t104 w fun t105 w =>
              iff' t105 (K (.bool false) w) (bnot (.bool q) w fun t107 w => iff' t107 (Cl prog 12 #[.pointer (some ⟨r, 0, none⟩)] w fun t110 w => xt 0 t110 w fun t111 w => xt 1 t110 w fun _ w => xt 2 t110 w fun t113 w =>
                al (zeroD prog 51) 51 w fun t11 w => stN 7 t11 t111 w fun _ w => bi .neq .i64 t113 (.int .i64 150) w fun t115 w => iff' t115 (K (.bool false) w) (k2 (.int .i64 a) (.int .i64 b) w)) (k2 (.int .i64 a) (.int .i64 b) w)) := by
          intro q hq w' h'
          refine node_Safe_s h' fun w7 h7 => bne_s ?_
          rw [hsafe, hq, bne_self_eq_false]
          obtain ⟨g, hb1, hb2⟩ := node_bnd h7
          refine gd_ff (gd_ff (nc_p (gd_ff (fld_at (gd_ff (hb1 _ (gd_ff (hb2 _ fun w8 h8 => ?_))))))))
          refine gd_ff (gd_ff (gd_ff (min_s (gd_ff (ne_f ?_ (pk_f (iff_f ?_)))))))
          · exact hbd
          cases hq3 : decide (t < min a b ∧ t < 100) with
          | true => exact not_t (iff_f (hcut _ _ _ ⟨a, b, rfl, rfl, ha, hb, h8⟩))
          | false =>
            refine not_f (iff_t ?_)
            refine node_Step_s (fd := echoF) (by decide) rfl h8 (fun hs w9 h9 => ?_) (fun hs => by rw [hsafe, hq3] at hs; cases hs)
            refine xt_03 (xt_13 (xt_23 ?_))
            rw [zero_51]
            refine al_s (cs := Done.zero.cs) h9 rfl fun t11 w10 h10 => ?_
            refine stN_at h10 0 rfl (vs := Done.zero.cs) rfl rfl (by decide) (ints_flat _) (cs' := Done.zero.cs) (by rfl) fun w11 h11 => ?_
            exact ne_f rfl (iff_f (hcut _ _ _ ⟨a, b, rfl, rfl, ha, hb, h11.drop⟩))
        refine lt_c (fun d1 => ?_) (fun d1 => ?_)
        · refine gd_tt (gd_tt (cv_s ?_))
          rw [wrap_i64 (by omega) (by omega)]
          refine gd_tt (lt_c (fun d2 => pk_t (hgo2 true ?_ _ h6)) (fun d2 => pk_t (hgo2 false ?_ _ h6)))
          · exact (decide_eq_true ⟨d1, d2⟩).symm
          · exact (decide_eq_false fun h => d2 h.2).symm
        · refine gd_ft (gd_ft (gd_ft (pk_f (hgo2 false ?_ _ h6))))
          exact (decide_eq_false fun h => d1 h.1).symm
    · rintro _ _ w' ⟨a', b', rfl, rfl, ha', hb', h'⟩
      refine inc_s (by omega) ?_
      exact hg1 _ _ _ _ _ (by omega) ⟨j + 1, a', b', by omega, rfl, rfl, rfl, rfl, ha', hb', h'⟩
  · refine node_Log_s (by decide) h5 fun lv w6 h6 => ?_
    refine lnS_rd h6 0 rfl (fun g hg => own_rd hg) (eq_t rfl (gd_tt (gd_tt (nc_p (gd_tt (fld_at (gd_tt ?_)))))))
    obtain ⟨q, hq1, hq2⟩ := node_wait (h6.swap)
    refine hq1 _ (gd_tt (hq2 _ fun v2 w7 h7 => ?_))
    refine gd_tt (lnS_rd h7 0 rfl (fun g hg => own_rd hg) (gd_tt (eq_t rfl (pk_t ?_))))
    exact hk _ (h7.selR [_, _, _] [] [] (by decide) rfl)
end Go.Proofs.Ytenglfaeohgkfaa
