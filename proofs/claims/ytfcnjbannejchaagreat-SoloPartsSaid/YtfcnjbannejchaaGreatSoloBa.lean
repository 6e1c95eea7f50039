/- The law SoloRuns. Conditions: none. -/
import Derived.Test.YtfcnjbannejchaaGreatSoloZ
import Derived.Test.YtfcnjbannejchaaGreatSoloT
namespace Go.Proofs.YtfcnjbannejchaaGreat
open Go Go.E
set_option maxRecDepth 100000
variable {e w : World} {L Q : List HP} {K : KV} {S S2 : HP}

theorem log_lenI {wd : Wd} {R : RS} {k : Nat} (hR : RunOk wd R k) (f : Int) : (logR R f).length ≤ k := by
  unfold logR
  split
  · cases hf : R.feds[f.toNat]? with
    | none => simp
    | some x => exact (hR.sent x (List.mem_of_getElem? hf)).2.2
  · simp
theorem soloRuns_s {x : WdX} {a : Int} (hS : Sat e w (S :: Q)) (hr : ∀ g, S g → RdWd x g) (hwf : x.wf) (ha : (Lit.int .u8 a).wf = true) (hk : ∀ w', Sat e w' (S :: Q) → K (.bool true) w') :
    Cl prog 3 #[.agg x.cs.toArray, .int .u8 a] w K := by
  have ha' := wf8s ha
  refine pacelinelaw09_SoloRuns_calls ?_
  unfold pacelinelaw09_SoloRuns
  have hflat := wd_cells 0 rfl hS hr
  refine al_s (cs := x.cs) hS rfl fun b w1 h1 => ?_
  refine ldN_at h1 0 (vs := x.cs) rfl (by rfl) rfl ?_
  refine small_s (x := x) 1 rfl h1 hr fun w2 q h2 hq => ?_
  cases q with
  | false =>
    refine not_f (iff_t ?_)
    exact shown_s h2 fun w3 h3 => hk _ h3.drop
  | true =>
    have hs := hq rfl
    refine not_t (iff_f ?_)
    refine ldN_at h2 0 (vs := x.cs) rfl (by rfl) rfl ?_
    refine solo_New_s (x := x) 1 rfl h2 hr hwf hs (fun hbad w3 h3 => ?_) (fun hok r w3 h3 => ?_)
    · refine xt_02 (xt_12 ?_)
      refine ldN_at h3 0 (vs := x.cs) rfl (by rfl) rfl ?_
      refine ref09_New_s (x := x) 1 rfl h3 hr hs (fun _ w4 h4 => ?_) (fun hok _ _ _ => absurd hok hbad)
      refine xt_02 (xt_12 (ne_f rfl (gd_ff (gd_ff (bnp_n (gd_ff (gd_ff (bnp_n (gd_ff (bne_s (pk_f (gd_ff (shown_s h4 fun w5 h5 => ?_)))))))))))))
      repeat (first | refine gd_tt ?_ | refine gd_ff ?_ | refine gd_tf ?_ | refine gd_ft ?_ | refine gd_u ?_ | refine pk_t ?_ | refine pk_f ?_ | refine iff_t ?_ | refine iff_f ?_ | refine not_t ?_ | refine not_f ?_ | refine beq_s ?_ | refine bne_s ?_ | refine ncP_p ?_ | refine nc_p ?_ | refine fld_at ?_ | refine xt_02 ?_ | refine xt_12 ?_ | refine xt_03 ?_ | refine xt_13 ?_ | refine xt_23 ?_ | refine eq_t (by omega) ?_ | refine eq_f (by omega) ?_ | refine ne_t (by omega) ?_ | refine ne_f (by omega) ?_ | refine lt_t (by omega) ?_ | refine lt_f (by omega) ?_ | refine gt_t (by omega) ?_ | refine gt_f (by omega) ?_ | refine ge_t (by omega) ?_ | refine ge_f (by omega) ?_ | refine le_t (by omega) ?_ | refine le_f (by omega) ?_)
      refine bnp_n (iff_t ?_)
      exact hk _ h5.drop
    · refine xt_02 (xt_12 ?_)
      refine ldN_at h3 1 (vs := x.cs) rfl (by rfl) rfl ?_
      refine ref09_New_s (x := x) 2 rfl h3 hr hs (fun hbad => absurd hok hbad) (fun _ r2 w4 h4 => ?_)
      refine xt_02 (xt_12 (ne_f rfl (gd_ff (gd_ff (bnp_s _ (gd_ff (gd_ff (bnp_s _ (gd_ff (bne_s (pk_f (gd_ff (shown_s h4 fun w5 h5 => ?_)))))))))))))
      repeat (first | refine gd_tt ?_ | refine gd_ff ?_ | refine gd_tf ?_ | refine gd_ft ?_ | refine gd_u ?_ | refine pk_t ?_ | refine pk_f ?_ | refine iff_t ?_ | refine iff_f ?_ | refine not_t ?_ | refine not_f ?_ | refine beq_s ?_ | refine bne_s ?_ | refine ncP_p ?_ | refine nc_p ?_ | refine fld_at ?_ | refine xt_02 ?_ | refine xt_12 ?_ | refine xt_03 ?_ | refine xt_13 ?_ | refine xt_23 ?_ | refine eq_t (by omega) ?_ | refine eq_f (by omega) ?_ | refine ne_t (by omega) ?_ | refine ne_f (by omega) ?_ | refine lt_t (by omega) ?_ | refine lt_f (by omega) ?_ | refine gt_t (by omega) ?_ | refine gt_f (by omega) ?_ | refine ge_t (by omega) ?_ | refine ge_f (by omega) ?_ | refine le_t (by omega) ?_ | refine le_f (by omega) ?_)
      refine bnp_s _ (iff_f ?_)
      obtain ⟨n, hn⟩ : ∃ n : Nat, a % 40 = n := ⟨(a % 40).toNat, by omega⟩
      have hn40 : n < 40 := by omega
      refine lpi1 (fun q t9 w => ∃ (i : Nat) (R : RS), i ≤ n ∧ t9 = .int .i64 i ∧ q = n - i ∧ ∃ k, k ≤ i ∧ Sat e w (IsSolo r x.w R k :: IsRef r2 x R k :: blk b 25 x.cs :: S :: Q)) n
        ⟨0, initR x.w, Nat.zero_le _, rfl, rfl, 0, Nat.le_refl _, h5.swap⟩ ?_
      rintro q _ w g1 ⟨i, R, hi, rfl, rfl, k, hki, h6⟩ hg1
      refine cv_s ?_
      rw [wrap_i64 (by omega) (by omega)]
      refine rem_s (by decide) ?_
      rw [Int.tmod_eq_emod_of_nonneg (by omega), hn]
      rw [zero_40]
      refine lt_c (fun c1 => iff_t ?_) (fun c1 => iff_f ?_)
      · refine solo_Next_s (by omega) h6 (fun hno w7 h7 => ?_) (fun d R' hyes w7 h7 => ?_)
        ·
          refine xt_02 (xt_12 ?_)
          refine al_s (cs := Done.zero.cs) h7 rfl fun t10 w8 h8 => ?_
          refine stN_at h8 0 rfl (vs := Done.zero.cs) rfl rfl (by decide) (ints_flat _) (cs' := Done.zero.cs) (by rfl) fun w9 h9 => ?_
          refine ref09_Next_s (x := x) (by omega) 3 rfl (h9.selR [_, _, _] [_, _, _] [2, 0, 1] (by decide) rfl) hr hs (fun _ w10 h10 => ?_) (fun d R' hyes _ _ => absurd hyes (by rw [hno]; simp))
          · refine xt_02 (xt_12 ?_)
            refine al_s (cs := Done.zero.cs) h10 rfl fun t12 w11 h11 => ?_
            refine stN_at h11 0 rfl (vs := Done.zero.cs) rfl rfl (by decide) (ints_flat _) (cs' := Done.zero.cs) (by rfl) fun w12 h12 => ?_
            refine ldN_at h12 2 (vs := Done.zero.cs) rfl (by rfl) rfl ?_
            refine ldN_at h12 0 (vs := Done.zero.cs) rfl (by rfl) rfl ?_
            refine bO_ne (ns := Done.zero.ns) (ms := Done.zero.ns) eqT_40 agg_40 egt_40 (by decide) rfl ?_
            rw [beq_self_eq_true]
            refine gd_ff (gd_ff (gd_ff (bne_s ?_)))
            rw [bne_self_eq_false]
            refine pk_f (iff_f (inc_s (by omega) ?_))
            refine hg1 _ _ _ (by omega) ⟨i + 1, R, by omega, rfl, rfl, k, by omega, ?_⟩
            exact h12.selR [_, _, _, _] [_, _] [3, 1] (by decide) rfl
        · 
          refine xt_02 (xt_12 ?_)
          refine al_s (cs := Done.zero.cs) h7 rfl fun t10 w8 h8 => ?_
          refine stN_at h8 0 rfl (vs := d.cs) rfl rfl (by decide) (ints_flat _) (cs' := d.cs) (by rfl) fun w9 h9 => ?_
          refine ref09_Next_s (x := x) (by omega) 3 rfl (h9.selR [_, _, _] [_, _, _] [2, 0, 1] (by decide) rfl) hr hs (fun hno => absurd hno (by rw [hyes]; simp)) (fun d2 R2 hyes2 w10 h10 => ?_)
          · obtain ⟨rfl, rfl⟩ : d = d2 ∧ R' = R2 := by
              rw [hyes] at hyes2
              injection hyes2 with h
              injection h with e1 e2
              exact ⟨e1, e2⟩
            refine xt_02 (xt_12 ?_)
            refine al_s (cs := Done.zero.cs) h10 rfl fun t12 w11 h11 => ?_
            refine stN_at h11 0 rfl (vs := d.cs) rfl rfl (by decide) (ints_flat _) (cs' := d.cs) (by rfl) fun w12 h12 => ?_
            refine ldN_at h12 2 (vs := d.cs) rfl (by rfl) rfl ?_
            refine ldN_at h12 0 (vs := d.cs) rfl (by rfl) rfl ?_
            refine bO_ne (ns := d.ns) (ms := d.ns) eqT_40 agg_40 egt_40 (by decide) rfl ?_
            rw [beq_self_eq_true]
            refine gd_ff (gd_ff (gd_ff (bne_s ?_)))
            rw [bne_self_eq_false]
            refine pk_f (iff_f (inc_s (by omega) ?_))
            refine hg1 _ _ _ (by omega) ⟨i + 1, R', by omega, rfl, rfl, (k + 1), by omega, ?_⟩
            exact h12.selR [_, _, _, _] [_, _] [3, 1] (by decide) rfl
      · have hb9 : ∃ m : Nat, a % 9 = m := ⟨(a % 9).toNat, by omega⟩
        obtain ⟨m, hm⟩ := hb9
        have hm9 : m < 9 := by omega
        refine cv_s ?_
        rw [wrap_i64 (by omega) (by omega)]
        refine rem_s (by decide) ?_
        rw [Int.tmod_eq_emod_of_nonneg (by omega), hm]
        refine solo_Steps_s (n := m) (by omega) h6 fun w7 h7 hle1 => ?_
        refine cv_s ?_
        rw [wrap_i64 (by omega) (by omega)]
        refine rem_s (by decide) ?_
        rw [Int.tmod_eq_emod_of_nonneg (by omega), hm]
        refine ref09_Steps_s (x := x) (n := m) (by omega) 2 rfl h7.swap hr hs fun w8 h8 => ?_
        generalize (stepsR x.w m R) = A at h8 hle1
        refine ne_f rfl (gd_ff (gd_ff ?_))
        refine solo_Waiting_s (by omega) h8.swap fun v1 w9 h9 => ?_
        refine gd_ff (gd_ff ?_)
        refine ref09_Waiting_s (by omega) (h9.selR [_, _, _] [_, _, _] [2, 0, 1] (by decide) rfl) fun v2 w10 h10 => ?_
        have hcnt : A.2.wait.length ≤ 1000000 := by
          obtain ⟨X, hX, _⟩ := solo_of (h10.pick 3 rfl)
          have := hX.run.cnt
          omega
        refine gd_ff (same_s 2 0 rfl rfl h10 (fun g hg => own_rd hg) (fun g hg => own_rd hg) hcnt fun w11 h11 => ?_)
        refine gd_ff (not_t (pk_f (iff_f ?_)))
        have hfl : x.Feds.length ≤ 1000 := hs.feds
        have h12 := h11.selR [_, _, _, _] [_, _] [3, 1] (by decide) rfl
        refine lpi1 (fun q t14 w => ∃ f : Int, -1 ≤ f ∧ f ≤ x.Feds.length + 1 ∧ t14 = .int .i64 f ∧ q = (x.Feds.length + 1 - f).toNat ∧ Sat e w (IsSolo r x.w A.2 (k + A.1) :: IsRef r2 x A.2 (k + A.1) :: blk b 25 x.cs :: S :: Q)) (x.Feds.length + 2) ⟨-1, by omega, by omega, rfl, by omega, h12⟩ ?_
        rintro q _ w g2 ⟨f, hf1, hf2, rfl, rfl, h13⟩ hg2
        refine fld_at (ld1_at h13 2 rfl (v := x.fv) rfl ?_)
        refine lnS_rd h13 3 rfl (fun g hg => (hr g hg).feds) ?_
        refine le_c (fun c2 => iff_t ?_) (fun c2 => iff_f (hk _ h13.drop.drop.drop))
        refine solo_State_s h13 (ref09_State_s h13.swap (ne_f rfl (gd_ff (gd_ff (gd_ff ?_)))))
        refine solo_Log_s (by omega) h13 fun u1 w14 h14 => ?_
        refine gd_ff (gd_ff (gd_ff ?_))
        refine ref09_Log_s (by omega) (h14.selR [_, _, _] [_, _, _] [2, 0, 1] (by decide) rfl) fun u2 w15 h15 => ?_
        have hll : (logR A.2 f).length ≤ 1000000 := by
          obtain ⟨X, hX, _⟩ := solo_of (h15.pick 3 rfl)
          have := log_lenI hX.run f
          omega
        refine gd_ff (Same_s 2 0 rfl rfl h15 (fun g hg => own_rd hg) (fun g hg => own_rd hg) hll fun w16 h16 => ?_)
        refine gd_ff (not_t (pk_f (iff_f ?_)))
        refine add_s (by omega) (by omega) ?_
        refine hg2 _ _ _ (by omega) ⟨f + 1, by omega, by omega, rfl, rfl, ?_⟩
        exact h16.selR [_, _, _, _] [_, _] [3, 1] (by decide) rfl
end Go.Proofs.YtfcnjbannejchaaGreat
