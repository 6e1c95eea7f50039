/- The law SoloParts. Conditions: none. -/
import Derived.Test.YtfcnjbannejchaaGreatSoloBa
namespace Go.Proofs.YtfcnjbannejchaaGreat
open Go Go.E
set_option maxRecDepth 100000
variable {e w : World} {L Q : List HP} {K : KV} {S S2 : HP}

/-! ### Steps in parts -/
theorem steps_exact (wd : Wd) : ∀ (p : Nat) (R : RS), stepsR wd (stepsR wd p R).1 R = stepsR wd p R
  | 0, R => rfl
  | p + 1, R => by
    rw [stepsR_succ]
    cases hx : nextR wd R with
    | none => rfl
    | some x =>
      show stepsR wd ((stepsR wd p x.2).1 + 1) R = _
      rw [stepsR_succ, hx]
      simp only [steps_exact wd p x.2]
theorem steps_more (wd : Wd) : ∀ (a b : Nat) (R R' : RS), stepsR wd a R = (a, R') → stepsR wd (a + b) R = (a + (stepsR wd b R').1, (stepsR wd b R').2)
  | 0, b, R, R', h => by
    have h2 : R = R' := congrArg Prod.snd h
    subst h2
    simp
  | a + 1, b, R, R', h => by
    rw [stepsR_succ] at h
    rw [show a + 1 + b = (a + b) + 1 from by omega, stepsR_succ]
    cases hx : nextR wd R with
    | none =>
      rw [hx] at h
      have := congrArg Prod.fst h
      simp at this
    | some x =>
      rw [hx] at h
      have h1 : stepsR wd a x.2 = (a, R') := by
        have e1 := congrArg Prod.fst h
        have e2 := congrArg Prod.snd h
        simp only at e1 e2
        exact Prod.ext (by simp only; omega) e2
      have := steps_more wd a b x.2 R' h1
      simp only [this]
      refine Prod.ext ?_ rfl
      simp only
      omega

theorem soloParts_s {x : WdX} {v : Value} {l : List Int} (hS : Sat e w (S :: Q)) (hr : ∀ g, S g → RdWd x g) (hwf : x.wf) (hr1 : ∀ g, S g → rdS 1 (intsK .u8) v l g) (hl8 : ∀ m ∈ l, (Lit.int .u8 m).wf = true) (hk : ∀ w', Sat e w' (S :: Q) → K (.bool true) w') :
    Cl prog 4 #[.agg x.cs.toArray, v] w K := by
  refine pacelinelaw09_SoloParts_calls ?_
  unfold pacelinelaw09_SoloParts
  have hflat := wd_cells 0 rfl hS hr
  refine al_s (cs := x.cs) hS rfl fun b w1 h1 => ?_
  refine ldN_at h1 0 (vs := x.cs) rfl (by rfl) rfl ?_
  refine small_s (x := x) 1 rfl h1 hr fun w2 q h2 hq => ?_
  cases q with
  | false =>
    refine not_f ?_
    repeat (first | refine gd_tt ?_ | refine gd_ff ?_ | refine gd_tf ?_ | refine gd_ft ?_ | refine gd_u ?_ | refine pk_t ?_ | refine pk_f ?_ | refine iff_t ?_ | refine iff_f ?_ | refine not_t ?_ | refine not_f ?_ | refine beq_s ?_ | refine bne_s ?_ | refine ncP_p ?_ | refine nc_p ?_ | refine fld_at ?_ | refine xt_02 ?_ | refine xt_12 ?_ | refine xt_03 ?_ | refine xt_13 ?_ | refine xt_23 ?_ | refine eq_t (by omega) ?_ | refine eq_f (by omega) ?_ | refine ne_t (by omega) ?_ | refine ne_f (by omega) ?_ | refine lt_t (by omega) ?_ | refine lt_f (by omega) ?_ | refine gt_t (by omega) ?_ | refine gt_f (by omega) ?_ | refine ge_t (by omega) ?_ | refine ge_f (by omega) ?_ | refine le_t (by omega) ?_ | refine le_f (by omega) ?_)
    exact shown_s h2 fun w3 h3 => hk _ h3.drop
  | true =>
    have hs := hq rfl
    refine not_t (gd_ff (gd_ff (lnS_rd h2 1 rfl hr1 (gd_ff (gt_c (fun c8 => ?_) (fun c8 => ?_))))))
    · repeat (first | refine gd_tt ?_ | refine gd_ff ?_ | refine gd_tf ?_ | refine gd_ft ?_ | refine gd_u ?_ | refine pk_t ?_ | refine pk_f ?_ | refine iff_t ?_ | refine iff_f ?_ | refine not_t ?_ | refine not_f ?_ | refine beq_s ?_ | refine bne_s ?_ | refine ncP_p ?_ | refine nc_p ?_ | refine fld_at ?_ | refine xt_02 ?_ | refine xt_12 ?_ | refine xt_03 ?_ | refine xt_13 ?_ | refine xt_23 ?_ | refine eq_t (by omega) ?_ | refine eq_f (by omega) ?_ | refine ne_t (by omega) ?_ | refine ne_f (by omega) ?_ | refine lt_t (by omega) ?_ | refine lt_f (by omega) ?_ | refine gt_t (by omega) ?_ | refine gt_f (by omega) ?_ | refine ge_t (by omega) ?_ | refine ge_f (by omega) ?_ | refine le_t (by omega) ?_ | refine le_f (by omega) ?_)
      exact shown_s h2 fun w3 h3 => hk _ h3.drop
    refine pk_f (iff_f ?_)
    refine ldN_at h2 0 (vs := x.cs) rfl (by rfl) rfl ?_
    refine solo_New_s (x := x) 1 rfl h2 hr hwf hs (fun hbad w3 h3 => ?_) (fun hok r w3 h3 => ?_)
    · refine xt_02 (xt_12 ?_)
      refine ldN_at h3 0 (vs := x.cs) rfl (by rfl) rfl ?_
      refine solo_New_s (x := x) 1 rfl h3 hr hwf hs (fun _ w4 h4 => ?_) (fun hok _ _ _ => absurd hok hbad)
      refine xt_02 (xt_12 ?_)
      refine ldN_at h4 0 (vs := x.cs) rfl (by rfl) rfl ?_
      refine ref09_New_s (x := x) 1 rfl h4 hr hs (fun _ w5 h5 => ?_) (fun hok _ _ _ => absurd hok hbad)
      refine xt_02 (xt_12 (ne_f rfl (gd_ff (gd_ff (gd_ff (ne_f rfl (pk_f (gd_ff (shown_s h5 fun w6 h6 => ?_)))))))))
      repeat (first | refine gd_tt ?_ | refine gd_ff ?_ | refine gd_tf ?_ | refine gd_ft ?_ | refine gd_u ?_ | refine pk_t ?_ | refine pk_f ?_ | refine iff_t ?_ | refine iff_f ?_ | refine not_t ?_ | refine not_f ?_ | refine beq_s ?_ | refine bne_s ?_ | refine ncP_p ?_ | refine nc_p ?_ | refine fld_at ?_ | refine xt_02 ?_ | refine xt_12 ?_ | refine xt_03 ?_ | refine xt_13 ?_ | refine xt_23 ?_ | refine eq_t (by omega) ?_ | refine eq_f (by omega) ?_ | refine ne_t (by omega) ?_ | refine ne_f (by omega) ?_ | refine lt_t (by omega) ?_ | refine lt_f (by omega) ?_ | refine gt_t (by omega) ?_ | refine gt_f (by omega) ?_ | refine ge_t (by omega) ?_ | refine ge_f (by omega) ?_ | refine le_t (by omega) ?_ | refine le_f (by omega) ?_)
      exact hk _ h6.drop
    · refine xt_02 (xt_12 ?_)
      refine ldN_at h3 1 (vs := x.cs) rfl (by rfl) rfl ?_
      refine solo_New_s (x := x) 2 rfl h3 hr hwf hs (fun hbad => absurd hok hbad) (fun _ r2 w4 h4 => ?_)
      refine xt_02 (xt_12 ?_)
      refine ldN_at h4 2 (vs := x.cs) rfl (by rfl) rfl ?_
      refine ref09_New_s (x := x) 3 rfl h4 hr hs (fun hbad => absurd hok hbad) (fun _ r3 w5 h5 => ?_)
      refine xt_02 (xt_12 (ne_f rfl (gd_ff (gd_ff (gd_ff (ne_f rfl (pk_f (gd_ff (shown_s h5 fun w6 h6 => ?_)))))))))
      repeat (first | refine gd_tt ?_ | refine gd_ff ?_ | refine gd_tf ?_ | refine gd_ft ?_ | refine gd_u ?_ | refine pk_t ?_ | refine pk_f ?_ | refine iff_t ?_ | refine iff_f ?_ | refine not_t ?_ | refine not_f ?_ | refine beq_s ?_ | refine bne_s ?_ | refine ncP_p ?_ | refine nc_p ?_ | refine fld_at ?_ | refine xt_02 ?_ | refine xt_12 ?_ | refine xt_03 ?_ | refine xt_13 ?_ | refine xt_23 ?_ | refine eq_t (by omega) ?_ | refine eq_f (by omega) ?_ | refine ne_t (by omega) ?_ | refine ne_f (by omega) ?_ | refine lt_t (by omega) ?_ | refine lt_f (by omega) ?_ | refine gt_t (by omega) ?_ | refine gt_f (by omega) ?_ | refine ge_t (by omega) ?_ | refine ge_f (by omega) ?_ | refine le_t (by omega) ?_ | refine le_f (by omega) ?_)
      replace h6 : Sat e w6 (IsSolo r x.w (initR x.w) 0 :: IsSolo r2 x.w (initR x.w) 0 :: IsRef r3 x (initR x.w) 0 :: blk b 25 x.cs :: S :: Q) := h6.selR [_, _, _] [_, _, _] [2, 1, 0] (by decide) rfl
      refine lpi2 (fun q t11 t12 w => ∃ (j n : Nat) (R : RS), j ≤ l.length ∧ t12 = .int .i64 j ∧ t11 = .int .i64 n ∧ q = l.length - j ∧ n ≤ 7 * j ∧ stepsR x.w n (initR x.w) = (n, R) ∧ Sat e w (IsSolo r x.w R n :: IsSolo r2 x.w (initR x.w) 0 :: IsRef r3 x (initR x.w) 0 :: blk b 25 x.cs :: S :: Q)) l.length
        ⟨0, 0, initR x.w, Nat.zero_le _, rfl, rfl, rfl, Nat.zero_le _, rfl, h6⟩ ?_
      rintro q _ _ w g1 ⟨j, n, R, hj, rfl, rfl, rfl, hn, heq, h7⟩ hg1
      refine lnS_rd h7 4 rfl hr1 ?_
      refine lt_c (fun c1 => iff_t ?_) (fun c1 => iff_f ?_)
      · obtain ⟨m, hm⟩ := get_of_lt (l := l) (j := j) (by omega)
        have hm8 := wf8s (hl8 m (List.mem_of_getElem? hm))
        refine ixS_rd h7 4 rfl hr1 (fun _ => rfl) hm fun p hp => ?_
        refine ld1_of h7 4 rfl hp (v := .int .u8 m) rfl ?_
        refine cv_s ?_
        rw [wrap_i64 (by omega) (by omega)]
        refine rem_s (by decide) ?_
        rw [Int.tmod_eq_emod_of_nonneg (by omega)]
        obtain ⟨p, hp⟩ : ∃ p : Nat, m % 8 = p := ⟨(m % 8).toNat, by omega⟩
        have hp8 : p < 8 := by omega
        rw [hp]
        refine solo_Steps_s (n := p) (by omega) h7 fun w8 h8 hle => ?_
        have hmore := steps_more x.w n (stepsR x.w p R).1 (initR x.w) R heq
        rw [steps_exact] at hmore
        generalize (stepsR x.w p R) = A at h8 hle hmore
        refine addn_s (by omega) ?_
        refine inc_s (by omega) ?_
        exact hg1 _ _ _ _ (by omega) ⟨j + 1, n + A.1, A.2, by omega, rfl, rfl, rfl, by omega, hmore, h8⟩
      · refine solo_Steps_s (n := n) (by omega) (h7.pick 1 rfl) fun w8 h8 _ => ?_
        rw [heq] at h8 ⊢
        refine ne_f rfl (gd_ff (gd_ff (gd_ff ?_)))
        refine ref09_Steps_s (x := x) (n := n) (by omega) 3 rfl (h8.selR [_, _, _] [_, _, _] [2, 0, 1] (by decide) rfl) hr hs fun w9 h9 => ?_
        rw [heq] at h9 ⊢
        refine gd_ff (gd_ff (ne_f rfl (pk_f (gd_ff (gd_ff ?_)))))
        replace h9 : Sat e w9 (IsRef r3 x R (0 + n) :: IsSolo r2 x.w R (0 + n) :: IsSolo r x.w R n :: blk b 25 x.cs :: S :: Q) := h9
        refine solo_Waiting_s (by omega) (h9.pick 2 rfl) fun v1 w10 h10 => ?_
        refine gd_ff (gd_ff ?_)
        refine solo_Waiting_s (by omega) (h10.pick 3 rfl) fun v2 w11 h11 => ?_
        have hru : RunOk x.w R n := by
          obtain ⟨X, hX, _⟩ := solo_of (h11.pick 3 rfl)
          exact hX.run
        have hcnt := hru.cnt
        refine gd_ff (same_s 2 0 rfl rfl h11 (fun g hg => own_rd hg) (fun g hg => own_rd hg) (by omega) fun w12 h12 => ?_)
        refine gd_ff (not_t (pk_f (iff_f ?_)))
        have hfl : x.Feds.length ≤ 1000 := hs.feds
        replace h12 : Sat e w12 (IsSolo r x.w R n :: IsSolo r2 x.w R (0 + n) :: IsRef r3 x R (0 + n) :: blk b 25 x.cs :: S :: Q) := h12.selR [_, _, _, _, _] [_, _, _] [3, 1, 4] (by decide) rfl
        refine lpi1 (fun q t13 w => ∃ f : Nat, f ≤ x.Feds.length ∧ t13 = .int .i64 f ∧ q = x.Feds.length - f ∧ Sat e w (IsSolo r x.w R n :: IsSolo r2 x.w R (0 + n) :: IsRef r3 x R (0 + n) :: blk b 25 x.cs :: S :: Q)) x.Feds.length ⟨0, Nat.zero_le _, rfl, rfl, h12⟩ ?_
        rintro q _ w g2 ⟨f, hf, rfl, rfl, h13⟩ hg2
        refine fld_at (ld1_at h13 3 rfl (v := x.fv) rfl ?_)
        refine lnS_rd h13 4 rfl (fun g hg => (hr g hg).feds) ?_
        refine lt_c (fun c2 => iff_t ?_) (fun c2 => iff_f (hk _ h13.drop.drop.drop.drop))
        have hll := log_lenI hru f
        refine solo_Log_s (by omega) h13 fun u1 w14 h14 => ?_
        refine solo_Log_s (by omega) (h14.pick 2 rfl) fun u2 w15 h15 => ?_
        refine Same_s 2 0 rfl rfl h15 (fun g hg => own_rd hg) (fun g hg => own_rd hg) (by omega) fun w16 h16 => ?_
        refine not_t (gd_ff (gd_ff (gd_ff ?_)))
        refine solo_Log_s (by omega) (h16.pick 3 rfl) fun u3 w17 h17 => ?_
        refine gd_ff (gd_ff (gd_ff ?_))
        refine ref09_Log_s (by omega) (h17.pick 5 rfl) fun u4 w18 h18 => ?_
        refine gd_ff (Same_s 2 0 rfl rfl h18 (fun g hg => own_rd hg) (fun g hg => own_rd hg) (by omega) fun w19 h19 => ?_)
        refine gd_ff (not_t (pk_f (iff_f (inc_s (by omega) ?_))))
        refine hg2 _ _ _ (by omega) ⟨f + 1, by omega, rfl, rfl, ?_⟩
        exact h19.selR [_, _, _, _, _, _, _] [_, _, _] [3, 5, 1] (by decide) rfl
end Go.Proofs.YtfcnjbannejchaaGreat
