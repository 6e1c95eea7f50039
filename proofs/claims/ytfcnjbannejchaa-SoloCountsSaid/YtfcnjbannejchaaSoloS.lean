/- The law's small federation; what a step brings. Conditions: none. -/
import Derived.Test.YtfcnjbannejchaaSoloR
namespace Go.Proofs.Ytfcnjbannejchaa
open Go Go.E
set_option maxRecDepth 100000
variable {e w : World} {L Q : List HP} {K : KV} {S S2 : HP}

def w0 : Wd := ⟨[-1], [⟨0, 1, 0, [], [0], [], [⟨0, 4, 2⟩]⟩, ⟨0, 1, 3, [], [], [0], []⟩], 9⟩
theorem okRules_nil : okRules [] := ⟨by simp, by simp, by simp⟩
theorem w0_ok : checkW w0 = (-1, 0) := by
  have ht : treeE [-1] = 0 := by
    unfold treeE
    refine if_pos ⟨by simp, by simp, fun i p hp => ?_⟩
    match i with
    | 0 => simp at hp; omega
    | i + 1 => simp at hp
  have h1 : fedE ⟨0, 1, 0, [], [0], [], [⟨0, 4, 2⟩]⟩ 1 = 0 := by
    rw [fedE_chain]
    simp [okRules_nil, rising, rulesE, okInit]
  have h2 : fedE ⟨0, 1, 3, [], [], [0], []⟩ 1 = 0 := by
    rw [fedE_chain]
    simp [okRules_nil, rising, rulesE, okInit]
  unfold checkW w0
  rw [if_neg (by rw [ht]; decide), if_neg (by simp)]
  show fedsE 1 0 _ = _
  rw [fedsE_cons, if_neg (by rw [h1]; decide), fedsE_cons, if_neg (by rw [h2]; decide)]
  rfl
theorem shown_s (hS : Sat e w Q) (hk : ∀ w', Sat e w' Q → K (.bool true) w') : Cl prog 9 #[] w K := by
  refine pacelinelaw09_shown_calls ?_
  unfold pacelinelaw09_shown
  refine bsl_s (ints [-1]) hS (by kernel_rfl) fun b5 w1 h1 => ?_
  refine bsl_s (ints [0]) h1 (by kernel_rfl) fun b6 w2 h2 => ?_
  refine bld_s (⟨0, 4, 2⟩ : Out).cs (by kernel_rfl) ?_
  refine bsl_s (⟨0, 4, 2⟩ : Out).cs h2 (by kernel_rfl) fun b8 w3 h3 => ?_
  obtain ⟨f0, hf0⟩ : ∃ f0 : FedX, f0 = ⟨0, 1, 0, .slice none 0 0, [], .slice (some ⟨b6, 0, none⟩) 1 1, [0], .slice none 0 0, [], .slice (some ⟨b8, 0, none⟩) 1 1, [⟨0, 4, 2⟩]⟩ := ⟨_, rfl⟩
  refine bld_s [.int .i64 0, .int .i64 1, .int .i64 0, .slice none 0 0, .slice (some ⟨b6, 0, none⟩) 1 1, .slice none 0 0, .slice (some ⟨b8, 0, none⟩) 1 1] (by kernel_rfl) ?_
  refine bsl_s (ints [0]) h3 (by kernel_rfl) fun b10 w4 h4 => ?_
  obtain ⟨f1, hf1⟩ : ∃ f1 : FedX, f1 = ⟨0, 1, 3, .slice none 0 0, [], .slice none 0 0, [], .slice (some ⟨b10, 0, none⟩) 1 1, [0], .slice none 0 0, []⟩ := ⟨_, rfl⟩
  refine bld_s [.int .i64 0, .int .i64 1, .int .i64 3, .slice none 0 0, .slice none 0 0, .slice (some ⟨b10, 0, none⟩) 1 1, .slice none 0 0] (by kernel_rfl) ?_
  have hcs : [f0, f1].flatMap FedX.cs = [.int .i64 0, .int .i64 1, .int .i64 0, .slice none 0 0, .slice (some ⟨b6, 0, none⟩) 1 1, .slice none 0 0, .slice (some ⟨b8, 0, none⟩) 1 1, .int .i64 0, .int .i64 1, .int .i64 3, .slice none 0 0, .slice none 0 0, .slice (some ⟨b10, 0, none⟩) 1 1, .slice none 0 0] := by rw [hf0, hf1]; rfl
  refine bsl_s [.int .i64 0, .int .i64 1, .int .i64 0, .slice none 0 0, .slice (some ⟨b6, 0, none⟩) 1 1, .slice none 0 0, .slice (some ⟨b8, 0, none⟩) 1 1, .int .i64 0, .int .i64 1, .int .i64 3, .slice none 0 0, .slice none 0 0, .slice (some ⟨b10, 0, none⟩) 1 1, .slice none 0 0] h4 (by kernel_rfl) fun b12 w5 h5 => ?_
  rw [← hcs] at h5
  obtain ⟨x, hx⟩ : ∃ x : WdX, x = ⟨.slice (some ⟨b5, 0, none⟩) 1 1, [-1], .slice (some ⟨b12, 0, none⟩) 2 2, [f0, f1], 9⟩ := ⟨_, rfl⟩
  refine bld_s [.slice (some ⟨b5, 0, none⟩) 1 1, .slice (some ⟨b12, 0, none⟩) 2 2, .int .i64 9] (by kernel_rfl) ?_
  have hxc : [.slice (some ⟨b5, 0, none⟩) 1 1, .slice (some ⟨b12, 0, none⟩) 2 2, .int .i64 9] = x.cs := by rw [hx]; rfl
  rw [zero_25]
  refine al_s (cs := [.slice none 0 0, .slice none 0 0, .int .i64 0]) h5 rfl fun t1 w6 h6 => ?_
  refine stN_at h6 0 rfl (vs := [.slice (some ⟨b5, 0, none⟩) 1 1, .slice (some ⟨b12, 0, none⟩) 2 2, .int .i64 9]) rfl rfl (by simp) (by simp [flat]) (cs' := [.slice (some ⟨b5, 0, none⟩) 1 1, .slice (some ⟨b12, 0, none⟩) 2 2, .int .i64 9]) (by rfl) fun w7 h7 => ?_
  refine ldN_at h7 0 (vs := [.slice (some ⟨b5, 0, none⟩) 1 1, .slice (some ⟨b12, 0, none⟩) 2 2, .int .i64 9]) rfl (by rfl) rfl ?_
  rw [hxc]
  have h8 : Sat e w7 (sepL [blk b12 53 ([f0, f1].flatMap FedX.cs), blk b10 3 (ints [0]), blk b8 63 (⟨0, 4, 2⟩ : Out).cs, blk b6 3 (ints [0]), blk b5 3 (ints [-1])] :: Q) := Sat.join (l' := [_, _, _, _, _]) h7.drop
  have hrd : ∀ g, sepL [blk b12 53 ([f0, f1].flatMap FedX.cs), blk b10 3 (ints [0]), blk b8 63 (⟨0, 4, 2⟩ : Out).cs, blk b6 3 (ints [0]), blk b5 3 (ints [-1])] g → RdWd x g := by
    intro g hg
    obtain ⟨g0, k0, s0⟩ := sepL_get (i := 0) hg rfl
    obtain ⟨g1, k1, s1⟩ := sepL_get (i := 1) hg rfl
    obtain ⟨g2, k2, s2⟩ := sepL_get (i := 2) hg rfl
    obtain ⟨g3, k3, s3⟩ := sepL_get (i := 3) hg rfl
    obtain ⟨g4, k4, s4⟩ := sepL_get (i := 4) hg rfl
    have nilR : ∀ {α : Type} (size : Nat) (f : α → List Value), rdS size f (.slice none 0 0) [] g := fun _ _ => ⟨none, 0, rfl, Nat.le_refl _, fun h => absurd h (by simp)⟩
    subst hx
    refine ⟨rdS_up s4 (blk_rdn (f := intsK .i64) [-1] rfl (Nat.le_refl _) g4 k4), rdS_up s0 (blk_rdn (f := FedX.cs) [f0, f1] rfl (Nat.le_refl _) g0 k0), fun f hf => ?_⟩
    simp only [List.mem_cons, List.not_mem_nil, or_false] at hf
    rcases hf with rfl | rfl
    · subst hf0
      exact ⟨⟨nilR _ _, by simp⟩, rdS_up s3 (blk_rdn (f := intsK .i64) [0] rfl (Nat.le_refl _) g3 k3), nilR _ _, rdS_up s2 (blk_rdn (f := Out.cs) [⟨0, 4, 2⟩] rfl (Nat.le_refl _) g2 k2)⟩
    · subst hf1
      exact ⟨⟨nilR _ _, by simp⟩, nilR _ _, rdS_up s1 (blk_rdn (f := intsK .i64) [0] rfl (Nat.le_refl _) g1 k1), nilR _ _⟩
  have hxw : x.w = w0 := by rw [hx, hf0, hf1]; rfl
  have hwf : x.wf := by
    rw [hx, hf0, hf1]
    refine ⟨by simp [i64, Lit.wf]; decide, fun f hf => ?_, rfl⟩
    simp only [List.mem_cons, List.not_mem_nil, or_false] at hf
    rcases hf with rfl | rfl
    · refine ⟨rfl, rfl, rfl, by simp, ?_, by simp, ?_⟩
      · intro n hn; simp at hn; subst hn; unfold i64; decide
      · intro o ho; simp at ho; subst ho; exact ⟨rfl, rfl, rfl⟩
    · refine ⟨rfl, rfl, rfl, by simp, by simp, ?_, by simp⟩
      intro n hn; simp at hn; subst hn; unfold i64; decide
  have hsh : x.short := by
    rw [hx, hf0, hf1]
    refine ⟨by simp, by simp, fun f hf => ?_⟩
    simp only [List.mem_cons, List.not_mem_nil, or_false] at hf
    rcases hf with rfl | rfl
    · exact ⟨by simp, by simp, by simp, by simp, by simp⟩
    · exact ⟨by simp, by simp, by simp, by simp, by simp⟩
  refine solo_New_s 0 rfl h8 hrd hwf hsh (fun h => absurd (by rw [hxw, w0_ok]) h) fun _ r w9 h9 => ?_
  rw [hxw] at h9
  repeat (first | refine gd_tt ?_ | refine gd_ff ?_ | refine gd_tf ?_ | refine gd_ft ?_ | refine gd_u ?_ | refine pk_t ?_ | refine pk_f ?_ | refine iff_t ?_ | refine iff_f ?_ | refine not_t ?_ | refine not_f ?_ | refine beq_s ?_ | refine bne_s ?_ | refine ncP_p ?_ | refine nc_p ?_ | refine fld_at ?_ | refine xt_02 ?_ | refine xt_12 ?_ | refine xt_03 ?_ | refine xt_13 ?_ | refine xt_23 ?_ | refine eq_t (by omega) ?_ | refine eq_f (by omega) ?_ | refine ne_t (by omega) ?_ | refine ne_f (by omega) ?_ | refine lt_t (by omega) ?_ | refine lt_f (by omega) ?_ | refine gt_t (by omega) ?_ | refine gt_f (by omega) ?_ | refine ge_t (by omega) ?_ | refine ge_f (by omega) ?_ | refine le_t (by omega) ?_ | refine le_f (by omega) ?_)
  refine bnp_s _ ?_
  repeat (first | refine gd_tt ?_ | refine gd_ff ?_ | refine gd_tf ?_ | refine gd_ft ?_ | refine gd_u ?_ | refine pk_t ?_ | refine pk_f ?_ | refine iff_t ?_ | refine iff_f ?_ | refine not_t ?_ | refine not_f ?_ | refine beq_s ?_ | refine bne_s ?_ | refine ncP_p ?_ | refine nc_p ?_ | refine fld_at ?_ | refine xt_02 ?_ | refine xt_12 ?_ | refine xt_03 ?_ | refine xt_13 ?_ | refine xt_23 ?_ | refine eq_t (by omega) ?_ | refine eq_f (by omega) ?_ | refine ne_t (by omega) ?_ | refine ne_f (by omega) ?_ | refine lt_t (by omega) ?_ | refine lt_f (by omega) ?_ | refine gt_t (by omega) ?_ | refine gt_f (by omega) ?_ | refine ge_t (by omega) ?_ | refine ge_f (by omega) ?_ | refine le_t (by omega) ?_ | refine le_f (by omega) ?_)
  refine solo_Steps_s (n := 5) (by decide) h9 fun w10 h10 _ => ?_
  rw [show (stepsR w0 5 (initR w0)).1 = 1 from by kernel_rfl] at h10 ⊢
  repeat (first | refine gd_tt ?_ | refine gd_ff ?_ | refine gd_tf ?_ | refine gd_ft ?_ | refine gd_u ?_ | refine pk_t ?_ | refine pk_f ?_ | refine iff_t ?_ | refine iff_f ?_ | refine not_t ?_ | refine not_f ?_ | refine beq_s ?_ | refine bne_s ?_ | refine ncP_p ?_ | refine nc_p ?_ | refine fld_at ?_ | refine xt_02 ?_ | refine xt_12 ?_ | refine xt_03 ?_ | refine xt_13 ?_ | refine xt_23 ?_ | refine eq_t (by omega) ?_ | refine eq_f (by omega) ?_ | refine ne_t (by omega) ?_ | refine ne_f (by omega) ?_ | refine lt_t (by omega) ?_ | refine lt_f (by omega) ?_ | refine gt_t (by omega) ?_ | refine gt_f (by omega) ?_ | refine ge_t (by omega) ?_ | refine ge_f (by omega) ?_ | refine le_t (by omega) ?_ | refine le_f (by omega) ?_)
  refine solo_Log_s (by decide) h10 fun lv w11 h11 => ?_
  rw [show logR (stepsR w0 5 (initR w0)).2 1 = [⟨⟨⟨4, 0, 0⟩, 1, 0, 2⟩, 3⟩] from by kernel_rfl] at h11
  refine lnS_rd h11 0 rfl (fun g hg => own_rd hg) ?_
  refine eq_t (by simp) ?_
  repeat (first | refine gd_tt ?_ | refine gd_ff ?_ | refine gd_tf ?_ | refine gd_ft ?_ | refine gd_u ?_ | refine pk_t ?_ | refine pk_f ?_ | refine iff_t ?_ | refine iff_f ?_ | refine not_t ?_ | refine not_f ?_ | refine beq_s ?_ | refine bne_s ?_ | refine ncP_p ?_ | refine nc_p ?_ | refine fld_at ?_ | refine xt_02 ?_ | refine xt_12 ?_ | refine xt_03 ?_ | refine xt_13 ?_ | refine xt_23 ?_ | refine eq_t (by omega) ?_ | refine eq_f (by omega) ?_ | refine ne_t (by omega) ?_ | refine ne_f (by omega) ?_ | refine lt_t (by omega) ?_ | refine lt_f (by omega) ?_ | refine gt_t (by omega) ?_ | refine gt_f (by omega) ?_ | refine ge_t (by omega) ?_ | refine ge_f (by omega) ?_ | refine le_t (by omega) ?_ | refine le_f (by omega) ?_)
  refine ixS_rd (j := 0) h11 0 rfl (fun g hg => own_rd hg) (fun _ => rfl) rfl fun p hp => ?_
  refine gd_tt (fld_of hp fun p1 hp1 => gd_tt ?_)
  refine ld1_of h11 0 rfl hp1 (v := .int .i64 3) rfl ?_
  repeat (first | refine gd_tt ?_ | refine gd_ff ?_ | refine gd_tf ?_ | refine gd_ft ?_ | refine gd_u ?_ | refine pk_t ?_ | refine pk_f ?_ | refine iff_t ?_ | refine iff_f ?_ | refine not_t ?_ | refine not_f ?_ | refine beq_s ?_ | refine bne_s ?_ | refine ncP_p ?_ | refine nc_p ?_ | refine fld_at ?_ | refine xt_02 ?_ | refine xt_12 ?_ | refine xt_03 ?_ | refine xt_13 ?_ | refine xt_23 ?_ | refine eq_t (by omega) ?_ | refine eq_f (by omega) ?_ | refine ne_t (by omega) ?_ | refine ne_f (by omega) ?_ | refine lt_t (by omega) ?_ | refine lt_f (by omega) ?_ | refine gt_t (by omega) ?_ | refine gt_f (by omega) ?_ | refine ge_t (by omega) ?_ | refine ge_f (by omega) ?_ | refine le_t (by omega) ?_ | refine le_f (by omega) ?_)
  refine ixS_rd (j := 0) h11 0 rfl (fun g hg => own_rd hg) (fun _ => rfl) rfl fun p hp => ?_
  refine gd_tt (fld_of hp fun p1 hp1 => gd_tt (fld_of hp1 fun p2 hp2 => gd_tt (fld_of hp2 fun p3 hp3 => gd_tt ?_)))
  refine ld1_of h11 0 rfl hp3 (v := .int .i64 4) rfl ?_
  repeat (first | refine gd_tt ?_ | refine gd_ff ?_ | refine gd_tf ?_ | refine gd_ft ?_ | refine gd_u ?_ | refine pk_t ?_ | refine pk_f ?_ | refine iff_t ?_ | refine iff_f ?_ | refine not_t ?_ | refine not_f ?_ | refine beq_s ?_ | refine bne_s ?_ | refine ncP_p ?_ | refine nc_p ?_ | refine fld_at ?_ | refine xt_02 ?_ | refine xt_12 ?_ | refine xt_03 ?_ | refine xt_13 ?_ | refine xt_23 ?_ | refine eq_t (by omega) ?_ | refine eq_f (by omega) ?_ | refine ne_t (by omega) ?_ | refine ne_f (by omega) ?_ | refine lt_t (by omega) ?_ | refine lt_f (by omega) ?_ | refine gt_t (by omega) ?_ | refine gt_f (by omega) ?_ | refine ge_t (by omega) ?_ | refine ge_f (by omega) ?_ | refine le_t (by omega) ?_ | refine le_f (by omega) ?_)
  refine solo_State_s (h11.pick 1 rfl) ?_
  rw [show stR (stepsR w0 5 (initR w0)).2 1 = 3 from by kernel_rfl]
  repeat (first | refine gd_tt ?_ | refine gd_ff ?_ | refine gd_tf ?_ | refine gd_ft ?_ | refine gd_u ?_ | refine pk_t ?_ | refine pk_f ?_ | refine iff_t ?_ | refine iff_f ?_ | refine not_t ?_ | refine not_f ?_ | refine beq_s ?_ | refine bne_s ?_ | refine ncP_p ?_ | refine nc_p ?_ | refine fld_at ?_ | refine xt_02 ?_ | refine xt_12 ?_ | refine xt_03 ?_ | refine xt_13 ?_ | refine xt_23 ?_ | refine eq_t (by omega) ?_ | refine eq_f (by omega) ?_ | refine ne_t (by omega) ?_ | refine ne_f (by omega) ?_ | refine lt_t (by omega) ?_ | refine lt_f (by omega) ?_ | refine gt_t (by omega) ?_ | refine gt_f (by omega) ?_ | refine ge_t (by omega) ?_ | refine ge_f (by omega) ?_ | refine le_t (by omega) ?_ | refine le_f (by omega) ?_)
  exact hk _ h11.drop.drop.drop

/-! ### What a step brings -/
theorem next_facts {wd : Wd} (hw : WdOk wd) {R R' : RS} {k : Nat} {d : Done} (hR : RunOk wd R k) (h : nextR wd R = some (d, R')) : d.m ∈ R.wait ∧ d.m.key.T < wd.End ∧ ∀ m ∈ R'.wait, MLt d.m m := by
  obtain ⟨m, rest, f, a, hwait, hT, hf, ha, heq⟩ := nextR_some h
  have hd : d = ⟨m, (stepR f.Rules a.st m.Class).1⟩ := congrArg Prod.fst heq
  have hR' := runOk_next hw hR h
  have hfe : R'.feds[m.To.toNat]? = some ⟨(stepR f.Rules a.st m.Class).1, a.sent + (stepR f.Rules a.st m.Class).2.length, a.log ++ [d]⟩ := by
    have h2 : R' = (takeM wd f a m rest R).2 := congrArg Prod.snd heq
    rw [h2, hd]
    exact List.getElem?_set_self (List.getElem?_eq_some_iff.1 ha).1
  refine ⟨by rw [hd, hwait]; simp, by rw [hd]; exact hT, ?_⟩
  exact (hR'.logs _ _ hfe d (by simp)).2.1
theorem MLt.time {a b : Msg} (h : MLt a b) : a.key.T ≤ b.key.T := by
  rcases h with h | h
  · unfold KeyLt at h; omega
  · rw [h.1]; omega
end Go.Proofs.Ytfcnjbannejchaa
