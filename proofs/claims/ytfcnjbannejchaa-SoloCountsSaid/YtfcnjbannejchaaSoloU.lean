/- The law SoloEnds. Conditions: none. -/
import Derived.Test.YtfcnjbannejchaaSoloT
namespace Go.Proofs.Ytfcnjbannejchaa
open Go Go.E
set_option maxRecDepth 100000
variable {e w : World} {L Q : List HP} {K : KV} {S S2 : HP}

/-! ### Logs behind a step -/
theorem next_log {wd : Wd} {R R' : RS} {d : Done} (h : nextR wd R = some (d, R')) (g : Nat) (h0 : 0 ≤ d.m.To) : logR R' g = logR R g ++ if d.m.To = g then [d] else [] := by
  obtain ⟨m, rest, f, a, hwait, hT, hf, ha, heq⟩ := nextR_some h
  have hd : d = (takeM wd f a m rest R).1 := congrArg Prod.fst heq
  have hR : R' = (takeM wd f a m rest R).2 := congrArg Prod.snd heq
  have hdm : d.m = m := by rw [hd]; rfl
  have hfe : R'.feds = R.feds.set m.To.toNat ⟨(stepR f.Rules a.st m.Class).1, a.sent + (stepR f.Rules a.st m.Class).2.length, a.log ++ [d]⟩ := by rw [hR, hd]; rfl
  unfold logR
  rw [if_pos (by omega), if_pos (by omega), Int.toNat_natCast, hfe, hdm]
  rw [hdm] at h0
  by_cases hg : m.To = g
  · have e1 : m.To.toNat = g := by omega
    rw [if_pos hg, e1, List.getElem?_set_self (by rw [← e1]; exact (List.getElem?_eq_some_iff.1 ha).1)]
    rw [e1] at ha
    rw [ha]
    rfl
  · rw [if_neg hg, List.append_nil, List.getElem?_set_ne (by omega)]
/-- All that comes later is not ahead of t. -/
theorem steps_later {wd : Wd} (hw : WdOk wd) (t : Int) (g : Nat) : ∀ (n : Nat) {R : RS} {k : Nat}, RunOk wd R k → (∀ m ∈ R.wait, t ≤ m.key.T) → ∃ ext, logR (stepsR wd n R).2 g = logR R g ++ ext ∧ ∀ d ∈ ext, t ≤ d.m.key.T
  | 0, R, k, _, _ => ⟨[], by simp [stepsR], by simp⟩
  | n + 1, R, k, hR, ht => by
    rw [stepsR_succ]
    cases hx : nextR wd R with
    | none => exact ⟨[], by simp, by simp⟩
    | some x =>
      obtain ⟨f1, f2, f3⟩ := next_facts hw hR (d := x.1) (R' := x.2) hx
      have hlog := next_log (d := x.1) (R' := x.2) hx g (hR.to _ f1).1
      have htd := ht _ f1
      obtain ⟨ext, h1, h2⟩ := steps_later hw t g n (runOk_next hw hR (d := x.1) (R' := x.2) hx) fun m hm => by
        have := (f3 m hm).time
        omega
      refine ⟨(if x.1.m.To = g then [x.1] else []) ++ ext, ?_, fun d hd => ?_⟩
      · show logR (stepsR wd n x.2).2 g = _
        rw [h1, hlog, List.append_assoc]
      · rcases List.mem_append.1 hd with hd | hd
        · split at hd
          · rw [List.mem_singleton.1 hd]; exact htd
          · cases hd
        · exact h2 d hd
/-- A federation that ends earlier. -/
def endAt (wd : Wd) (t : Int) : Wd := ⟨wd.Parents, wd.Feds, t⟩
theorem steps_ends {wd : Wd} (hw : WdOk wd) {t : Int} (ht : t ≤ wd.End) (hw2 : WdOk (endAt wd t)) (g : Nat) : ∀ (n : Nat) {R : RS} {k : Nat}, RunOk wd R k → RunOk (endAt wd t) R k → (stepsR wd n R).1 < n → (stepsR (endAt wd t) n R).1 < n →
    ∃ ext, logR (stepsR wd n R).2 g = logR (stepsR (endAt wd t) n R).2 g ++ ext ∧ (∀ d ∈ logR (stepsR (endAt wd t) n R).2 g, d.m.key.T < t) ∧ ∀ d ∈ ext, t ≤ d.m.key.T
  | 0, R, k, _, _, h, _ => by omega
  | n + 1, R, k, hR, hR2, h1, h2 => by
    have hself : ∀ d ∈ logR R g, d.m.key.T < t := by
      intro d hd
      unfold logR at hd
      rw [if_pos (by omega), Int.toNat_natCast] at hd
      cases hf : R.feds[g]? with
      | none => rw [hf] at hd; simp at hd
      | some a =>
        rw [hf] at hd
        exact (hR2.logs g a hf d hd).2.2
    rw [stepsR_succ] at h1 h2 ⊢
    rw [stepsR_succ (endAt wd t)]
    cases hx : nextR wd R with
    | none =>
      have hy : nextR (endAt wd t) R = none := by
        cases hy : nextR (endAt wd t) R with
        | none => rfl
        | some y =>
          obtain ⟨m, rest, f, a, hwait, hT, hf, ha, heq⟩ := nextR_some (d := y.1) (R' := y.2) hy
          have hT' : m.key.T < t := hT
          rw [nextR_take (wd := wd) hwait (by omega) hf ha] at hx
          cases hx
      rw [hy]
      exact ⟨[], by simp, hself, by simp⟩
    | some x =>
      rw [hx] at h1
      obtain ⟨m, rest, f, a, hwait, hT, hf, ha, heq⟩ := nextR_some (d := x.1) (R' := x.2) hx
      by_cases hmt : m.key.T < t
      · have hy : nextR (endAt wd t) R = some x := by
          rw [nextR_take (wd := endAt wd t) hwait hmt hf ha]
          exact congrArg some heq.symm
        rw [hy] at h2
        rw [hy]
        exact steps_ends hw ht hw2 g n (runOk_next hw hR (d := x.1) (R' := x.2) hx) (runOk_next hw2 hR2 (d := x.1) (R' := x.2) hy) (by simpa using h1) (by simpa using h2)
      · have hy : nextR (endAt wd t) R = none := nextR_none (.inr ⟨m, rest, hwait, by show t ≤ _; omega⟩)
        rw [hy]
        have hs := hR.sorted
        rw [hwait] at hs
        obtain ⟨ext, k1, k2⟩ := steps_later hw t g (n + 1) hR (fun y hy => by
          rw [hwait] at hy
          rcases List.mem_cons.1 hy with rfl | hy
          · omega
          · have := ((List.pairwise_cons.1 hs).1 y hy).time
            omega)
        rw [stepsR_succ, hx] at k1
        exact ⟨ext, k1, hself, k2⟩
theorem init_end (wd : Wd) (t : Int) : initR (endAt wd t) = initR wd := rfl
theorem check_end {wd : Wd} {t : Int} (h : (checkW wd).2 = 0) (ht : 0 ≤ t ∧ t ≤ wd.End) : (checkW (endAt wd t)).2 = 0 := by
  have hE := (checkW_ok h).en
  have e : checkW (endAt wd t) = if treeE wd.Parents ≠ 0 then (-1, treeE wd.Parents) else if ¬ ((0 ≤ t ∧ t ≤ 1099511627776) ∧ 1 ≤ (wd.Feds.length : Int) ∧ (wd.Feds.length : Int) ≤ 8) then (-1, 1) else fedsE wd.Parents.length 0 wd.Feds := rfl
  rw [e]
  unfold checkW at h
  split at h
  · rename_i h1; exact absurd h h1
  · rename_i h1
    rw [if_neg h1]
    split at h
    · cases h
    · rename_i h2
      have h2 := Classical.not_not.1 h2
      rw [if_neg (fun k => k ⟨⟨ht.1, by omega⟩, h2.2⟩)]
      exact h

theorem soloEnds_s {x : WdX} {a : Int} (hS : Sat e w (S :: Q)) (hr : ∀ g, S g → RdWd x g) (hwf : x.wf) (ha : (Lit.int .u8 a).wf = true) (hk : ∀ w', Sat e w' (S :: Q) → K (.bool true) w') :
    Cl prog 5 #[.agg x.cs.toArray, .int .u8 a] w K := by
  have ha' := wf8s ha
  refine pacelinelaw09_SoloEnds_calls ?_
  unfold pacelinelaw09_SoloEnds
  have hflat := wd_cells 0 rfl hS hr
  refine al_s (cs := x.cs) hS rfl fun b w1 h1 => ?_
  refine ldN_at h1 0 (vs := x.cs) rfl (by rfl) rfl ?_
  refine small_s (x := x) 1 rfl h1 hr fun w2 q h2 hq => ?_
  cases q with
  | false =>
    refine not_f ?_
    repeat (first | refine gd_tt ?_ | refine gd_ff ?_ | refine gd_tf ?_ | refine gd_ft ?_ | refine gd_u ?_ | refine pk_t ?_ | refine pk_f ?_ | refine iff_t ?_ | refine iff_f ?_ | refine not_t ?_ | refine not_f ?_ | refine beq_s ?_ | refine bne_s ?_ | refine ncP_p ?_ | refine nc_p ?_ | refine fld_at ?_ | refine xt_02 ?_ | refine xt_12 ?_ | refine xt_03 ?_ | refine xt_13 ?_ | refine xt_23 ?_ | refine eq_t (by omega) ?_ | refine eq_f (by omega) ?_ | refine ne_t (by omega) ?_ | refine ne_f (by omega) ?_ | refine lt_t (by omega) ?_ | refine lt_f (by omega) ?_ | refine gt_t (by omega) ?_ | refine gt_f (by omega) ?_ | refine ge_t (by omega) ?_ | refine ge_f (by omega) ?_ | refine le_t (by omega) ?_ | refine le_f (by omega) ?_)
    exact shown_s h2 fun w3 h3 => hk _ h3.drop
  | true =>
    have hs := hq rfl
    refine not_t ?_
    repeat (first | refine gd_tt ?_ | refine gd_ff ?_ | refine gd_tf ?_ | refine gd_ft ?_ | refine gd_u ?_ | refine pk_t ?_ | refine pk_f ?_ | refine iff_t ?_ | refine iff_f ?_ | refine not_t ?_ | refine not_f ?_ | refine beq_s ?_ | refine bne_s ?_ | refine ncP_p ?_ | refine nc_p ?_ | refine fld_at ?_ | refine xt_02 ?_ | refine xt_12 ?_ | refine xt_03 ?_ | refine xt_13 ?_ | refine xt_23 ?_ | refine eq_t (by omega) ?_ | refine eq_f (by omega) ?_ | refine ne_t (by omega) ?_ | refine ne_f (by omega) ?_ | refine lt_t (by omega) ?_ | refine lt_f (by omega) ?_ | refine gt_t (by omega) ?_ | refine gt_f (by omega) ?_ | refine ge_t (by omega) ?_ | refine ge_f (by omega) ?_ | refine le_t (by omega) ?_ | refine le_f (by omega) ?_)
    refine ld1_at h2 0 rfl (v := .int .i64 x.End) rfl ?_
    refine gd_ff (gt_c (fun c60 => pk_f (iff_t ?_)) (fun c60 => pk_f (iff_f ?_)))
    · exact shown_s h2 fun w3 h3 => hk _ h3.drop
    refine ldN_at h2 0 (vs := x.cs) rfl (by rfl) rfl ?_
    refine solo_New_s (x := x) 1 rfl h2 hr hwf hs (fun hbad w3 h3 => ?_) (fun hok r w3 h3 => ?_)
    · refine xt_02 (xt_12 ?_)
      refine ldN_at h3 0 (vs := x.cs) rfl (by rfl) rfl ?_
      refine ref08_Check_s (x := x) 1 rfl h3 hr hs fun w4 h4 => ?_
      refine xt_02 (xt_12 (ne_f rfl (gd_ff (shown_s h4 fun w5 h5 => ?_))))
      repeat (first | refine gd_tt ?_ | refine gd_ff ?_ | refine gd_tf ?_ | refine gd_ft ?_ | refine gd_u ?_ | refine pk_t ?_ | refine pk_f ?_ | refine iff_t ?_ | refine iff_f ?_ | refine not_t ?_ | refine not_f ?_ | refine beq_s ?_ | refine bne_s ?_ | refine ncP_p ?_ | refine nc_p ?_ | refine fld_at ?_ | refine xt_02 ?_ | refine xt_12 ?_ | refine xt_03 ?_ | refine xt_13 ?_ | refine xt_23 ?_ | refine eq_t (by omega) ?_ | refine eq_f (by omega) ?_ | refine ne_t (by omega) ?_ | refine ne_f (by omega) ?_ | refine lt_t (by omega) ?_ | refine lt_f (by omega) ?_ | refine gt_t (by omega) ?_ | refine gt_f (by omega) ?_ | refine ge_t (by omega) ?_ | refine ge_f (by omega) ?_ | refine le_t (by omega) ?_ | refine le_f (by omega) ?_)
      refine bnp_n ?_
      exact hk _ h5.drop
    · refine xt_02 (xt_12 ?_)
      refine ldN_at h3 1 (vs := x.cs) rfl (by rfl) rfl ?_
      refine ref08_Check_s (x := x) 2 rfl h3 hr hs fun w4 h4 => ?_
      rw [hok]
      refine xt_02 (xt_12 (ne_f rfl (gd_ff (shown_s h4 fun w5 h5 => ?_))))
      repeat (first | refine gd_tt ?_ | refine gd_ff ?_ | refine gd_tf ?_ | refine gd_ft ?_ | refine gd_u ?_ | refine pk_t ?_ | refine pk_f ?_ | refine iff_t ?_ | refine iff_f ?_ | refine not_t ?_ | refine not_f ?_ | refine beq_s ?_ | refine bne_s ?_ | refine ncP_p ?_ | refine nc_p ?_ | refine fld_at ?_ | refine xt_02 ?_ | refine xt_12 ?_ | refine xt_03 ?_ | refine xt_13 ?_ | refine xt_23 ?_ | refine eq_t (by omega) ?_ | refine eq_f (by omega) ?_ | refine ne_t (by omega) ?_ | refine ne_f (by omega) ?_ | refine lt_t (by omega) ?_ | refine lt_f (by omega) ?_ | refine gt_t (by omega) ?_ | refine gt_f (by omega) ?_ | refine ge_t (by omega) ?_ | refine ge_f (by omega) ?_ | refine le_t (by omega) ?_ | refine le_f (by omega) ?_)
      have hwd := checkW_ok hok
      refine ldN_at h5 1 (vs := x.cs) rfl (by rfl) rfl ?_
      rw [zero_25]
      refine al_s (cs := [.slice none 0 0, .slice none 0 0, .int .i64 0]) h5 rfl fun c w6 h6 => ?_
      refine stN_at h6 0 rfl (vs := x.cs) rfl rfl (by simp) hflat (cs' := x.cs) (by rfl) fun w7 h7 => ?_
      repeat (first | refine gd_tt ?_ | refine gd_ff ?_ | refine gd_tf ?_ | refine gd_ft ?_ | refine gd_u ?_ | refine pk_t ?_ | refine pk_f ?_ | refine iff_t ?_ | refine iff_f ?_ | refine not_t ?_ | refine not_f ?_ | refine beq_s ?_ | refine bne_s ?_ | refine ncP_p ?_ | refine nc_p ?_ | refine fld_at ?_ | refine xt_02 ?_ | refine xt_12 ?_ | refine xt_03 ?_ | refine xt_13 ?_ | refine xt_23 ?_ | refine eq_t (by omega) ?_ | refine eq_f (by omega) ?_ | refine ne_t (by omega) ?_ | refine ne_f (by omega) ?_ | refine lt_t (by omega) ?_ | refine lt_f (by omega) ?_ | refine gt_t (by omega) ?_ | refine gt_f (by omega) ?_ | refine ge_t (by omega) ?_ | refine ge_f (by omega) ?_ | refine le_t (by omega) ?_ | refine le_f (by omega) ?_)
      refine ld1_at h7 2 rfl (v := .int .i64 x.End) rfl ?_
      refine cv_s ?_
      rw [wrap_i64 (by omega) (by omega)]
      refine rem_s (by decide) ?_
      rw [Int.tmod_eq_emod_of_nonneg (by omega)]
      refine min_s ?_
      obtain ⟨t, ht⟩ : ∃ t, min x.End (a % 60) = t := ⟨_, rfl⟩
      have hE0 : 0 ≤ x.End := hwd.en.1
      have ht0 : 0 ≤ t ∧ t ≤ x.End ∧ t < 60 := by omega
      rw [ht]
      obtain ⟨x2, hx2⟩ : ∃ x2 : WdX, x2 = ⟨x.pv, x.Parents, x.fv, x.Feds, t⟩ := ⟨_, rfl⟩
      refine fld_at (stN_at h7 0 rfl (vs := ints [t]) rfl rfl (Nat.le_of_ble_eq_true rfl) (ints_flat _) (cs' := x2.cs) (by rw [hx2]; rfl) fun w8 h8 => ?_)
      refine ldN_at h8 0 (vs := x2.cs) rfl (by rfl) rfl ?_
      have hr2 : ∀ g, S g → RdWd x2 g := fun g hg => by rw [hx2]; exact ⟨(hr g hg).par, (hr g hg).feds, (hr g hg).fed⟩
      have hwf2 : x2.wf := by
        rw [hx2]
        refine ⟨hwf.1, hwf.2.1, ?_⟩
        show (Lit.int .i64 t).wf = true
        simp only [Lit.wf, IntKind.min, IntKind.max, IntKind.signed, IntKind.bits]
        simp
        omega
      have hs2 : x2.short := by rw [hx2]; exact ⟨hs.feds, hs.par, hs.fed⟩
      have hx2w : x2.w = endAt x.w t := by rw [hx2]; rfl
      have hok2 : (checkW x2.w).2 = 0 := by rw [hx2w]; exact check_end hok ⟨ht0.1, ht0.2.1⟩
      have hwd2 : WdOk (endAt x.w t) := by rw [← hx2w]; exact checkW_ok hok2
      replace h8 : Sat e w8 (blk c 25 x2.cs :: IsSolo r x.w (initR x.w) 0 :: blk b 25 x.cs :: S :: Q) := h8
      refine solo_New_s (x := x2) 3 rfl h8 hr2 hwf2 hs2 (fun hbad => absurd hok2 hbad) (fun _ r2 w9 h9 => ?_)
      rw [hx2w, init_end] at h9
      refine xt_02 (xt_12 ?_)
      repeat (first | refine gd_tt ?_ | refine gd_ff ?_ | refine gd_tf ?_ | refine gd_ft ?_ | refine gd_u ?_ | refine pk_t ?_ | refine pk_f ?_ | refine iff_t ?_ | refine iff_f ?_ | refine not_t ?_ | refine not_f ?_ | refine beq_s ?_ | refine bne_s ?_ | refine ncP_p ?_ | refine nc_p ?_ | refine fld_at ?_ | refine xt_02 ?_ | refine xt_12 ?_ | refine xt_03 ?_ | refine xt_13 ?_ | refine xt_23 ?_ | refine eq_t (by omega) ?_ | refine eq_f (by omega) ?_ | refine ne_t (by omega) ?_ | refine ne_f (by omega) ?_ | refine lt_t (by omega) ?_ | refine lt_f (by omega) ?_ | refine gt_t (by omega) ?_ | refine gt_f (by omega) ?_ | refine ge_t (by omega) ?_ | refine ge_f (by omega) ?_ | refine le_t (by omega) ?_ | refine le_f (by omega) ?_)
      refine solo_Steps_s (n := 80) (by decide) (h9.pick 2 rfl) fun w10 h10 hle1 => ?_
      refine solo_Steps_s (n := 80) (by decide) (h10.pick 1 rfl) fun w11 h11 hle2 => ?_
      refine eq_c (fun c1 => ?_) (fun c1 => gd_ff (gd_ff (eq_c (fun c2 => ?_) (fun c2 => ?_))))
      · repeat (first | refine gd_tt ?_ | refine gd_ff ?_ | refine gd_tf ?_ | refine gd_ft ?_ | refine gd_u ?_ | refine pk_t ?_ | refine pk_f ?_ | refine iff_t ?_ | refine iff_f ?_ | refine not_t ?_ | refine not_f ?_ | refine beq_s ?_ | refine bne_s ?_ | refine ncP_p ?_ | refine nc_p ?_ | refine fld_at ?_ | refine xt_02 ?_ | refine xt_12 ?_ | refine xt_03 ?_ | refine xt_13 ?_ | refine xt_23 ?_ | refine eq_t (by omega) ?_ | refine eq_f (by omega) ?_ | refine ne_t (by omega) ?_ | refine ne_f (by omega) ?_ | refine lt_t (by omega) ?_ | refine lt_f (by omega) ?_ | refine gt_t (by omega) ?_ | refine gt_f (by omega) ?_ | refine ge_t (by omega) ?_ | refine ge_f (by omega) ?_ | refine le_t (by omega) ?_ | refine le_f (by omega) ?_)
        exact hk _ (h11.selR [_, _, _, _, _] [_] [4] (by decide) rfl)
      · repeat (first | refine gd_tt ?_ | refine gd_ff ?_ | refine gd_tf ?_ | refine gd_ft ?_ | refine gd_u ?_ | refine pk_t ?_ | refine pk_f ?_ | refine iff_t ?_ | refine iff_f ?_ | refine not_t ?_ | refine not_f ?_ | refine beq_s ?_ | refine bne_s ?_ | refine ncP_p ?_ | refine nc_p ?_ | refine fld_at ?_ | refine xt_02 ?_ | refine xt_12 ?_ | refine xt_03 ?_ | refine xt_13 ?_ | refine xt_23 ?_ | refine eq_t (by omega) ?_ | refine eq_f (by omega) ?_ | refine ne_t (by omega) ?_ | refine ne_f (by omega) ?_ | refine lt_t (by omega) ?_ | refine lt_f (by omega) ?_ | refine gt_t (by omega) ?_ | refine gt_f (by omega) ?_ | refine ge_t (by omega) ?_ | refine ge_f (by omega) ?_ | refine le_t (by omega) ?_ | refine le_f (by omega) ?_)
        exact hk _ (h11.selR [_, _, _, _, _] [_] [4] (by decide) rfl)
      refine pk_f (iff_f ?_)
      have hall := fun g => steps_ends hwd ht0.2.1 hwd2 g 80 (runOk_init hwd) (by rw [← init_end x.w t]; exact runOk_init hwd2) (by omega) (by omega)
      have hru := runOk_steps hwd 80 (runOk_init hwd)
      generalize (stepsR x.w 80 (initR x.w)) = A at hall h11 hru c1 hle1
      generalize (stepsR (endAt x.w t) 80 (initR x.w)) = B at hall h11 c2 hle2
      replace h11 : Sat e w11 (IsSolo r2 (endAt x.w t) B.2 (0 + B.1) :: IsSolo r x.w A.2 (0 + A.1) :: blk c 25 x2.cs :: blk b 25 x.cs :: S :: Q) := h11
      have hfl := hs.feds
      refine lpi1 (fun q t14 w => ∃ f : Nat, f ≤ x.Feds.length ∧ t14 = .int .i64 f ∧ q = x.Feds.length - f ∧ Sat e w (IsSolo r2 (endAt x.w t) B.2 (0 + B.1) :: IsSolo r x.w A.2 (0 + A.1) :: blk c 25 x2.cs :: blk b 25 x.cs :: S :: Q)) x.Feds.length ⟨0, Nat.zero_le _, rfl, rfl, h11⟩ ?_
      rintro q _ w g1 ⟨f, hf, rfl, rfl, h12⟩ hg1
      refine fld_at (ld1_at h12 3 rfl (v := x.fv) rfl ?_)
      refine lnS_rd h12 4 rfl (fun g hg => (hr g hg).feds) ?_
      refine lt_c (fun c3 => iff_t ?_) (fun c3 => iff_f (hk _ (h12.selR [_, _, _, _, _] [_] [4] (by decide) rfl)))
      refine solo_Log_s (by omega) (h12.pick 1 rfl) fun pv w13 h13 => ?_
      refine solo_Log_s (by omega) (h13.pick 2 rfl) fun qv w14 h14 => ?_
      obtain ⟨ext, e1, e2, e3⟩ := hall f
      have hlen := log_len hru.1 (f : Int)
      rw [e1] at h14 hlen
      generalize hq : logR B.2 f = q at h14 e2 hlen
      replace h14 : Sat e w14 (ownS 39 7 Done.cs qv q :: ownS 39 7 Done.cs pv (q ++ ext) :: IsSolo r2 (endAt x.w t) B.2 (0 + B.1) :: IsSolo r x.w A.2 (0 + A.1) :: blk c 25 x2.cs :: blk b 25 x.cs :: S :: Q) := h14.selR [_, _, _, _, _, _, _] [_, _, _, _, _, _, _] [0, 2, 1, 3, 4, 5, 6] (by decide) rfl
      refine lpi1 (fun n t17 w => ∃ j : Nat, j ≤ (q ++ ext).length ∧ t17 = .int .i64 j ∧ n = (q ++ ext).length - j ∧ Sat e w (ownS 39 7 Done.cs qv q :: ownS 39 7 Done.cs pv (q ++ ext) :: IsSolo r2 (endAt x.w t) B.2 (0 + B.1) :: IsSolo r x.w A.2 (0 + A.1) :: blk c 25 x2.cs :: blk b 25 x.cs :: S :: Q)) (q ++ ext).length ⟨0, Nat.zero_le _, rfl, rfl, h14⟩ ?_
      rintro n _ w g2 ⟨j, hj, rfl, rfl, h15⟩ hg2
      refine lnS_rd h15 1 rfl (fun g hg => own_rd hg) ?_
      refine lt_c (fun c4 => iff_t ?_) (fun c4 => iff_f ?_)
      · obtain ⟨y, hy⟩ := get_of_lt (l := q ++ ext) (j := j) (by omega)
        refine dr_s h15 fun w16 h16 => ?_
        have hnext : ∀ w', Sat e w' (ownS 39 7 Done.cs qv q :: ownS 39 7 Done.cs pv (q ++ ext) :: IsSolo r2 (endAt x.w t) B.2 (0 + B.1) :: IsSolo r x.w A.2 (0 + A.1) :: blk c 25 x2.cs :: blk b 25 x.cs :: S :: Q) → bi .add .i64 (.int .i64 j) (.int .i64 1) w' fun t91 w => g2 [t91] w := by
          intro w' h'
          refine inc_s (by omega) ?_
          exact hg2 _ _ _ (by omega) ⟨j + 1, by omega, rfl, rfl, h'⟩
        refine ixS_rd h16 1 rfl (fun g hg => own_rd hg) (fun _ => rfl) hy fun p hp => ?_
        refine fld_of hp fun p1 hp1 => fld_of hp1 fun p2 hp2 => fld_of hp2 fun p3 hp3 => ?_
        refine ld1_of h16 1 rfl hp3 (v := .int .i64 y.m.key.T) rfl ?_
        refine fld_at (ld1_at h16 4 rfl (v := .int .i64 t) (by rw [hx2]; rfl) ?_)
        by_cases hjq : j < q.length
        · have hyq : q[j]? = some y := by rw [List.getElem?_append_left hjq] at hy; exact hy
          have hT := e2 y (List.mem_of_getElem? hyq)
          refine lt_t hT ?_
          refine lnS_rd h16 0 rfl (fun g hg => own_rd hg) ?_
          refine lt_t (by omega) (bne_s ?_)
          rw [bne_self_eq_false]
          refine gd_ff (gd_ff (gd_ff (lnS_rd h16 0 rfl (fun g hg => own_rd hg) ?_)))
          refine gd_ff (lt_t (by omega) (gd_ff (gd_tt (gd_tt (gd_tt ?_)))))
          refine ixS_rd h16 1 rfl (fun g hg => own_rd hg) (fun _ => rfl) hy fun p hp => ?_
          refine gd_tt (ldN_of h16 1 rfl hp rfl (gd_tt (gd_tt (gd_tt ?_))))
          refine ixS_rd h16 0 rfl (fun g hg => own_rd hg) (fun _ => rfl) hyq fun p hp => ?_
          refine gd_tt (ldN_of h16 0 rfl hp rfl (gd_tt ?_))
          refine bO_ne (ns := y.ns) (ms := y.ns) eqT_39 agg_39 egt_39 (by decide) rfl ?_
          rw [Done.eq_ns, decide_eq_true rfl]
          exact gd_ff (pk_t (pk_f (iff_f (hnext _ h16))))
        · have hye : y ∈ ext := by
            rw [List.getElem?_append_right (by omega)] at hy
            exact List.mem_of_getElem? hy
          have hT := e3 y hye
          refine lt_f (by omega) ?_
          refine lnS_rd h16 0 rfl (fun g hg => own_rd hg) ?_
          refine lt_f (by omega) (bne_s ?_)
          rw [bne_self_eq_false]
          refine gd_ff (gd_ff (gd_ff (lnS_rd h16 0 rfl (fun g hg => own_rd hg) ?_)))
          refine gd_ff (lt_f (by omega) (gd_ff ?_))
          repeat (first | refine gd_tt ?_ | refine gd_ff ?_ | refine gd_tf ?_ | refine gd_ft ?_ | refine gd_u ?_ | refine pk_t ?_ | refine pk_f ?_ | refine iff_t ?_ | refine iff_f ?_ | refine not_t ?_ | refine not_f ?_ | refine beq_s ?_ | refine bne_s ?_ | refine ncP_p ?_ | refine nc_p ?_ | refine fld_at ?_ | refine xt_02 ?_ | refine xt_12 ?_ | refine xt_03 ?_ | refine xt_13 ?_ | refine xt_23 ?_ | refine eq_t (by omega) ?_ | refine eq_f (by omega) ?_ | refine ne_t (by omega) ?_ | refine ne_f (by omega) ?_ | refine lt_t (by omega) ?_ | refine lt_f (by omega) ?_ | refine gt_t (by omega) ?_ | refine gt_f (by omega) ?_ | refine ge_t (by omega) ?_ | refine ge_f (by omega) ?_ | refine le_t (by omega) ?_ | refine le_f (by omega) ?_)
          exact hnext _ h16
      · refine lnS_rd h15 0 rfl (fun g hg => own_rd hg) ?_
        refine lnS_rd h15 1 rfl (fun g hg => own_rd hg) ?_
        refine gt_f (by rw [List.length_append]; omega) (iff_f (inc_s (by omega) ?_))
        exact hg1 _ _ _ (by omega) ⟨f + 1, by omega, rfl, rfl, h15.drop.drop⟩
end Go.Proofs.Ytfcnjbannejchaa
