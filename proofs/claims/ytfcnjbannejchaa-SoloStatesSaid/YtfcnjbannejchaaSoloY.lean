/- The law SoloStates. Conditions: none. -/
import Derived.Test.YtfcnjbannejchaaSoloX
namespace Go.Proofs.Ytfcnjbannejchaa
open Go Go.E
set_option maxRecDepth 100000
variable {e w : World} {L Q : List HP} {K : KV} {S S2 : HP}

/-! ### States are what the rules come to -/
def stepped (l : List Rule) : Int → List Done → Int → Prop
  | s, [], z => s = z
  | s, d :: ds, z => d.st = (stepR l s d.m.Class).1 ∧ stepped l d.st ds z
theorem stepped_snoc {l : List Rule} {d : Done} : ∀ {ds : List Done} {s m : Int}, stepped l s ds m → d.st = (stepR l m d.m.Class).1 → stepped l s (ds ++ [d]) d.st
  | [], s, m, h, hd => by
    have h' : s = m := h
    subst h'
    exact ⟨hd, rfl⟩
  | y :: ds, s, m, h, hd => ⟨h.1, stepped_snoc h.2 hd⟩
def Stp (wd : Wd) (R : RS) : Prop := ∀ (i : Nat) f a, wd.Feds[i]? = some f → R.feds[i]? = some a → stepped f.Rules f.Start a.log a.st
theorem stp_init (wd : Wd) : Stp wd (initR wd) := by
  intro i f a hf ha
  unfold initR at ha
  simp only [List.getElem?_map, hf, Option.map_some, Option.some.injEq] at ha
  rw [← ha]
  exact rfl
theorem stp_next {wd : Wd} {R R' : RS} {d : Done} (hR : Stp wd R) (h : nextR wd R = some (d, R')) : Stp wd R' := by
  obtain ⟨m, rest, f, a, hwait, hT, hf, ha, heq⟩ := nextR_some h
  have hR' : R' = (takeM wd f a m rest R).2 := congrArg Prod.snd heq
  have hfe : R'.feds = R.feds.set m.To.toNat ⟨(stepR f.Rules a.st m.Class).1, a.sent + (stepR f.Rules a.st m.Class).2.length, a.log ++ [⟨m, (stepR f.Rules a.st m.Class).1⟩]⟩ := by rw [hR']; rfl
  intro i f' b hf' hb
  rw [hfe] at hb
  by_cases hi : m.To.toNat = i
  · subst hi
    rw [List.getElem?_set_self (List.getElem?_eq_some_iff.1 ha).1] at hb
    rw [hf] at hf'
    cases hf'
    cases hb
    exact stepped_snoc (hR _ _ _ hf ha) rfl
  · rw [List.getElem?_set_ne hi] at hb
    exact hR _ _ _ hf' hb
theorem stp_steps {wd : Wd} : ∀ (n : Nat) {R : RS}, Stp wd R → Stp wd (stepsR wd n R).2
  | 0, R, h => h
  | n + 1, R, h => by
    rw [stepsR_succ]
    cases hx : nextR wd R with
    | none => exact h
    | some x => exact stp_steps n (stp_next h (d := x.1) (R' := x.2) hx)

theorem soloStates_s {x : WdX} {a : Int} (hS : Sat e w (S :: Q)) (hr : ∀ g, S g → RdWd x g) (hwf : x.wf) (ha : (Lit.int .u8 a).wf = true) (hk : ∀ w', Sat e w' (S :: Q) → K (.bool true) w') :
    Cl prog 4 #[.agg x.cs.toArray, .int .u8 a] w K := by
  have ha' := wf8s ha
  refine pacelinelaw09_SoloStates_calls ?_
  unfold pacelinelaw09_SoloStates
  have hflat := wd_cells 0 rfl hS hr
  refine al_s (cs := x.cs) hS rfl fun b w1 h1 => ?_
  refine ldN_at h1 0 (vs := x.cs) rfl (by rfl) rfl ?_
  refine small_s (x := x) 1 rfl h1 hr fun w2 q h2 hq => ?_
  cases q with
  | false =>
    refine not_f (iff_t ?_)
    exact shown_s h2 fun w3 h3 => hk _ h3.drop
  | true =>
    have hs := hq rfl
    refine not_t (iff_f ?_)
    refine ldN_at h2 0 (vs := x.cs) rfl (by rfl) rfl ?_
    refine solo_New_s (x := x) 1 rfl h2 hr hwf hs (fun hbad w3 h3 => ?_) (fun hok r w3 h3 => ?_)
    · refine xt_02 (xt_12 ?_)
      refine ldN_at h3 0 (vs := x.cs) rfl (by rfl) rfl ?_
      refine ref09_New_s (x := x) 1 rfl h3 hr hs (fun _ w4 h4 => ?_) (fun hok _ _ _ => absurd hok hbad)
      refine xt_02 (xt_12 (ne_f rfl (gd_ff (shown_s h4 fun w5 h5 => ?_))))
      repeat (first | refine gd_tt ?_ | refine gd_ff ?_ | refine gd_tf ?_ | refine gd_ft ?_ | refine gd_u ?_ | refine pk_t ?_ | refine pk_f ?_ | refine iff_t ?_ | refine iff_f ?_ | refine not_t ?_ | refine not_f ?_ | refine beq_s ?_ | refine bne_s ?_ | refine ncP_p ?_ | refine nc_p ?_ | refine fld_at ?_ | refine xt_02 ?_ | refine xt_12 ?_ | refine xt_03 ?_ | refine xt_13 ?_ | refine xt_23 ?_ | refine eq_t (by omega) ?_ | refine eq_f (by omega) ?_ | refine ne_t (by omega) ?_ | refine ne_f (by omega) ?_ | refine lt_t (by omega) ?_ | refine lt_f (by omega) ?_ | refine gt_t (by omega) ?_ | refine gt_f (by omega) ?_ | refine ge_t (by omega) ?_ | refine ge_f (by omega) ?_ | refine le_t (by omega) ?_ | refine le_f (by omega) ?_)
      exact hk _ h5.drop
    · refine xt_02 (xt_12 ?_)
      refine ldN_at h3 1 (vs := x.cs) rfl (by rfl) rfl ?_
      refine ref09_New_s (x := x) 2 rfl h3 hr hs (fun hbad => absurd hok hbad) (fun _ r2 w4 h4 => ?_)
      refine xt_02 (xt_12 (ne_f rfl (gd_ff (shown_s h4 fun w5 h5 => ?_))))
      repeat (first | refine gd_tt ?_ | refine gd_ff ?_ | refine gd_tf ?_ | refine gd_ft ?_ | refine gd_u ?_ | refine pk_t ?_ | refine pk_f ?_ | refine iff_t ?_ | refine iff_f ?_ | refine not_t ?_ | refine not_f ?_ | refine beq_s ?_ | refine bne_s ?_ | refine ncP_p ?_ | refine nc_p ?_ | refine fld_at ?_ | refine xt_02 ?_ | refine xt_12 ?_ | refine xt_03 ?_ | refine xt_13 ?_ | refine xt_23 ?_ | refine eq_t (by omega) ?_ | refine eq_f (by omega) ?_ | refine ne_t (by omega) ?_ | refine ne_f (by omega) ?_ | refine lt_t (by omega) ?_ | refine lt_f (by omega) ?_ | refine gt_t (by omega) ?_ | refine gt_f (by omega) ?_ | refine ge_t (by omega) ?_ | refine ge_f (by omega) ?_ | refine le_t (by omega) ?_ | refine le_f (by omega) ?_)
      obtain ⟨n, hn⟩ : ∃ n : Nat, a % 40 = n := ⟨(a % 40).toNat, by omega⟩
      have hn40 : n < 40 := by omega
      refine cv_s ?_
      rw [wrap_i64 (by omega) (by omega)]
      refine rem_s (by decide) ?_
      rw [Int.tmod_eq_emod_of_nonneg (by omega), hn]
      refine solo_Steps_s (n := n) (by omega) h5.swap fun w6 h6 hle1 => ?_
      refine cv_s ?_
      rw [wrap_i64 (by omega) (by omega)]
      refine rem_s (by decide) ?_
      rw [Int.tmod_eq_emod_of_nonneg (by omega), hn]
      refine ref09_Steps_s (x := x) (n := n) (by omega) 2 rfl h6.swap hr hs fun w7 h7 => ?_
      refine ne_f rfl (iff_f ?_)
      have hstp := stp_steps n (stp_init x.w)
      generalize (stepsR x.w n (initR x.w)) = A at hstp h7 hle1
      obtain ⟨X, hX, _⟩ := solo_of (h7.pick 1 rfl)
      have hru := hX.run
      clear hX
      have hfl : x.Feds.length ≤ 1000 := hs.feds
      have hwl : x.w.Feds.length = x.Feds.length := by simp [WdX.w]
      refine lpi1 (fun q t9 w => ∃ f : Nat, f ≤ x.Feds.length ∧ t9 = .int .i64 f ∧ q = x.Feds.length - f ∧ Sat e w (IsSolo r x.w A.2 (0 + A.1) :: IsRef r2 x A.2 (0 + A.1) :: blk b 25 x.cs :: S :: Q)) x.Feds.length ⟨0, Nat.zero_le _, rfl, rfl, h7.swap⟩ ?_
      rintro q _ w g1 ⟨f, hf, rfl, rfl, h8⟩ hg1
      refine fld_at (ld1_at h8 2 rfl (v := x.fv) rfl ?_)
      refine lnS_rd h8 3 rfl (fun g hg => (hr g hg).feds) ?_
      refine lt_c (fun c2 => iff_t ?_) (fun c2 => iff_f (hk _ h8.drop.drop.drop))
      obtain ⟨fd, hfd⟩ := get_of_lt (l := x.Feds) (j := f) (by omega)
      have hfdm := List.mem_of_getElem? hfd
      have hsf := hs.fed fd hfdm
      have hrl := hsf.rules
      have hwf' : x.w.Feds[f]? = some fd.f := by simp only [WdX.w]; rw [List.getElem?_map, hfd]; rfl
      obtain ⟨fa, hfa⟩ := get_of_lt (l := A.2.feds) (j := f) (by rw [hru.len, hwl]; omega)
      have hst := hstp f _ _ hwf' hfa
      have hstR : stR A.2 f = fa.st := by
        unfold stR
        rw [if_pos (by omega), Int.toNat_natCast, hfa]
        rfl
      have hlog : logR A.2 f = fa.log := by
        unfold logR
        rw [if_pos (by omega), Int.toNat_natCast, hfa]
        rfl
      refine fld_at (ld1_at h8 2 rfl (v := x.fv) rfl ?_)
      refine ixS_rd h8 3 rfl (fun g hg => (hr g hg).feds) (fun _ => rfl) hfd fun p hp => ?_
      refine fld_of hp fun p1 hp1 => ld1_of h8 3 rfl hp1 (v := .int .i64 fd.Start) rfl ?_
      refine solo_Log_s (by omega) h8 fun lv w9 h9 => ?_
      have hll := log_len hru (f : Int)
      rw [hlog] at h9 hll
      refine lpi2 (fun q t10 t12 w => ∃ (j : Nat) (s : Int), j ≤ fa.log.length ∧ t12 = .int .i64 j ∧ t10 = .int .i64 s ∧ q = fa.log.length - j ∧ stepped fd.f.Rules s (fa.log.drop j) fa.st ∧ Sat e w (ownS 39 7 Done.cs lv fa.log :: IsSolo r x.w A.2 (0 + A.1) :: IsRef r2 x A.2 (0 + A.1) :: blk b 25 x.cs :: S :: Q)) fa.log.length ⟨0, fd.Start, Nat.zero_le _, rfl, rfl, rfl, hst, h9⟩ ?_
      rintro q _ _ w g2 ⟨j, s, hj, rfl, rfl, rfl, hsj, h10⟩ hg2
      refine lnS_rd h10 0 rfl (fun g hg => own_rd hg) ?_
      refine lt_c (fun c3 => iff_t ?_) (fun c3 => iff_f ?_)
      · obtain ⟨y, hy⟩ := get_of_lt (l := fa.log) (j := j) (by omega)
        have hto := (hru.logs f fa hfa y (List.mem_of_getElem? hy)).1
        rw [drop_cons hy] at hsj
        obtain ⟨hs1, hs2⟩ := hsj
        refine J1.cut (fun t10 w => t10 = .int .i64 y.st ∧ Sat e w (ownS 39 7 Done.cs lv fa.log :: IsSolo r x.w A.2 (0 + A.1) :: IsRef r2 x A.2 (0 + A.1) :: blk b 25 x.cs :: S :: Q)) (fun k3 hcut => ?_) ?_
        · refine lpi2 (fun q t10 t13 w => ∃ n : Nat, n ≤ fd.Rules.length ∧ t13 = .int .i64 n ∧ t10 = .int .i64 s ∧ q = fd.Rules.length - n ∧ (∀ y' ∈ fd.Rules.take n, ¬ isOn s y.m.Class y') ∧ Sat e w (ownS 39 7 Done.cs lv fa.log :: IsSolo r x.w A.2 (0 + A.1) :: IsRef r2 x A.2 (0 + A.1) :: blk b 25 x.cs :: S :: Q)) fd.Rules.length ⟨0, Nat.zero_le _, rfl, rfl, rfl, by simp, h10⟩ ?_
          rintro q _ _ w g4 ⟨n, hn, rfl, rfl, rfl, hlo, h11⟩ hg4
          refine fld_at (ld1_at h11 3 rfl (v := x.fv) rfl ?_)
          refine ixS_rd h11 4 rfl (fun g hg => (hr g hg).feds) (fun _ => rfl) hfd fun p hp => ?_
          refine fld_of hp fun p1 hp1 => ld1_of h11 4 rfl hp1 (v := fd.rv) rfl ?_
          refine lnS_rd h11 4 rfl (fun g hg => ((hr g hg).fed fd hfdm).rules.s) ?_
          refine lt_c (fun c4 => iff_t ?_) (fun c4 => iff_f ?_)
          · obtain ⟨ru, hru2⟩ := get_of_lt (l := fd.Rules) (j := n) (by omega)
            refine fld_at (ld1_at h11 3 rfl (v := x.fv) rfl ?_)
            refine ixS_rd h11 4 rfl (fun g hg => (hr g hg).feds) (fun _ => rfl) hfd fun p hp => ?_
            refine fld_of hp fun p1 hp1 => ld1_of h11 4 rfl hp1 (v := fd.rv) rfl ?_
            refine ixS_rd h11 4 rfl (fun g hg => ((hr g hg).fed fd hfdm).rules.s) (fun _ => rfl) hru2 fun p hp => ?_
            refine ldN_of h11 4 rfl hp rfl ?_
            rw [zero_55]
            refine al_s (cs := [.int .i64 0, .int .i64 0, .int .i64 0, .slice none 0 0]) h11 rfl fun t14 w12 h12 => ?_
            have hflr : ∀ c ∈ ru.cs, flat c = true := by
              obtain ⟨g, hg, _⟩ := h12.get 5 rfl
              obtain ⟨A', c', hsv, _⟩ := ((hr g hg).fed fd hfdm).rules.e ru (List.mem_of_getElem? hru2)
              intro c hc
              simp only [RuleX.cs, List.mem_cons, List.not_mem_nil, or_false] at hc
              rcases hc with rfl | rfl | rfl | rfl
              · rfl
              · rfl
              · rfl
              · rw [hsv]; rfl
            refine stN_at h12 0 rfl (vs := ru.cs) rfl rfl (by simp) hflr (cs' := ru.cs) (by rfl) fun w13 h13 => ?_
            refine dr_s h13 fun w14 h14 => ?_
            refine fld_at (ld1_at h14 0 rfl (v := .int .i64 ru.State) rfl ?_)
            have hnext : ¬ isOn s y.m.Class ru → bi .add .i64 (.int .i64 n) (.int .i64 1) w14 fun t81 w => g4 [.int .i64 s, t81] w := by
              intro h
              refine inc_s (by omega) ?_
              refine hg4 _ _ _ _ (by omega) ⟨n + 1, by omega, rfl, rfl, rfl, fun y' hy' => ?_, h14.drop⟩
              rw [take_snoc hru2] at hy'
              rcases List.mem_append.1 hy' with h' | h'
              · exact hlo y' h'
              · rw [List.mem_singleton.1 h']; exact h
            refine eq_c (fun c5 => ?_) (fun c5 => ?_)
            · refine gd_tt (fld_at (gd_tt (ld1_at h14 0 rfl (v := .int .i64 ru.Class) rfl (gd_tt (gd_tt (gd_tt ?_))))))
              refine ixS_rd h14 1 rfl (fun g hg => own_rd hg) (fun _ => rfl) hy fun p hp => ?_
              refine gd_tt (fld_of hp fun p1 hp1 => gd_tt (fld_of hp1 fun p2 hp2 => gd_tt ?_))
              refine ld1_of h14 1 rfl hp2 (v := .int .i64 y.m.Class) rfl ?_
              refine gd_tt (eq_c (fun c6 => ?_) (fun c6 => ?_))
              · refine pk_t (iff_t ?_)
                refine fld_at (ld1_at h14 0 rfl (v := .int .i64 ru.Next) rfl ?_)
                have e1 : (stepR fd.f.Rules s y.m.Class).1 = ru.Next := by
                  rw [show fd.f.Rules = fd.Rules.map RuleX.r from rfl, stepR_some hru2 ⟨c5, c6⟩ hlo]
                rw [← e1, ← hs1]
                exact hcut _ _ ⟨rfl, h14.drop⟩
              · exact pk_t (iff_f (hnext fun h => c6 h.2))
            · repeat (first | refine gd_tt ?_ | refine gd_ff ?_ | refine gd_tf ?_ | refine gd_ft ?_ | refine gd_u ?_ | refine pk_t ?_ | refine pk_f ?_ | refine iff_t ?_ | refine iff_f ?_ | refine not_t ?_ | refine not_f ?_ | refine beq_s ?_ | refine bne_s ?_ | refine ncP_p ?_ | refine nc_p ?_ | refine fld_at ?_ | refine xt_02 ?_ | refine xt_12 ?_ | refine xt_03 ?_ | refine xt_13 ?_ | refine xt_23 ?_ | refine eq_t (by omega) ?_ | refine eq_f (by omega) ?_ | refine ne_t (by omega) ?_ | refine ne_f (by omega) ?_ | refine lt_t (by omega) ?_ | refine lt_f (by omega) ?_ | refine gt_t (by omega) ?_ | refine gt_f (by omega) ?_ | refine ge_t (by omega) ?_ | refine ge_f (by omega) ?_ | refine le_t (by omega) ?_ | refine le_f (by omega) ?_)
              exact hnext fun h => c5 h.1
          · have en : n = fd.Rules.length := by omega
            rw [en, List.take_length] at hlo
            have e1 : (stepR fd.f.Rules s y.m.Class).1 = s := by
              rw [show fd.f.Rules = fd.Rules.map RuleX.r from rfl, stepR_none hlo]
            rw [e1] at hs1
            rw [← hs1]
            exact hcut _ _ ⟨rfl, h11⟩
        · rintro _ w ⟨rfl, h11⟩
          refine ixS_rd h11 0 rfl (fun g hg => own_rd hg) (fun _ => rfl) hy fun p hp => ?_
          refine fld_of hp fun p1 hp1 => ld1_of h11 0 rfl hp1 (v := .int .i64 y.st) rfl ?_
          refine ne_f rfl (gd_ff (gd_ff (gd_ff ?_)))
          refine ixS_rd h11 0 rfl (fun g hg => own_rd hg) (fun _ => rfl) hy fun p hp => ?_
          refine gd_ff (fld_of hp fun p1 hp1 => gd_ff (fld_of hp1 fun p2 hp2 => gd_ff ?_))
          refine ld1_of h11 0 rfl hp2 (v := .int .i64 y.m.To) rfl ?_
          refine gd_ff (gd_ff (ne_f hto (pk_f (iff_f (inc_s (by omega) ?_)))))
          exact hg2 _ _ _ _ (by omega) ⟨j + 1, y.st, by omega, rfl, rfl, rfl, hs2, h11⟩
      · have ej : j = fa.log.length := by omega
        rw [ej, List.drop_length] at hsj
        have hsj' : s = fa.st := hsj
        have h11 := h10.drop
        refine solo_State_s h11 ?_
        rw [hstR]
        refine ne_f hsj'.symm (gd_ff (gd_ff (gd_ff (solo_State_s h11 ?_))))
        rw [hstR]
        refine gd_ff (gd_ff (gd_ff (ref09_State_s h11.swap ?_)))
        rw [hstR]
        refine gd_ff (ne_f rfl (pk_f (iff_f (inc_s (by omega) ?_))))
        exact hg1 _ _ _ (by omega) ⟨f + 1, by omega, rfl, rfl, h11⟩
end Go.Proofs.Ytfcnjbannejchaa
