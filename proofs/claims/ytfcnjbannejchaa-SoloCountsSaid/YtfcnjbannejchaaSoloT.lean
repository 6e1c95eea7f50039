/- The law SoloRises. Conditions: none. -/
import Derived.Test.YtfcnjbannejchaaSoloS
namespace Go.Proofs.Ytfcnjbannejchaa
open Go Go.E
set_option maxRecDepth 100000
variable {e w : World} {L Q : List HP} {K : KV} {S S2 : HP}

theorem wf8s {n : Int} (h : (Lit.int .u8 n).wf = true) : 0 ≤ n ∧ n ≤ 255 := by
  simp only [Lit.wf, IntKind.min, IntKind.max, IntKind.signed, IntKind.bits] at h
  simp at h
  omega
/-- The log's messages, of one federate, rise by their keys. -/
theorem log_keys {wd : Wd} {R : RS} {k : Nat} (hR : RunOk wd R k) {f i : Nat} {a b : Done} (ha : (logR R f)[i]? = some a) (hb : (logR R f)[i + 1]? = some b) : KeyLt a.m.key b.m.key := by
  unfold logR at ha hb
  rw [if_pos (by omega), Int.toNat_natCast] at ha hb
  cases hf : R.feds[f]? with
  | none => rw [hf] at ha; simp at ha
  | some x =>
    rw [hf] at ha hb
    simp only [Option.map_some, Option.getD_some] at ha hb
    have h1 := hR.inc x (List.mem_of_getElem? hf)
    have h2 := List.pairwise_iff_getElem.1 h1 i (i + 1) (List.getElem?_eq_some_iff.1 ha).1 (List.getElem?_eq_some_iff.1 hb).1 (by omega)
    rw [(List.getElem?_eq_some_iff.1 ha).2, (List.getElem?_eq_some_iff.1 hb).2] at h2
    have h3 := (hR.logs f x hf a (List.mem_of_getElem? ha)).1
    have h4 := (hR.logs f x hf b (List.mem_of_getElem? hb)).1
    rcases h2 with h2 | h2
    · exact h2
    · omega
theorem log_len {wd : Wd} {R : RS} {k : Nat} (hR : RunOk wd R k) (f : Int) : (logR R f).length ≤ k := by
  unfold logR
  split
  · cases hf : R.feds[f.toNat]? with
    | none => simp
    | some x => exact (hR.sent x (List.mem_of_getElem? hf)).2.2
  · simp
theorem soloRises_s {x : WdX} {a : Int} (hS : Sat e w (S :: Q)) (hr : ∀ g, S g → RdWd x g) (hwf : x.wf) (ha : (Lit.int .u8 a).wf = true) (hk : ∀ w', Sat e w' (S :: Q) → K (.bool true) w') :
    Cl prog 3 #[.agg x.cs.toArray, .int .u8 a] w K := by
  have ha' := wf8s ha
  refine pacelinelaw09_SoloRises_calls ?_
  unfold pacelinelaw09_SoloRises
  have hflat := wd_cells 0 rfl hS hr
  refine al_s (cs := x.cs) hS rfl fun b w1 h1 => ?_
  refine ldN_at h1 0 (vs := x.cs) rfl (by rfl) rfl ?_
  refine small_s (x := x) 1 rfl h1 hr fun w2 q h2 hq => ?_
  cases q with
  | false =>
    refine not_f (iff_t ?_)
    exact shown_s h2 fun w3 h3 => hk _ h3.drop
  | true =>
    have hs := hq rfl
    refine not_t (iff_f ?_)
    refine ldN_at h2 0 (vs := x.cs) rfl (by rfl) rfl ?_
    refine solo_New_s (x := x) 1 rfl h2 hr hwf hs (fun hbad w3 h3 => ?_) (fun hok r w3 h3 => ?_)
    · refine xt_02 (xt_12 ?_)
      refine ldN_at h3 0 (vs := x.cs) rfl (by rfl) rfl ?_
      refine ref08_Check_s (x := x) 1 rfl h3 hr hs fun w4 h4 => ?_
      refine xt_02 (xt_12 (ne_f rfl (gd_ff (shown_s h4 fun w5 h5 => ?_))))
      repeat (first | refine gd_tt ?_ | refine gd_ff ?_ | refine gd_tf ?_ | refine gd_ft ?_ | refine gd_u ?_ | refine pk_t ?_ | refine pk_f ?_ | refine iff_t ?_ | refine iff_f ?_ | refine not_t ?_ | refine not_f ?_ | refine beq_s ?_ | refine bne_s ?_ | refine ncP_p ?_ | refine nc_p ?_ | refine fld_at ?_ | refine xt_02 ?_ | refine xt_12 ?_ | refine xt_03 ?_ | refine xt_13 ?_ | refine xt_23 ?_ | refine eq_t (by omega) ?_ | refine eq_f (by omega) ?_ | refine ne_t (by omega) ?_ | refine ne_f (by omega) ?_ | refine lt_t (by omega) ?_ | refine lt_f (by omega) ?_ | refine gt_t (by omega) ?_ | refine gt_f (by omega) ?_ | refine ge_t (by omega) ?_ | refine ge_f (by omega) ?_ | refine le_t (by omega) ?_ | refine le_f (by omega) ?_)
      refine bnp_n ?_
      exact hk _ h5.drop
    · refine xt_02 (xt_12 ?_)
      refine ldN_at h3 1 (vs := x.cs) rfl (by rfl) rfl ?_
      refine ref08_Check_s (x := x) 2 rfl h3 hr hs fun w4 h4 => ?_
      rw [hok]
      refine xt_02 (xt_12 (ne_f rfl (gd_ff (shown_s h4 fun w5 h5 => ?_))))
      repeat (first | refine gd_tt ?_ | refine gd_ff ?_ | refine gd_tf ?_ | refine gd_ft ?_ | refine gd_u ?_ | refine pk_t ?_ | refine pk_f ?_ | refine iff_t ?_ | refine iff_f ?_ | refine not_t ?_ | refine not_f ?_ | refine beq_s ?_ | refine bne_s ?_ | refine ncP_p ?_ | refine nc_p ?_ | refine fld_at ?_ | refine xt_02 ?_ | refine xt_12 ?_ | refine xt_03 ?_ | refine xt_13 ?_ | refine xt_23 ?_ | refine eq_t (by omega) ?_ | refine eq_f (by omega) ?_ | refine ne_t (by omega) ?_ | refine ne_f (by omega) ?_ | refine lt_t (by omega) ?_ | refine lt_f (by omega) ?_ | refine gt_t (by omega) ?_ | refine gt_f (by omega) ?_ | refine ge_t (by omega) ?_ | refine ge_f (by omega) ?_ | refine le_t (by omega) ?_ | refine le_f (by omega) ?_)
      obtain ⟨n, hn⟩ : ∃ n : Nat, a % 40 = n := ⟨(a % 40).toNat, by omega⟩
      have hn40 : n < 40 := by omega
      refine lpi2 (fun q t9 t10 w => ∃ (i : Nat) (last : Int) (R : RS), i ≤ n ∧ t10 = .int .i64 i ∧ t9 = .int .i64 last ∧ q = n - i ∧ (∀ m ∈ R.wait, last ≤ m.key.T) ∧ ∃ k, k ≤ i ∧ Sat e w (IsSolo r x.w R k :: blk b 25 x.cs :: S :: Q)) n
        ⟨0, 0, initR x.w, Nat.zero_le _, rfl, rfl, rfl, fun m hm => ((runOk_init (checkW_ok hok)).to m hm).2.2.2, 0, Nat.le_refl _, h5⟩ ?_
      rintro q _ _ w g1 ⟨i, last, R, hi, rfl, rfl, rfl, hlast, k, hki, h6⟩ hg1
      refine cv_s ?_
      rw [wrap_i64 (by omega) (by omega)]
      refine rem_s (by decide) ?_
      rw [Int.tmod_eq_emod_of_nonneg (by omega), hn]
      obtain ⟨X, hX, _⟩ := solo_of h6
      refine lt_c (fun c1 => iff_t ?_) (fun c1 => iff_f ?_)
      · refine J1.cut (fun t9 w => ∃ (last : Int) (R : RS), t9 = .int .i64 last ∧ (∀ m ∈ R.wait, last ≤ m.key.T) ∧ ∃ k, k ≤ i + 1 ∧ Sat e w (IsSolo r x.w R k :: blk b 25 x.cs :: S :: Q)) (fun k2 hcut => ?_) ?_
        · refine solo_Next_s (by omega) h6 (fun hno w7 h7 => ?_) (fun d R' hyes w7 h7 => ?_)
          · refine xt_02 (xt_12 ?_)
            rw [zero_39]
            refine al_s (cs := Done.zero.cs) h7 rfl fun t w8 h8 => ?_
            refine stN_at h8 0 rfl (vs := Done.zero.cs) rfl rfl (by decide) (ints_flat _) (cs' := Done.zero.cs) (by rfl) fun w9 h9 => ?_
            repeat (first | refine gd_tt ?_ | refine gd_ff ?_ | refine gd_tf ?_ | refine gd_ft ?_ | refine gd_u ?_ | refine pk_t ?_ | refine pk_f ?_ | refine iff_t ?_ | refine iff_f ?_ | refine not_t ?_ | refine not_f ?_ | refine beq_s ?_ | refine bne_s ?_ | refine ncP_p ?_ | refine nc_p ?_ | refine fld_at ?_ | refine xt_02 ?_ | refine xt_12 ?_ | refine xt_03 ?_ | refine xt_13 ?_ | refine xt_23 ?_ | refine eq_t (by omega) ?_ | refine eq_f (by omega) ?_ | refine ne_t (by omega) ?_ | refine ne_f (by omega) ?_ | refine lt_t (by omega) ?_ | refine lt_f (by omega) ?_ | refine gt_t (by omega) ?_ | refine gt_f (by omega) ?_ | refine ge_t (by omega) ?_ | refine ge_f (by omega) ?_ | refine le_t (by omega) ?_ | refine le_f (by omega) ?_)
            exact hcut _ _ ⟨last, R, rfl, hlast, k, by omega, h9.drop⟩
          · obtain ⟨f1, f2, f3⟩ := next_facts hX.may hX.run hyes
            obtain ⟨t1, t2, t3, t4⟩ := hX.run.to d.m f1
            have hlT := hlast d.m f1
            have hfl2 : x.w.Feds.length = x.Feds.length := by simp [WdX.w]
            have hwE : x.w.End = x.End := rfl
            refine xt_02 (xt_12 ?_)
            rw [zero_39]
            refine al_s (cs := Done.zero.cs) h7 rfl fun t w8 h8 => ?_
            refine stN_at h8 0 rfl (vs := d.cs) rfl rfl (by decide) (ints_flat _) (cs' := d.cs) (by rfl) fun w9 h9 => ?_
            repeat (first | refine gd_tt ?_ | refine gd_ff ?_ | refine gd_tf ?_ | refine gd_ft ?_ | refine gd_u ?_ | refine pk_t ?_ | refine pk_f ?_ | refine iff_t ?_ | refine iff_f ?_ | refine not_t ?_ | refine not_f ?_ | refine beq_s ?_ | refine bne_s ?_ | refine ncP_p ?_ | refine nc_p ?_ | refine fld_at ?_ | refine xt_02 ?_ | refine xt_12 ?_ | refine xt_03 ?_ | refine xt_13 ?_ | refine xt_23 ?_ | refine eq_t (by omega) ?_ | refine eq_f (by omega) ?_ | refine ne_t (by omega) ?_ | refine ne_f (by omega) ?_ | refine lt_t (by omega) ?_ | refine lt_f (by omega) ?_ | refine gt_t (by omega) ?_ | refine gt_f (by omega) ?_ | refine ge_t (by omega) ?_ | refine ge_f (by omega) ?_ | refine le_t (by omega) ?_ | refine le_f (by omega) ?_)
            refine ld1_at h9 0 rfl (v := .int .i64 d.m.key.T) rfl ?_
            refine gd_tt (gd_tt (lt_f (by omega) (gd_tt ?_)))
            repeat (first | refine gd_tt ?_ | refine gd_ff ?_ | refine gd_tf ?_ | refine gd_ft ?_ | refine gd_u ?_ | refine pk_t ?_ | refine pk_f ?_ | refine iff_t ?_ | refine iff_f ?_ | refine not_t ?_ | refine not_f ?_ | refine beq_s ?_ | refine bne_s ?_ | refine ncP_p ?_ | refine nc_p ?_ | refine fld_at ?_ | refine xt_02 ?_ | refine xt_12 ?_ | refine xt_03 ?_ | refine xt_13 ?_ | refine xt_23 ?_ | refine eq_t (by omega) ?_ | refine eq_f (by omega) ?_ | refine ne_t (by omega) ?_ | refine ne_f (by omega) ?_ | refine lt_t (by omega) ?_ | refine lt_f (by omega) ?_ | refine gt_t (by omega) ?_ | refine gt_f (by omega) ?_ | refine ge_t (by omega) ?_ | refine ge_f (by omega) ?_ | refine le_t (by omega) ?_ | refine le_f (by omega) ?_)
            refine ld1_at h9 0 rfl (v := .int .i64 d.m.key.T) rfl ?_
            repeat (first | refine gd_tt ?_ | refine gd_ff ?_ | refine gd_tf ?_ | refine gd_ft ?_ | refine gd_u ?_ | refine pk_t ?_ | refine pk_f ?_ | refine iff_t ?_ | refine iff_f ?_ | refine not_t ?_ | refine not_f ?_ | refine beq_s ?_ | refine bne_s ?_ | refine ncP_p ?_ | refine nc_p ?_ | refine fld_at ?_ | refine xt_02 ?_ | refine xt_12 ?_ | refine xt_03 ?_ | refine xt_13 ?_ | refine xt_23 ?_ | refine eq_t (by omega) ?_ | refine eq_f (by omega) ?_ | refine ne_t (by omega) ?_ | refine ne_f (by omega) ?_ | refine lt_t (by omega) ?_ | refine lt_f (by omega) ?_ | refine gt_t (by omega) ?_ | refine gt_f (by omega) ?_ | refine ge_t (by omega) ?_ | refine ge_f (by omega) ?_ | refine le_t (by omega) ?_ | refine le_f (by omega) ?_)
            refine ld1_at h9 2 rfl (v := .int .i64 x.End) rfl ?_
            refine gd_ff (ge_f (by omega) (gd_tt (pk_f (gd_tt ?_))))
            repeat (first | refine gd_tt ?_ | refine gd_ff ?_ | refine gd_tf ?_ | refine gd_ft ?_ | refine gd_u ?_ | refine pk_t ?_ | refine pk_f ?_ | refine iff_t ?_ | refine iff_f ?_ | refine not_t ?_ | refine not_f ?_ | refine beq_s ?_ | refine bne_s ?_ | refine ncP_p ?_ | refine nc_p ?_ | refine fld_at ?_ | refine xt_02 ?_ | refine xt_12 ?_ | refine xt_03 ?_ | refine xt_13 ?_ | refine xt_23 ?_ | refine eq_t (by omega) ?_ | refine eq_f (by omega) ?_ | refine ne_t (by omega) ?_ | refine ne_f (by omega) ?_ | refine lt_t (by omega) ?_ | refine lt_f (by omega) ?_ | refine gt_t (by omega) ?_ | refine gt_f (by omega) ?_ | refine ge_t (by omega) ?_ | refine ge_f (by omega) ?_ | refine le_t (by omega) ?_ | refine le_f (by omega) ?_)
            refine ld1_at h9 0 rfl (v := .int .i64 d.m.To) rfl ?_
            refine gd_ff (lt_f (by omega) (gd_tt (pk_f (gd_tt ?_))))
            repeat (first | refine gd_tt ?_ | refine gd_ff ?_ | refine gd_tf ?_ | refine gd_ft ?_ | refine gd_u ?_ | refine pk_t ?_ | refine pk_f ?_ | refine iff_t ?_ | refine iff_f ?_ | refine not_t ?_ | refine not_f ?_ | refine beq_s ?_ | refine bne_s ?_ | refine ncP_p ?_ | refine nc_p ?_ | refine fld_at ?_ | refine xt_02 ?_ | refine xt_12 ?_ | refine xt_03 ?_ | refine xt_13 ?_ | refine xt_23 ?_ | refine eq_t (by omega) ?_ | refine eq_f (by omega) ?_ | refine ne_t (by omega) ?_ | refine ne_f (by omega) ?_ | refine lt_t (by omega) ?_ | refine lt_f (by omega) ?_ | refine gt_t (by omega) ?_ | refine gt_f (by omega) ?_ | refine ge_t (by omega) ?_ | refine ge_f (by omega) ?_ | refine le_t (by omega) ?_ | refine le_f (by omega) ?_)
            refine ld1_at h9 0 rfl (v := .int .i64 d.m.To) rfl ?_
            repeat (first | refine gd_tt ?_ | refine gd_ff ?_ | refine gd_tf ?_ | refine gd_ft ?_ | refine gd_u ?_ | refine pk_t ?_ | refine pk_f ?_ | refine iff_t ?_ | refine iff_f ?_ | refine not_t ?_ | refine not_f ?_ | refine beq_s ?_ | refine bne_s ?_ | refine ncP_p ?_ | refine nc_p ?_ | refine fld_at ?_ | refine xt_02 ?_ | refine xt_12 ?_ | refine xt_03 ?_ | refine xt_13 ?_ | refine xt_23 ?_ | refine eq_t (by omega) ?_ | refine eq_f (by omega) ?_ | refine ne_t (by omega) ?_ | refine ne_f (by omega) ?_ | refine lt_t (by omega) ?_ | refine lt_f (by omega) ?_ | refine gt_t (by omega) ?_ | refine gt_f (by omega) ?_ | refine ge_t (by omega) ?_ | refine ge_f (by omega) ?_ | refine le_t (by omega) ?_ | refine le_f (by omega) ?_)
            refine ld1_at h9 2 rfl (v := x.fv) rfl ?_
            refine gd_ff (lnS_rd h9 3 rfl (fun g hg => (hr g hg).feds) ?_)
            refine gd_ff (ge_f (by omega) (gd_tt (pk_f (pk_t (iff_f (iff_t ?_))))))
            repeat (first | refine gd_tt ?_ | refine gd_ff ?_ | refine gd_tf ?_ | refine gd_ft ?_ | refine gd_u ?_ | refine pk_t ?_ | refine pk_f ?_ | refine iff_t ?_ | refine iff_f ?_ | refine not_t ?_ | refine not_f ?_ | refine beq_s ?_ | refine bne_s ?_ | refine ncP_p ?_ | refine nc_p ?_ | refine fld_at ?_ | refine xt_02 ?_ | refine xt_12 ?_ | refine xt_03 ?_ | refine xt_13 ?_ | refine xt_23 ?_ | refine eq_t (by omega) ?_ | refine eq_f (by omega) ?_ | refine ne_t (by omega) ?_ | refine ne_f (by omega) ?_ | refine lt_t (by omega) ?_ | refine lt_f (by omega) ?_ | refine gt_t (by omega) ?_ | refine gt_f (by omega) ?_ | refine ge_t (by omega) ?_ | refine ge_f (by omega) ?_ | refine le_t (by omega) ?_ | refine le_f (by omega) ?_)
            refine ld1_at h9 0 rfl (v := .int .i64 d.m.key.T) rfl ?_
            exact hcut _ _ ⟨d.m.key.T, R', rfl, fun m hm => (f3 m hm).time, k + 1, by omega, h9.drop⟩
        · rintro _ w ⟨last', R', rfl, hl', k', hk', h8⟩
          refine inc_s (by omega) ?_
          exact hg1 _ _ _ _ (by omega) ⟨i + 1, last', R', by omega, rfl, rfl, rfl, hl', k', hk', h8⟩
      · have hfl : x.Feds.length ≤ 1000 := hs.feds
        refine lpi1 (fun q t13 w => ∃ f : Nat, f ≤ x.Feds.length ∧ t13 = .int .i64 f ∧ q = x.Feds.length - f ∧ Sat e w (IsSolo r x.w R k :: blk b 25 x.cs :: S :: Q)) x.Feds.length ⟨0, Nat.zero_le _, rfl, rfl, h6⟩ ?_
        rintro q _ w g3 ⟨f, hf, rfl, rfl, h7⟩ hg3
        refine fld_at (ld1_at h7 1 rfl (v := x.fv) rfl ?_)
        refine lnS_rd h7 2 rfl (fun g hg => (hr g hg).feds) ?_
        refine lt_c (fun c2 => iff_t ?_) (fun c2 => iff_f (hk _ h7.drop.drop))
        refine solo_Log_s (by omega) h7 fun lv w8 h8 => ?_
        have hll := log_len hX.run (f : Int)
        refine lpi1 (fun q t15 w => ∃ j : Nat, 1 ≤ j ∧ t15 = .int .i64 j ∧ q = (logR R f).length + 1 - j ∧ Sat e w (ownS 39 7 Done.cs lv (logR R f) :: IsSolo r x.w R k :: blk b 25 x.cs :: S :: Q)) (logR R f).length ⟨1, Nat.le_refl _, rfl, by omega, h8⟩ ?_
        rintro q _ w g4 ⟨j, hj, rfl, rfl, h9⟩ hg4
        refine lnS_rd h9 0 rfl (fun g hg => own_rd hg) ?_
        refine lt_c (fun c3 => iff_t ?_) (fun c3 => iff_f ?_)
        · obtain ⟨y, hy⟩ := get_of_lt (l := logR R f) (j := j) (by omega)
          obtain ⟨z, hz⟩ := get_of_lt (l := logR R f) (j := j - 1) (by omega)
          refine dr_s h9 fun w10 h10 => ?_
          refine sub_s (by omega) (by omega) ?_
          rw [show (j : Int) - 1 = ((j - 1 : Nat) : Int) from by omega]
          refine ixS_rd h10 0 rfl (fun g hg => own_rd hg) (fun _ => rfl) hz fun p hp => ?_
          refine fld_of hp fun p1 hp1 => fld_of hp1 fun p2 hp2 => ?_
          refine ldN_sub (us := z.m.key.cs) h10 0 rfl hp2 (by rfl) rfl ?_
          refine ixS_rd h10 0 rfl (fun g hg => own_rd hg) (fun _ => rfl) hy fun p hp => ?_
          refine fld_of hp fun p1 hp1 => fld_of hp1 fun p2 hp2 => ?_
          refine ldN_sub (us := y.m.key.cs) h10 0 rfl hp2 (by rfl) rfl ?_
          refine ref01_Cmp_s h10 fun w11 h11 => ?_
          have hlt := log_keys hX.run hz (by rw [show j - 1 + 1 = j from by omega]; exact hy)
          have hneg := cmpK_lt.2 hlt
          refine ge_f (by omega) (iff_f (inc_s (by omega) ?_))
          exact hg4 ((logR R f).length + 1 - (j + 1)) _ _ (by omega) ⟨j + 1, by omega, rfl, rfl, h11⟩
        · refine inc_s (by omega) ?_
          exact hg3 _ _ _ (by omega) ⟨f + 1, by omega, rfl, rfl, h9.drop⟩
end Go.Proofs.Ytfcnjbannejchaa
