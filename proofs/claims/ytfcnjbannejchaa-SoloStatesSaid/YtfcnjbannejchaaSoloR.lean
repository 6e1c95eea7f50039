/- Runs: Steps, Log, State; the laws' small and shown. Conditions: at most a thousand steps. -/
import Derived.Test.YtfcnjbannejchaaSoloQ
namespace Go.Proofs.Ytfcnjbannejchaa
open Go Go.E
set_option maxRecDepth 100000
variable {e w : World} {L Q : List HP} {K : KV} {S S2 : HP}

theorem stepsR_succ (wd : Wd) (n : Nat) (R : RS) : stepsR wd (n + 1) R = match nextR wd R with
    | none => (0, R)
    | some x => ((stepsR wd n x.2).1 + 1, (stepsR wd n x.2).2) := rfl
theorem solo_Steps_s {r k n : Nat} {wd : Wd} {R : RS} (hk0 : k + n ≤ 1000) (hS : Sat e w (IsSolo r wd R k :: Q))
    (hk : ∀ w', Sat e w' (IsSolo r wd (stepsR wd n R).2 (k + (stepsR wd n R).1) :: Q) → (stepsR wd n R).1 ≤ n → K (.int .i64 (stepsR wd n R).1) w') :
    Cl prog 16 #[.pointer (some ⟨r, 0, none⟩), .int .i64 n] w K := by
  refine solo_Run_Steps_calls ?_
  unfold solo_Run_Steps
  refine J1.cut (fun t5 w => t5 = .int .i64 (stepsR wd n R).1 ∧ (stepsR wd n R).1 ≤ n ∧ Sat e w (IsSolo r wd (stepsR wd n R).2 (k + (stepsR wd n R).1) :: Q)) (fun k1 hcut => ?_) ?_
  · refine lpi1 (fun q t5 w => ∃ (j : Nat) (R' : RS), j ≤ n ∧ t5 = .int .i64 j ∧ q = n - j ∧ stepsR wd n R = (j + (stepsR wd (n - j) R').1, (stepsR wd (n - j) R').2) ∧ Sat e w (IsSolo r wd R' (k + j) :: Q)) n
      ⟨0, R, Nat.zero_le _, rfl, rfl, by simp, hS⟩ ?_
    rintro q _ w g ⟨j, R', hj, rfl, rfl, heq, h1⟩ hg
    rw [zero_39]
    refine lt_c (fun c => iff_t ?_) (fun c => iff_f ?_)
    · obtain ⟨m, hm⟩ : ∃ m, n - j = m + 1 := ⟨n - j - 1, by omega⟩
      rw [hm, stepsR_succ] at heq
      refine solo_Next_s (by omega) h1 (fun hno w2 h2 => ?_) (fun d R2 hyes w2 h2 => ?_)
      · rw [hno] at heq
        repeat (first | refine gd_tt ?_ | refine gd_ff ?_ | refine gd_tf ?_ | refine gd_ft ?_ | refine gd_u ?_ | refine pk_t ?_ | refine pk_f ?_ | refine iff_t ?_ | refine iff_f ?_ | refine not_t ?_ | refine not_f ?_ | refine beq_s ?_ | refine bne_s ?_ | refine ncP_p ?_ | refine nc_p ?_ | refine fld_at ?_ | refine xt_02 ?_ | refine xt_12 ?_ | refine xt_03 ?_ | refine xt_13 ?_ | refine xt_23 ?_ | refine eq_t (by omega) ?_ | refine eq_f (by omega) ?_ | refine ne_t (by omega) ?_ | refine ne_f (by omega) ?_ | refine lt_t (by omega) ?_ | refine lt_f (by omega) ?_ | refine gt_t (by omega) ?_ | refine gt_f (by omega) ?_ | refine ge_t (by omega) ?_ | refine ge_f (by omega) ?_ | refine le_t (by omega) ?_ | refine le_f (by omega) ?_)
        refine al_s (cs := Done.zero.cs) h2 rfl fun t w3 h3 => ?_
        refine stN_at h3 0 rfl (vs := Done.zero.cs) rfl rfl (by decide) (ints_flat _) (cs' := Done.zero.cs) (by rfl) fun w4 h4 => ?_
        refine not_f (iff_t (hcut _ _ ?_))
        rw [heq]
        exact ⟨rfl, by simp; omega, by simpa using h4.drop⟩
      · rw [hyes] at heq
        repeat (first | refine gd_tt ?_ | refine gd_ff ?_ | refine gd_tf ?_ | refine gd_ft ?_ | refine gd_u ?_ | refine pk_t ?_ | refine pk_f ?_ | refine iff_t ?_ | refine iff_f ?_ | refine not_t ?_ | refine not_f ?_ | refine beq_s ?_ | refine bne_s ?_ | refine ncP_p ?_ | refine nc_p ?_ | refine fld_at ?_ | refine xt_02 ?_ | refine xt_12 ?_ | refine xt_03 ?_ | refine xt_13 ?_ | refine xt_23 ?_ | refine eq_t (by omega) ?_ | refine eq_f (by omega) ?_ | refine ne_t (by omega) ?_ | refine ne_f (by omega) ?_ | refine lt_t (by omega) ?_ | refine lt_f (by omega) ?_ | refine gt_t (by omega) ?_ | refine gt_f (by omega) ?_ | refine ge_t (by omega) ?_ | refine ge_f (by omega) ?_ | refine le_t (by omega) ?_ | refine le_f (by omega) ?_)
        refine al_s (cs := Done.zero.cs) h2 rfl fun t w3 h3 => ?_
        refine stN_at h3 0 rfl (vs := d.cs) rfl rfl (by decide) (ints_flat _) (cs' := d.cs) (by rfl) fun w4 h4 => ?_
        refine not_t (iff_f (inc_s (by omega) ?_))
        refine hg _ _ _ (by omega) ⟨j + 1, R2, by omega, rfl, rfl, ?_, h4.drop⟩
        rw [heq, show n - (j + 1) = m from by omega]
        simp only [Prod.mk.injEq, and_true]
        omega
    · have ej : n - j = 0 := by omega
      have ej2 : j = n := by omega
      rw [ej] at heq
      have heq' : stepsR wd n R = (j, R') := heq
      refine hcut _ _ ?_
      rw [heq']
      exact ⟨rfl, hj, h1⟩
  · rintro _ w ⟨rfl, hle, h⟩
    exact hk _ h hle
def logR (R : RS) (f : Int) : List Done := if 0 ≤ f then ((R.feds[f.toNat]?).map FA.log).getD [] else []
def stR (R : RS) (f : Int) : Int := if 0 ≤ f then ((R.feds[f.toNat]?).map FA.st).getD (-1) else -1
theorem fs_len {k : Nat} {wd : Wd} {R : RS} {X : WdX} (hX : SoloOk X wd R k) {fs : List FedS} (h : fs.map FedS.a = R.feds) : fs.length = wd.Feds.length ∧ R.feds.length = fs.length := by
  have h1 : R.feds.length = fs.length := by rw [← h, List.length_map]
  exact ⟨by rw [← h1, hX.run.len], h1⟩
theorem solo_Log_s {r k : Nat} {wd : Wd} {R : RS} {f : Int} (hk0 : k ≤ 1000) (hS : Sat e w (IsSolo r wd R k :: Q))
    (hk : ∀ v w', Sat e w' (ownS 39 7 Done.cs v (logR R f) :: IsSolo r wd R k :: Q) → K v w') : Cl prog 13 #[.pointer (some ⟨r, 0, none⟩), .int .i64 f] w K := by
  refine solo_Run_Log_calls ?_
  unfold solo_Run_Log
  obtain ⟨X, hX, hS1⟩ := solo_of hS
  obtain ⟨fv, fs, arr, ⟨hfs, hpa, hhp⟩, hS2⟩ := run_of hS1
  obtain ⟨hl1, hl2⟩ := fs_len hX hfs
  have hn8 := hX.may.n.2
  have hnil : logR R f = [] → K (.slice none 0 0) w := fun h => by
    refine hk _ _ ?_
    rw [h]
    exact hS.own_nil 39 7 Done.cs
  by_cases c1 : f < 0
  · repeat (first | refine gd_tt ?_ | refine gd_ff ?_ | refine gd_tf ?_ | refine gd_ft ?_ | refine gd_u ?_ | refine pk_t ?_ | refine pk_f ?_ | refine iff_t ?_ | refine iff_f ?_ | refine not_t ?_ | refine not_f ?_ | refine beq_s ?_ | refine bne_s ?_ | refine ncP_p ?_ | refine nc_p ?_ | refine fld_at ?_ | refine xt_02 ?_ | refine xt_12 ?_ | refine xt_03 ?_ | refine xt_13 ?_ | refine xt_23 ?_ | refine eq_t (by omega) ?_ | refine eq_f (by omega) ?_ | refine ne_t (by omega) ?_ | refine ne_f (by omega) ?_ | refine lt_t (by omega) ?_ | refine lt_f (by omega) ?_ | refine gt_t (by omega) ?_ | refine gt_f (by omega) ?_ | refine ge_t (by omega) ?_ | refine ge_f (by omega) ?_ | refine le_t (by omega) ?_ | refine le_f (by omega) ?_)
    exact hnil (if_neg (by omega))
  refine lt_f c1 (gd_ff (gd_ff (gd_ff (nc_p ?_))))
  refine gd_ff (fld_at (gd_ff (ldW hS2 0 rfl (u := fv) rfl (gd_ff ?_))))
  refine lnS_rd hS2 1 rfl (fun g hg => own_rd hg) ?_
  by_cases c2 : (fs.length : Int) ≤ f
  · repeat (first | refine gd_tt ?_ | refine gd_ff ?_ | refine gd_tf ?_ | refine gd_ft ?_ | refine gd_u ?_ | refine pk_t ?_ | refine pk_f ?_ | refine iff_t ?_ | refine iff_f ?_ | refine not_t ?_ | refine not_f ?_ | refine beq_s ?_ | refine bne_s ?_ | refine ncP_p ?_ | refine nc_p ?_ | refine fld_at ?_ | refine xt_02 ?_ | refine xt_12 ?_ | refine xt_03 ?_ | refine xt_13 ?_ | refine xt_23 ?_ | refine eq_t (by omega) ?_ | refine eq_f (by omega) ?_ | refine ne_t (by omega) ?_ | refine ne_f (by omega) ?_ | refine lt_t (by omega) ?_ | refine lt_f (by omega) ?_ | refine gt_t (by omega) ?_ | refine gt_f (by omega) ?_ | refine ge_t (by omega) ?_ | refine ge_f (by omega) ?_ | refine le_t (by omega) ?_ | refine le_f (by omega) ?_)
    refine hnil ?_
    unfold logR
    rw [if_pos (by omega), List.getElem?_eq_none (by omega)]
    rfl
  refine gd_ff (ge_f (by omega) (pk_f (iff_f ?_)))
  obtain ⟨n, rfl⟩ : ∃ n : Nat, f = n := ⟨f.toNat, by omega⟩
  obtain ⟨a, ha⟩ := get_of_lt (l := fs) (j := n) (by omega)
  have hRa : R.feds[n]? = some a.a := by rw [← hfs, List.getElem?_map, ha]; rfl
  refine ncP_p (fld_at (ldW hS2 0 rfl (u := fv) rfl ?_))
  refine ixS_own hS2 1 rfl ha fun bf cf hfv => ?_
  refine fld_at (ldF_own hS2 1 rfl (fun _ => rfl) hfv ha (u := a.lv) rfl ?_)
  have hsent := (hX.run.sent a.a (List.mem_of_getElem? hRa)).2.2
  simp only [FedS.a] at hsent
  have h3 := (hS2.pick 2 rfl).focus n (by rw [List.getElem?_map, ha]; rfl : (fs.map logOwn)[n]? = some (logOwn a))
  refine clone_dones_s (l := a.log) (by omega) (fun _ _ => ints_flat _) h3 (fun g hg => own_rd hg) fun v' w4 h4 => ?_
  have hlog : logR R n = a.log := by
    unfold logR
    rw [if_pos (by omega), Int.toNat_natCast, hRa]
    rfl
  refine hk _ _ ?_
  rw [hlog]
  have h5 := (h4.drop).unfocus n (by rw [List.getElem?_map, ha]; rfl : (fs.map logOwn)[n]? = some (logOwn a))
  have h6 := h4.selR [_, _, _] [_, _, _] [1, 2, 0] (by decide) rfl
  have h7 := h6.unfocus n (by rw [List.getElem?_map, ha]; rfl : (fs.map logOwn)[n]? = some (logOwn a))
  have hse : (fs.map logOwn).set n (logOwn a) = fs.map logOwn := by
    apply List.ext_getElem?
    intro i
    by_cases h : n = i
    · subst h
      rw [List.getElem?_set_self (by rw [List.length_map]; omega), List.getElem?_map, ha]; rfl
    · rw [List.getElem?_set_ne h]
  rw [hse] at h7
  have h8 := run_mk (R := R) ⟨hfs, hpa, hhp⟩ (h7.selR [_, _, _, _, _] [_, _, _, _, _] [2, 3, 0, 4, 1] (by decide) rfl)
  exact (solo_mk hX h8).swap
theorem solo_State_s {r k : Nat} {wd : Wd} {R : RS} {f : Int} (hS : Sat e w (IsSolo r wd R k :: Q)) (hk : K (.int .i64 (stR R f)) w) : Cl prog 18 #[.pointer (some ⟨r, 0, none⟩), .int .i64 f] w K := by
  refine solo_Run_State_calls ?_
  unfold solo_Run_State
  obtain ⟨X, hX, hS1⟩ := solo_of hS
  obtain ⟨fv, fs, arr, ⟨hfs, hpa, hhp⟩, hS2⟩ := run_of hS1
  obtain ⟨hl1, hl2⟩ := fs_len hX hfs
  have hn8 := hX.may.n.2
  by_cases c1 : f < 0
  · repeat (first | refine gd_tt ?_ | refine gd_ff ?_ | refine gd_tf ?_ | refine gd_ft ?_ | refine gd_u ?_ | refine pk_t ?_ | refine pk_f ?_ | refine iff_t ?_ | refine iff_f ?_ | refine not_t ?_ | refine not_f ?_ | refine beq_s ?_ | refine bne_s ?_ | refine ncP_p ?_ | refine nc_p ?_ | refine fld_at ?_ | refine xt_02 ?_ | refine xt_12 ?_ | refine xt_03 ?_ | refine xt_13 ?_ | refine xt_23 ?_ | refine eq_t (by omega) ?_ | refine eq_f (by omega) ?_ | refine ne_t (by omega) ?_ | refine ne_f (by omega) ?_ | refine lt_t (by omega) ?_ | refine lt_f (by omega) ?_ | refine gt_t (by omega) ?_ | refine gt_f (by omega) ?_ | refine ge_t (by omega) ?_ | refine ge_f (by omega) ?_ | refine le_t (by omega) ?_ | refine le_f (by omega) ?_)
    unfold stR at hk
    rw [if_neg (by omega)] at hk
    exact hk
  refine lt_f c1 (gd_ff (gd_ff (gd_ff (nc_p ?_))))
  refine gd_ff (fld_at (gd_ff (ldW hS2 0 rfl (u := fv) rfl (gd_ff ?_))))
  refine lnS_rd hS2 1 rfl (fun g hg => own_rd hg) ?_
  by_cases c2 : (fs.length : Int) ≤ f
  · repeat (first | refine gd_tt ?_ | refine gd_ff ?_ | refine gd_tf ?_ | refine gd_ft ?_ | refine gd_u ?_ | refine pk_t ?_ | refine pk_f ?_ | refine iff_t ?_ | refine iff_f ?_ | refine not_t ?_ | refine not_f ?_ | refine beq_s ?_ | refine bne_s ?_ | refine ncP_p ?_ | refine nc_p ?_ | refine fld_at ?_ | refine xt_02 ?_ | refine xt_12 ?_ | refine xt_03 ?_ | refine xt_13 ?_ | refine xt_23 ?_ | refine eq_t (by omega) ?_ | refine eq_f (by omega) ?_ | refine ne_t (by omega) ?_ | refine ne_f (by omega) ?_ | refine lt_t (by omega) ?_ | refine lt_f (by omega) ?_ | refine gt_t (by omega) ?_ | refine gt_f (by omega) ?_ | refine ge_t (by omega) ?_ | refine ge_f (by omega) ?_ | refine le_t (by omega) ?_ | refine le_f (by omega) ?_)
    unfold stR at hk
    rw [if_pos (by omega), List.getElem?_eq_none (by omega)] at hk
    exact hk
  refine gd_ff (ge_f (by omega) (pk_f (iff_f ?_)))
  obtain ⟨n, rfl⟩ : ∃ n : Nat, f = n := ⟨f.toNat, by omega⟩
  obtain ⟨a, ha⟩ := get_of_lt (l := fs) (j := n) (by omega)
  have hRa : R.feds[n]? = some a.a := by rw [← hfs, List.getElem?_map, ha]; rfl
  refine ncP_p (fld_at (ldW hS2 0 rfl (u := fv) rfl ?_))
  refine ixS_own hS2 1 rfl ha fun bf cf hfv => ?_
  refine fld_at (ldF_own hS2 1 rfl (fun _ => rfl) hfv ha (u := .int .i64 a.st) rfl ?_)
  unfold stR at hk
  rw [if_pos (by omega), Int.toNat_natCast, hRa] at hk
  exact hk

/-! ### small -/
theorem small_s {x : WdX} (i : Nat) (hi : L[i]? = some S) (hS : Sat e w L) (hr : ∀ g, S g → RdWd x g) (hk : ∀ w' (b : Bool), Sat e w' L → (b = true → x.short) → K (.bool b) w') : Cl prog 8 #[.agg x.cs.toArray] w K := by
  refine pacelinelaw09_small_calls ?_
  unfold pacelinelaw09_small
  refine al_s (cs := x.cs) hS rfl fun b w1 h1 => ?_
  have hno : ∀ w', Sat e w' (blk b 25 x.cs :: L) → K (.bool false) w' := fun w' h' => hk w' false h'.drop (fun h => by cases h)
  refine fld_at (ld1_at h1 0 rfl (v := x.pv) rfl ?_)
  refine lnS_rd h1 (i + 1) (by simpa using hi) (fun g hg => (hr g hg).par) ?_
  by_cases c1 : (50 : Int) < x.Parents.length
  · repeat (first | refine gd_tt ?_ | refine gd_ff ?_ | refine gd_tf ?_ | refine gd_ft ?_ | refine gd_u ?_ | refine pk_t ?_ | refine pk_f ?_ | refine iff_t ?_ | refine iff_f ?_ | refine not_t ?_ | refine not_f ?_ | refine beq_s ?_ | refine bne_s ?_ | refine ncP_p ?_ | refine nc_p ?_ | refine fld_at ?_ | refine xt_02 ?_ | refine xt_12 ?_ | refine xt_03 ?_ | refine xt_13 ?_ | refine xt_23 ?_ | refine eq_t (by omega) ?_ | refine eq_f (by omega) ?_ | refine ne_t (by omega) ?_ | refine ne_f (by omega) ?_ | refine lt_t (by omega) ?_ | refine lt_f (by omega) ?_ | refine gt_t (by omega) ?_ | refine gt_f (by omega) ?_ | refine ge_t (by omega) ?_ | refine ge_f (by omega) ?_ | refine le_t (by omega) ?_ | refine le_f (by omega) ?_)
    exact hno _ h1
  refine gt_f c1 (gd_ff (fld_at (gd_ff (ld1_at h1 0 rfl (v := x.fv) rfl (gd_ff ?_)))))
  refine lnS_rd h1 (i + 1) (by simpa using hi) (fun g hg => (hr g hg).feds) ?_
  by_cases c2 : (20 : Int) < x.Feds.length
  · repeat (first | refine gd_tt ?_ | refine gd_ff ?_ | refine gd_tf ?_ | refine gd_ft ?_ | refine gd_u ?_ | refine pk_t ?_ | refine pk_f ?_ | refine iff_t ?_ | refine iff_f ?_ | refine not_t ?_ | refine not_f ?_ | refine beq_s ?_ | refine bne_s ?_ | refine ncP_p ?_ | refine nc_p ?_ | refine fld_at ?_ | refine xt_02 ?_ | refine xt_12 ?_ | refine xt_03 ?_ | refine xt_13 ?_ | refine xt_23 ?_ | refine eq_t (by omega) ?_ | refine eq_f (by omega) ?_ | refine ne_t (by omega) ?_ | refine ne_f (by omega) ?_ | refine lt_t (by omega) ?_ | refine lt_f (by omega) ?_ | refine gt_t (by omega) ?_ | refine gt_f (by omega) ?_ | refine ge_t (by omega) ?_ | refine ge_f (by omega) ?_ | refine le_t (by omega) ?_ | refine le_f (by omega) ?_)
    exact hno _ h1
  refine gd_ff (gt_f c2 (pk_f (iff_f ?_)))
  rw [zero_53]
  refine lpi1 (fun q t w => ∃ j : Nat, j ≤ x.Feds.length ∧ t = .int .i64 j ∧ q = x.Feds.length - j ∧ (∀ f ∈ x.Feds.take j, f.short) ∧ Sat e w (blk b 25 x.cs :: L)) x.Feds.length ⟨0, Nat.zero_le _, rfl, rfl, by simp, h1⟩ ?_
  rintro q _ w g ⟨j, hj, rfl, rfl, hall, h2⟩ hg
  refine fld_at (ld1_at h2 0 rfl (v := x.fv) rfl ?_)
  refine lnS_rd h2 (i + 1) (by simpa using hi) (fun g hg => (hr g hg).feds) ?_
  refine lt_c (fun c => iff_t ?_) (fun c => iff_f ?_)
  · obtain ⟨fd, hf⟩ := get_of_lt (l := x.Feds) (j := j) (by omega)
    have hfm := List.mem_of_getElem? hf
    refine fld_at (ld1_at h2 0 rfl (v := x.fv) rfl ?_)
    refine ixS_rd h2 (i + 1) (by simpa using hi) (fun g hg => (hr g hg).feds) (fun _ => rfl) hf fun a ha => ?_
    refine ldN_of h2 (i + 1) (by simpa using hi) ha rfl ?_
    refine al_s (cs := [.int .i64 0, .int .i64 0, .int .i64 0, .slice none 0 0, .slice none 0 0, .slice none 0 0, .slice none 0 0]) h2 rfl fun t w5 h5 => ?_
    refine stN_at h5 0 rfl (vs := fd.cs) rfl rfl (by simp) (fed_cells i hi hS fun g hg => (hr g hg).fed fd hfm) (cs' := fd.cs) (by rfl) fun w6 h6 => ?_
    have hi6 : (blk t 53 fd.cs :: blk b 25 x.cs :: L)[i + 2]? = some S := by simpa using hi
    refine fld_at (ld1_at h6 0 rfl (v := fd.rv) rfl ?_)
    refine lnS_rd h6 (i + 2) hi6 (fun g hg => ((hr g hg).fed fd hfm).rules.s) ?_
    by_cases d1 : (60 : Int) < fd.Rules.length
    · repeat (first | refine gd_tt ?_ | refine gd_ff ?_ | refine gd_tf ?_ | refine gd_ft ?_ | refine gd_u ?_ | refine pk_t ?_ | refine pk_f ?_ | refine iff_t ?_ | refine iff_f ?_ | refine not_t ?_ | refine not_f ?_ | refine beq_s ?_ | refine bne_s ?_ | refine ncP_p ?_ | refine nc_p ?_ | refine fld_at ?_ | refine xt_02 ?_ | refine xt_12 ?_ | refine xt_03 ?_ | refine xt_13 ?_ | refine xt_23 ?_ | refine eq_t (by omega) ?_ | refine eq_f (by omega) ?_ | refine ne_t (by omega) ?_ | refine ne_f (by omega) ?_ | refine lt_t (by omega) ?_ | refine lt_f (by omega) ?_ | refine gt_t (by omega) ?_ | refine gt_f (by omega) ?_ | refine ge_t (by omega) ?_ | refine ge_f (by omega) ?_ | refine le_t (by omega) ?_ | refine le_f (by omega) ?_)
      exact hno _ h6.drop
    refine gt_f d1 (gd_ff (fld_at (gd_ff (ld1_at h6 0 rfl (v := fd.pv) rfl (gd_ff ?_)))))
    refine lnS_rd h6 (i + 2) hi6 (fun g hg => ((hr g hg).fed fd hfm).pubs) ?_
    by_cases d2 : (50 : Int) < fd.Pubs.length
    · repeat (first | refine gd_tt ?_ | refine gd_ff ?_ | refine gd_tf ?_ | refine gd_ft ?_ | refine gd_u ?_ | refine pk_t ?_ | refine pk_f ?_ | refine iff_t ?_ | refine iff_f ?_ | refine not_t ?_ | refine not_f ?_ | refine beq_s ?_ | refine bne_s ?_ | refine ncP_p ?_ | refine nc_p ?_ | refine fld_at ?_ | refine xt_02 ?_ | refine xt_12 ?_ | refine xt_03 ?_ | refine xt_13 ?_ | refine xt_23 ?_ | refine eq_t (by omega) ?_ | refine eq_f (by omega) ?_ | refine ne_t (by omega) ?_ | refine ne_f (by omega) ?_ | refine lt_t (by omega) ?_ | refine lt_f (by omega) ?_ | refine gt_t (by omega) ?_ | refine gt_f (by omega) ?_ | refine ge_t (by omega) ?_ | refine ge_f (by omega) ?_ | refine le_t (by omega) ?_ | refine le_f (by omega) ?_)
      exact hno _ h6.drop
    refine gd_ff (gt_f d2 (pk_f (gd_ff (fld_at (gd_ff (ld1_at h6 0 rfl (v := fd.sv) rfl (gd_ff ?_)))))))
    refine lnS_rd h6 (i + 2) hi6 (fun g hg => ((hr g hg).fed fd hfm).subs) ?_
    by_cases d3 : (50 : Int) < fd.Subs.length
    · repeat (first | refine gd_tt ?_ | refine gd_ff ?_ | refine gd_tf ?_ | refine gd_ft ?_ | refine gd_u ?_ | refine pk_t ?_ | refine pk_f ?_ | refine iff_t ?_ | refine iff_f ?_ | refine not_t ?_ | refine not_f ?_ | refine beq_s ?_ | refine bne_s ?_ | refine ncP_p ?_ | refine nc_p ?_ | refine fld_at ?_ | refine xt_02 ?_ | refine xt_12 ?_ | refine xt_03 ?_ | refine xt_13 ?_ | refine xt_23 ?_ | refine eq_t (by omega) ?_ | refine eq_f (by omega) ?_ | refine ne_t (by omega) ?_ | refine ne_f (by omega) ?_ | refine lt_t (by omega) ?_ | refine lt_f (by omega) ?_ | refine gt_t (by omega) ?_ | refine gt_f (by omega) ?_ | refine ge_t (by omega) ?_ | refine ge_f (by omega) ?_ | refine le_t (by omega) ?_ | refine le_f (by omega) ?_)
      exact hno _ h6.drop
    refine gd_ff (gt_f d3 (pk_f (gd_ff (fld_at (gd_ff (ld1_at h6 0 rfl (v := fd.iv) rfl (gd_ff ?_)))))))
    refine lnS_rd h6 (i + 2) hi6 (fun g hg => ((hr g hg).fed fd hfm).init) ?_
    by_cases d4 : (20 : Int) < fd.Init.length
    · repeat (first | refine gd_tt ?_ | refine gd_ff ?_ | refine gd_tf ?_ | refine gd_ft ?_ | refine gd_u ?_ | refine pk_t ?_ | refine pk_f ?_ | refine iff_t ?_ | refine iff_f ?_ | refine not_t ?_ | refine not_f ?_ | refine beq_s ?_ | refine bne_s ?_ | refine ncP_p ?_ | refine nc_p ?_ | refine fld_at ?_ | refine xt_02 ?_ | refine xt_12 ?_ | refine xt_03 ?_ | refine xt_13 ?_ | refine xt_23 ?_ | refine eq_t (by omega) ?_ | refine eq_f (by omega) ?_ | refine ne_t (by omega) ?_ | refine ne_f (by omega) ?_ | refine lt_t (by omega) ?_ | refine lt_f (by omega) ?_ | refine gt_t (by omega) ?_ | refine gt_f (by omega) ?_ | refine ge_t (by omega) ?_ | refine ge_f (by omega) ?_ | refine le_t (by omega) ?_ | refine le_f (by omega) ?_)
      exact hno _ h6.drop
    refine gd_ff (gt_f d4 (pk_f (iff_f ?_)))
    refine lpi1 (fun q t' w => ∃ n : Nat, n ≤ fd.Rules.length ∧ t' = .int .i64 n ∧ q = fd.Rules.length - n ∧ (∀ r ∈ fd.Rules.take n, r.Sends.length ≤ 1000) ∧ Sat e w (blk t 53 fd.cs :: blk b 25 x.cs :: L)) fd.Rules.length ⟨0, Nat.zero_le _, rfl, rfl, by simp, h6⟩ ?_
    rintro q _ w g2 ⟨n, hn, rfl, rfl, hall2, h7⟩ hg2
    refine fld_at (ld1_at h7 0 rfl (v := fd.rv) rfl ?_)
    refine lnS_rd h7 (i + 2) hi6 (fun g hg => ((hr g hg).fed fd hfm).rules.s) ?_
    refine lt_c (fun c3 => iff_t ?_) (fun c3 => iff_f ?_)
    · obtain ⟨r, hrn⟩ := get_of_lt (l := fd.Rules) (j := n) (by omega)
      have hrm := List.mem_of_getElem? hrn
      refine fld_at (ld1_at h7 0 rfl (v := fd.rv) rfl ?_)
      refine ixS_rd h7 (i + 2) hi6 (fun g hg => ((hr g hg).fed fd hfm).rules.s) (fun _ => rfl) hrn fun a ha => ?_
      refine fld_of ha fun a1 ha1 => ?_
      refine ld1_of h7 (i + 2) hi6 ha1 (v := r.sv) rfl ?_
      refine lnS_rd h7 (i + 2) hi6 (fun g hg => ((hr g hg).fed fd hfm).rules.e r hrm) ?_
      refine gt_c (fun c4 => iff_t (hno _ h7.drop)) (fun c4 => iff_f (inc_s (by omega) ?_))
      refine hg2 _ _ _ (by omega) ⟨n + 1, by omega, rfl, rfl, fun y hy => ?_, h7⟩
      rw [take_snoc hrn] at hy
      rcases List.mem_append.1 hy with h | h
      · exact hall2 y h
      · rw [List.mem_singleton.1 h]; omega
    · have en : n = fd.Rules.length := by omega
      rw [en, List.take_length] at hall2
      refine inc_s (by omega) ?_
      refine hg _ _ _ (by omega) ⟨j + 1, by omega, rfl, rfl, fun y hy => ?_, h7.drop⟩
      rw [take_snoc hf] at hy
      rcases List.mem_append.1 hy with h | h
      · exact hall y h
      · rw [List.mem_singleton.1 h]
        exact ⟨by omega, by omega, by omega, by omega, hall2⟩
  · have ej : j = x.Feds.length := by omega
    rw [ej, List.take_length] at hall
    exact hk _ true h2.drop fun _ => ⟨by omega, by omega, hall⟩
end Go.Proofs.Ytfcnjbannejchaa
