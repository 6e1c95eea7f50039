/- The document's run: New, Next, Steps. Conditions: the federation's lists are short; at most a thousand steps. -/
import Derived.Test.YtfcnjbannejchaaSoloW
namespace Go.Proofs.Ytfcnjbannejchaa
open Go Go.E
set_option maxRecDepth 100000
variable {e w : World} {L Q : List HP} {K : KV} {S S2 : HP}

structure RefOk (wd : Wd) (R : RS) (k : Nat) (ds : List Done) : Prop where
  may : WdOk wd
  run : RunOk wd R k
  logs : ∀ g : Int, logR R g = ds.filter fun d => decide (d.m.To = g)
  len : ds.length ≤ k
structure RefV where
  sv : Value
  qv : Value
  wv : Value
  dv : Value
  ds : List Done
def IsRef (r : Nat) (x : WdX) (R : RS) (k : Nat) : HP := hex fun p : RefV => sepL [pur (RefOk x.w R k p.ds), blk r 84 (x.cs ++ [p.sv, p.qv, p.wv, p.dv]), ownS 3 1 (intsK .i64) p.sv (R.feds.map FA.st), ownS 3 1 (intsK .i64) p.qv (R.feds.map FA.sent), ownS 37 6 Msg.cs p.wv R.wait, ownS 39 7 Done.cs p.dv p.ds]
theorem ref_of {r k : Nat} {x : WdX} {R : RS} (h : Sat e w (IsRef r x R k :: Q)) : ∃ sv qv wv dv ds, RefOk x.w R k ds ∧ Sat e w (blk r 84 (x.cs ++ [sv, qv, wv, dv]) :: ownS 3 1 (intsK .i64) sv (R.feds.map FA.st) :: ownS 3 1 (intsK .i64) qv (R.feds.map FA.sent) :: ownS 37 6 Msg.cs wv R.wait :: ownS 39 7 Done.cs dv ds :: Q) := by
  obtain ⟨p, h0⟩ := h.ex
  exact ⟨p.sv, p.qv, p.wv, p.dv, p.ds, Sat.pure h0.split⟩
theorem ref_mk {r k : Nat} {x : WdX} {R : RS} {sv qv wv dv : Value} {ds : List Done} (hp : RefOk x.w R k ds) (h : Sat e w (blk r 84 (x.cs ++ [sv, qv, wv, dv]) :: ownS 3 1 (intsK .i64) sv (R.feds.map FA.st) :: ownS 3 1 (intsK .i64) qv (R.feds.map FA.sent) :: ownS 37 6 Msg.cs wv R.wait :: ownS 39 7 Done.cs dv ds :: Q)) : Sat e w (IsRef r x R k :: Q) :=
  .mk_ex ⟨sv, qv, wv, dv, ds⟩ (.join (l' := [_, _, _, _, _, _]) (.mk_pure hp h))
theorem Sat.unpick {X : HP} {l : List HP} (i : Nat) (hi : l[i]? = some S) (h : Sat e w (X :: S :: l.eraseIdx i)) : Sat e w (X :: l) := h.perm (List.Perm.cons X (pick_perm l i S hi).symm)
theorem int_flat : ∀ x : Int, ∀ v ∈ intsK .i64 x, flat v = true := fun _ _ h => by simp [intsK] at h; subst h; rfl
theorem logR_init (wd : Wd) (g : Int) : logR (initR wd) g = [] := by
  unfold logR initR
  split
  · rw [List.getElem?_map]
    cases wd.Feds[g.toNat]? <;> rfl
  · rfl
theorem ref09_New_s {x : WdX} (i : Nat) (hi : L[i]? = some S) (hS : Sat e w L) (hr : ∀ g, S g → RdWd x g) (hs : x.short)
    (hbad : (checkW x.w).2 ≠ 0 → ∀ w', Sat e w' L → K (.tuple #[.pointer none, .int .i64 (checkW x.w).2]) w')
    (hok : (checkW x.w).2 = 0 → ∀ r w', Sat e w' (IsRef r x (initR x.w) 0 :: L) → K (.tuple #[.pointer (some ⟨r, 0, none⟩), .int .i64 0]) w') : Cl prog 15 #[.agg x.cs.toArray] w K := by
  refine pacelineref09_New_calls ?_
  unfold pacelineref09_New
  refine al_s (cs := x.cs) hS rfl fun b w1 h1 => ?_
  refine ldN_at h1 0 (vs := x.cs) rfl (by rfl) rfl ?_
  refine ref08_Check_s (x := x) (i + 1) (by simpa using hi) h1 hr hs fun w2 h2 => ?_
  refine xt_02 (xt_12 ?_)
  refine ne_c (fun c1 => iff_t (hbad c1 _ h2.drop)) (fun c1 => iff_f ?_)
  have hwd := checkW_ok c1
  have hfl := hs.feds
  have hflat := wd_cells i hi hS hr
  refine ldN_at h2 0 (vs := x.cs) rfl (by rfl) rfl ?_
  refine bld_s (x.cs ++ [.slice none 0 0, .slice none 0 0, .slice none 0 0, .slice none 0 0]) (by kernel_rfl) ?_
  refine al_s (cs := x.cs ++ [.slice none 0 0, .slice none 0 0, .slice none 0 0, .slice none 0 0]) h2 rfl fun r w3 h3 => ?_
  refine lpi1 (fun q t7 w => ∃ (j : Nat) (sv qv : Value), j ≤ x.Feds.length ∧ t7 = .int .i64 j ∧ q = x.Feds.length - j ∧
      Sat e w (ownS 3 1 (intsK .i64) sv ((x.Feds.take j).map fun f => f.Start) :: ownS 3 1 (intsK .i64) qv ((x.Feds.take j).map fun f => (f.Init.length : Int)) :: blk r 84 (x.cs ++ [sv, qv, .slice none 0 0, .slice none 0 0]) :: blk b 25 x.cs :: L)) x.Feds.length
    ⟨0, .slice none 0 0, .slice none 0 0, Nat.zero_le _, rfl, rfl, (h3.own_nil 3 1 (intsK .i64)).own_nil 3 1 (intsK .i64)⟩ ?_
  rintro q _ w g ⟨j, sv, qv, hj, rfl, rfl, h4⟩ hg
  refine fld_at (ld1_at h4 3 rfl (v := x.fv) rfl ?_)
  refine lnS_rd h4 (i + 4) (by simpa using hi) (fun g hg => (hr g hg).feds) ?_
  refine lt_c (fun c0 => iff_t ?_) (fun c0 => iff_f ?_)
  · obtain ⟨fd, hf⟩ := get_of_lt (l := x.Feds) (j := j) (by omega)
    have hfm := List.mem_of_getElem? hf
    refine dr_s h4 fun w5 h5 => ?_
    refine ncP_p (fld_at (ld1_at h5 2 rfl (v := sv) rfl ?_))
    refine fld_at (ld1_at h5 3 rfl (v := x.fv) rfl ?_)
    refine ixS_rd h5 (i + 4) (by simpa using hi) (fun g hg => (hr g hg).feds) (fun _ => rfl) hf fun a ha => ?_
    refine fld_of ha fun a1 ha1 => ld1_of h5 (i + 4) (by simpa using hi) ha1 (v := .int .i64 fd.Start) rfl ?_
    refine bsl1 (vs := intsK .i64 fd.Start) rfl rfl h5 fun bb w6 h6 => ?_
    refine ⟨ld1_at h6 3 rfl (v := sv) rfl ⟨rfl, rfl⟩, ?_⟩
    refine apS_own te_22 te_22.und (f := intsK .i64) (m := [fd.Start]) (fun _ => rfl) int_flat h6.swap (blk_rd1 (f := intsK .i64) (x := fd.Start) (Nat.le_refl _)) (by simp; omega) fun sv' w7 h7 => ?_
    have q1 := h7.own_cells 0 rfl
    refine ncP_p (fld_at (stN_at h7 3 rfl (vs := [sv']) q1.1 rfl (Nat.le_of_ble_eq_true rfl) (fun c hc => by rw [List.mem_singleton.1 hc]; exact q1.2) (cs' := x.cs ++ [sv', qv, .slice none 0 0, .slice none 0 0]) (by rfl) fun w8 h8 => ?_))
    refine dr_s h8 fun w9 h9 => ?_
    refine ncP_p (fld_at (ld1_at h9 3 rfl (v := qv) rfl ?_))
    refine fld_at (ld1_at h9 4 rfl (v := x.fv) rfl ?_)
    refine ixS_rd h9 (i + 5) (by simpa using hi) (fun g hg => (hr g hg).feds) (fun _ => rfl) hf fun a ha => ?_
    refine fld_of ha fun a1 ha1 => ld1_of h9 (i + 5) (by simpa using hi) ha1 (v := fd.iv) rfl ?_
    refine lnS_rd h9 (i + 5) (by simpa using hi) (fun g hg => ((hr g hg).fed fd hfm).init) ?_
    refine bsl1 (vs := intsK .i64 (fd.Init.length : Int)) rfl rfl h9 fun bb2 w10 h10 => ?_
    refine ⟨ld1_at h10 4 rfl (v := qv) rfl ⟨rfl, rfl⟩, ?_⟩
    refine apS_own te_22 te_22.und (f := intsK .i64) (m := [(fd.Init.length : Int)]) (fun _ => rfl) int_flat (h10.selR [_, _, _, _] [_, _, _, _] [3, 0, 1, 2] (by decide) rfl) (blk_rd1 (f := intsK .i64) (x := (fd.Init.length : Int)) (Nat.le_refl _)) (by simp; omega) fun qv' w11 h11 => ?_
    have q2 := h11.own_cells 0 rfl
    refine ncP_p (fld_at (stN_at h11 4 rfl (vs := [qv']) q2.1 rfl (Nat.le_of_ble_eq_true rfl) (fun c hc => by rw [List.mem_singleton.1 hc]; exact q2.2) (cs' := x.cs ++ [sv', qv', .slice none 0 0, .slice none 0 0]) (by rfl) fun w12 h12 => ?_))
    refine inc_s (by omega) ?_
    refine hg _ _ _ (by omega) ⟨j + 1, sv', qv', by omega, rfl, rfl, ?_⟩
    rw [take_snoc hf, List.map_append, List.map_append]
    exact h12.selR [_, _, _, _, _] [_, _, _] [2, 0, 4] (by decide) rfl
  · have ej : j = x.Feds.length := by omega
    rw [ej, List.take_length] at h4
    refine ldN_at h4 3 (vs := x.cs) rfl (by rfl) rfl ?_
    have hfl2 : x.w.Feds.length = x.Feds.length := by simp [WdX.w]
    refine ref08_Starts_s (x := x) (i + 4) (by simpa using hi) h4 hr hs hwd.tree (by rw [← hfl2]; exact hwd.n.2) (fun f hf => ?_) fun mv w6 h6 hml => ?_
    · have := hwd.init f.f (List.mem_map_of_mem hf)
      exact ⟨this.1, fun o ho => (this.2 o ho).1⟩
    refine ref09_Put_s (l := []) 0 rfl (h6.own_nil 37 6 Msg.cs) (fun g hg => own_rd hg) (by simp; omega) fun wv w7 h7 => ?_
    have q1 := h7.own_cells 0 rfl
    refine ncP_p (fld_at (stN_at h7 4 rfl (vs := [wv]) q1.1 rfl (Nat.le_of_ble_eq_true rfl) (fun c hc => by rw [List.mem_singleton.1 hc]; exact q1.2) (cs' := x.cs ++ [sv, qv, wv, .slice none 0 0]) (by rfl) fun w8 h8 => ?_))
    refine hok c1 r _ (ref_mk (sv := sv) (qv := qv) (wv := wv) (dv := .slice none 0 0) (ds := []) ⟨hwd, runOk_init hwd, fun g => by rw [logR_init]; rfl, Nat.le_refl _⟩ ?_)
    have e1 : (initR x.w).feds.map FA.st = x.Feds.map fun f => f.Start := by simp only [initR, WdX.w, List.map_map]; rfl
    have e2 : (initR x.w).feds.map FA.sent = x.Feds.map fun f => (f.Init.length : Int) := by simp only [initR, WdX.w, List.map_map]; rfl
    have e3 : (initR x.w).wait = putL [] (startsL x.w.Parents x.w.Feds x.w.Feds) := rfl
    rw [e1, e2, e3]
    have h9 := h8.own_nil 39 7 Done.cs
    exact h9.selR [_, _, _, _, _, _, _] [_, _, _, _, _] [5, 3, 4, 1, 0] (by decide) rfl

theorem next_logI {wd : Wd} {R R' : RS} {d : Done} (h : nextR wd R = some (d, R')) (g : Int) (h0 : 0 ≤ d.m.To) : logR R' g = logR R g ++ if d.m.To = g then [d] else [] := by
  by_cases hg : 0 ≤ g
  · obtain ⟨n, rfl⟩ : ∃ n : Nat, g = n := ⟨g.toNat, by omega⟩
    exact next_log h n h0
  · unfold logR
    rw [if_neg hg, if_neg hg, if_neg (by omega)]
    rfl
theorem ref09_Next_s {r k : Nat} {x : WdX} {R : RS} (hk0 : k ≤ 1000) (i : Nat) (hi : Q[i]? = some S) (hS : Sat e w (IsRef r x R k :: Q)) (hr : ∀ g, S g → RdWd x g) (hs : x.short)
    (hno : nextR x.w R = none → ∀ w', Sat e w' (IsRef r x R k :: Q) → K (.tuple #[.agg Done.zero.cs.toArray, .bool false]) w')
    (hyes : ∀ d R', nextR x.w R = some (d, R') → ∀ w', Sat e w' (IsRef r x R' (k + 1) :: Q) → K (.tuple #[.agg d.cs.toArray, .bool true]) w') :
    Cl prog 36 #[.pointer (some ⟨r, 0, none⟩)] w K := by
  refine pacelineref09_Run_Next_calls ?_
  unfold pacelineref09_Run_Next
  obtain ⟨sv, qv, wv, dv, ds, hR, hS1⟩ := ref_of hS
  rw [zero_39, zero_37]
  refine al_s (cs := Done.zero.cs) hS1 rfl fun t2 w1 h1 => ?_
  refine dr_s h1 fun w2 h2 => ?_
  have hnone : nextR x.w R = none → ∀ w', Sat e w' (blk t2 39 Done.zero.cs :: blk r 84 (x.cs ++ [sv, qv, wv, dv]) :: ownS 3 1 (intsK .i64) sv (R.feds.map FA.st) :: ownS 3 1 (intsK .i64) qv (R.feds.map FA.sent) :: ownS 37 6 Msg.cs wv R.wait :: ownS 39 7 Done.cs dv ds :: Q) →
      bld (zeroD prog 39) #[(0, 6), (6, 1)] [] w' fun t31 w => stN 7 (.pointer (some ⟨t2, 0, none⟩)) t31 w fun _ w => ldN 7 (.pointer (some ⟨t2, 0, none⟩)) w fun r0 _ => K (.tuple #[r0, .bool false]) w := by
    intro hn w' h'
    refine bld_s Done.zero.cs (by kernel_rfl) ?_
    refine stN_at h' 0 rfl (vs := Done.zero.cs) rfl rfl (by decide) (ints_flat _) (cs' := Done.zero.cs) (by kernel_rfl) fun w3 h3 => ?_
    refine ldN_at h3 0 (vs := Done.zero.cs) rfl (by rfl) rfl ?_
    exact hno hn _ (ref_mk hR h3.drop)
  rw [zero_39] at hnone
  refine ncP_p (fld_at (ld1_at h2 1 rfl (v := wv) rfl ?_))
  refine lnS_rd h2 4 rfl (fun g hg => own_rd hg) ?_
  cases hwait : R.wait with
  | nil =>
    refine eq_t (by rfl) ?_
    repeat (first | refine gd_tt ?_ | refine gd_ff ?_ | refine gd_tf ?_ | refine gd_ft ?_ | refine gd_u ?_ | refine pk_t ?_ | refine pk_f ?_ | refine iff_t ?_ | refine iff_f ?_ | refine not_t ?_ | refine not_f ?_ | refine beq_s ?_ | refine bne_s ?_ | refine ncP_p ?_ | refine nc_p ?_ | refine fld_at ?_ | refine xt_02 ?_ | refine xt_12 ?_ | refine xt_03 ?_ | refine xt_13 ?_ | refine xt_23 ?_ | refine eq_t (by omega) ?_ | refine eq_f (by omega) ?_ | refine ne_t (by omega) ?_ | refine ne_f (by omega) ?_ | refine lt_t (by omega) ?_ | refine lt_f (by omega) ?_ | refine gt_t (by omega) ?_ | refine gt_f (by omega) ?_ | refine ge_t (by omega) ?_ | refine ge_f (by omega) ?_ | refine le_t (by omega) ?_ | refine le_f (by omega) ?_)
    exact hnone (nextR_none (.inl hwait)) _ h2
  | cons m rest =>
    refine eq_f (by simp; omega) (gd_ff (gd_ff (nc_p ?_)))
    have hm0 : R.wait[0]? = some m := by rw [hwait]; rfl
    refine gd_ff (fld_at (gd_ff (ld1_at h2 1 rfl (v := wv) rfl ?_)))
    refine gd_ff (ixS_rd (j := 0) h2 4 rfl (fun g hg => own_rd hg) (fun _ => rfl) hm0 fun p hp => ?_)
    refine gd_ff (fld_of hp fun p1 hp1 => gd_ff (fld_of hp1 fun p2 hp2 => gd_ff ?_))
    refine ld1_of h2 4 rfl hp2 (v := .int .i64 m.key.T) rfl ?_
    refine gd_ff (gd_ff (nc_p ?_))
    refine gd_ff (fld_at (gd_ff (fld_at (gd_ff (ld1_at h2 1 rfl (v := .int .i64 x.End) rfl ?_)))))
    have hEnd : x.w.End = x.End := rfl
    refine gd_ff (ge_c (fun c1 => ?_) (fun c1 => ?_))
    · refine pk_f (iff_t ?_)
      exact hnone (nextR_none (.inr ⟨m, rest, hwait, c1⟩)) _ h2
    refine pk_f (iff_f ?_)
    refine ncP_p (fld_at (ld1_at h2 1 rfl (v := wv) rfl ?_))
    refine ixS_rd (j := 0) h2 4 rfl (fun g hg => own_rd hg) (fun _ => rfl) hm0 fun p hp => ?_
    refine ldN_of h2 4 rfl hp rfl ?_
    refine al_s (cs := Msg.zero.cs) h2 rfl fun t4 w5 h5 => ?_
    refine stN_at h5 0 rfl (vs := m.cs) rfl rfl (by decide) (ints_flat _) (cs' := m.cs) (by rfl) fun w6 h6 => ?_
    refine bsl0 h6 Msg.cs fun rv w7 h7 => ?_
    refine ncP_p (fld_at (ld1_at h7 3 rfl (v := wv) rfl ?_))
    refine slc_from (lo := 1) h7 6 rfl (fun g hg => own_rd hg) (fun _ => rfl) (by rw [hwait]; simp) fun wv1 hwv1 => ?_
    have hdrop : R.wait.drop 1 = rest := by rw [hwait]; rfl
    rw [hdrop] at hwv1
    have hcnt := hR.run.cnt
    have hwl : R.wait.length = rest.length + 1 := by rw [hwait]; rfl
    have h8 := h7.selR [_, _, _, _, _, _, _] [_, _, _, _, _, _, _] [0, 6, 1, 2, 3, 4, 5] (by decide) rfl
    refine apS_own te_58 und_58 (f := Msg.cs) (m := rest) (fun _ => rfl) (fun _ => ints_flat _) h8 hwv1 (by simp; omega) fun rv1 w9 h9 => ?_
    rw [List.nil_append] at h9
    replace h9 : Sat e w9 (ownS 37 6 Msg.cs rv1 rest :: ownS 37 6 Msg.cs wv R.wait :: blk t4 37 m.cs :: blk t2 39 Done.zero.cs :: blk r 84 (x.cs ++ [sv, qv, wv, dv]) :: ownS 3 1 (intsK .i64) sv (R.feds.map FA.st) :: ownS 3 1 (intsK .i64) qv (R.feds.map FA.sent) :: ownS 39 7 Done.cs dv ds :: Q) := h9
    clear h1 h2 h5 h6 h7 h8 hnone
    obtain ⟨t1, t2', t3, t4'⟩ := hR.run.to m (by rw [hwait]; simp)
    obtain ⟨n, hn⟩ : ∃ n : Nat, m.To = n := ⟨m.To.toNat, by omega⟩
    have hfl : R.feds.length = x.w.Feds.length := hR.run.len
    have hn8 := hR.may.n.2
    obtain ⟨a, ha⟩ := get_of_lt (l := R.feds) (j := n) (by omega)
    have hxl : x.w.Feds.length = x.Feds.length := by simp [WdX.w]
    obtain ⟨fd, hfd⟩ := get_of_lt (l := x.Feds) (j := n) (by omega)
    have hfdm := List.mem_of_getElem? hfd
    have hwf : x.w.Feds[m.To.toNat]? = some fd.f := by rw [hn, Int.toNat_natCast]; simp only [WdX.w]; rw [List.getElem?_map, hfd]; rfl
    have hRa : R.feds[m.To.toNat]? = some a := by rw [hn, Int.toNat_natCast, ha]
    have hnext := nextR_take (wd := x.w) hwait (by omega) hwf hRa
    have hsent := hR.run.sent a (List.mem_of_getElem? hRa)
    have hsf := hs.fed fd hfdm
    have hst : (R.feds.map FA.st)[n]? = some a.st := by rw [List.getElem?_map, ha]; rfl
    have hsq : (R.feds.map FA.sent)[n]? = some a.sent := by rw [List.getElem?_map, ha]; rfl
    refine fld_at (ld1_at h9 2 rfl (v := .int .i64 m.To) rfl ?_)
    refine dr_s h9 fun w10 h10 => ?_
    refine ncP_p (fld_at (fld_at (ld1_at h10 4 rfl (v := x.fv) rfl ?_)))
    rw [hn]
    refine ixS_rd h10 (i + 8) (by simpa using hi) (fun g hg => (hr g hg).feds) (fun _ => rfl) hfd fun p hp => ?_
    refine fld_of hp fun p1 hp1 => ld1_of h10 (i + 8) (by simpa using hi) hp1 (v := fd.rv) rfl ?_
    refine ncP_p (fld_at (ld1_at h10 4 rfl (v := sv) rfl ?_))
    refine ixS_rd h10 5 rfl (fun g hg => own_rd hg) (fun _ => rfl) hst fun p hp => ?_
    refine ld1_of h10 5 rfl hp (v := .int .i64 a.st) rfl ?_
    refine fld_at (ld1_at h10 2 rfl (v := .int .i64 m.Class) rfl ?_)
    refine ref07_Step_s (l := fd.Rules) (s := a.st) (c := m.Class) (h10.pick (i + 8) (by simpa using hi)) (fun g hg => ((hr g hg).fed fd hfdm).rules) hsf.rules hsf.sends fun ov w11 h11 => ?_
    replace h11 : Sat e w11 (ownS 63 3 Out.cs ov (stepR (fd.Rules.map RuleX.r) a.st m.Class).2 :: ownS 37 6 Msg.cs rv1 rest :: ownS 37 6 Msg.cs wv R.wait :: blk t4 37 m.cs :: blk t2 39 Done.zero.cs :: blk r 84 (x.cs ++ [sv, qv, wv, dv]) :: ownS 3 1 (intsK .i64) sv (R.feds.map FA.st) :: ownS 3 1 (intsK .i64) qv (R.feds.map FA.sent) :: ownS 39 7 Done.cs dv ds :: Q) :=
      Sat.unpick (i + 8) (by simpa using hi) h11
    generalize hso : stepR (fd.Rules.map RuleX.r) a.st m.Class = so at h11 ⊢
    have hso' : stepR fd.f.Rules a.st m.Class = so := hso
    have houts := step_outs hR.may (List.mem_of_getElem? hwf) a.st m.Class
    rw [hso'] at houts
    have hx3 : x.w.Parents = x.Parents := rfl
    refine xt_02 (xt_12 ?_)
    refine ncP_p (fld_at (ld1_at h11 5 rfl (v := sv) rfl ?_))
    refine st_own (x := so.1) h11 6 rfl (fun _ => rfl) (by rw [List.length_map]; omega) rfl (int_flat _) fun w12 h12 => ?_
    replace h12 : Sat e w12 (ownS 63 3 Out.cs ov so.2 :: ownS 37 6 Msg.cs rv1 rest :: ownS 37 6 Msg.cs wv R.wait :: blk t4 37 m.cs :: blk t2 39 Done.zero.cs :: blk r 84 (x.cs ++ [sv, qv, wv, dv]) :: ownS 3 1 (intsK .i64) sv ((R.feds.map FA.st).set n so.1) :: ownS 3 1 (intsK .i64) qv (R.feds.map FA.sent) :: ownS 39 7 Done.cs dv ds :: Q) := h12
    refine dr_s h12 fun w13 h13 => ?_
    refine ncP_p (fld_at (ldN_at h13 5 (vs := x.cs) rfl (by rfl) rfl ?_))
    refine ncP_p (fld_at (ld1_at h13 5 rfl (v := qv) rfl ?_))
    refine ixS_rd h13 7 rfl (fun g hg => own_rd hg) (fun _ => rfl) hsq fun p hp => ?_
    refine ld1_of h13 7 rfl hp (v := .int .i64 a.sent) rfl ?_
    refine fld_at (fld_at (ld1_at h13 3 rfl (v := .int .i64 m.key.T) rfl ?_))
    refine fld_at (ld1_at h13 3 rfl (v := .int .i64 m.Body) rfl ?_)
    rw [← hn]
    refine ref08_Spread_s (x := x) (outs := so.2) (i + 9) 0 (by simpa using hi) rfl h13 hr (fun g hg => own_rd hg) hs hR.may.tree (fun o ho => (houts.2 o ho).1) (by omega) t3 ⟨hsent.1, by have := hsent.2.1; omega⟩ fun mv w14 h14 => ?_
    generalize hms : spreadL x.w.Parents x.w.Feds m.To a.sent m.key.T m.Body so.2 = ms at h14
    have hmsl : ms.length ≤ 24 := by
      have h12 := spreadL_len x.w.Parents x.w.Feds m.To a.sent m.key.T m.Body so.2
      have h13 : so.2.length * x.w.Feds.length ≤ 3 * 8 := Nat.mul_le_mul houts.1 hR.may.n.2
      rw [hms] at h12
      omega
    refine ref09_Put_s (ms := ms) 0 rfl (h14.selR [_, _, _] [_, _, _] [2, 0, 1] (by decide) rfl) (fun g hg => own_rd hg) (by omega) fun wv' w15 h15 => ?_
    have q1 := h15.own_cells 0 rfl
    refine ncP_p (fld_at (stN_at h15 6 rfl (vs := [wv']) q1.1 rfl (Nat.le_of_ble_eq_true rfl) (fun c hc => by rw [List.mem_singleton.1 hc]; exact q1.2) (cs' := x.cs ++ [sv, qv, wv', dv]) (by rfl) fun w16 h16 => ?_))
    replace h16 : Sat e w16 (ownS 37 6 Msg.cs wv' (putL rest ms) :: ownS 37 6 Msg.cs mv ms :: ownS 63 3 Out.cs ov so.2 :: ownS 37 6 Msg.cs wv R.wait :: blk t4 37 m.cs :: blk t2 39 Done.zero.cs :: blk r 84 (x.cs ++ [sv, qv, wv', dv]) :: ownS 3 1 (intsK .i64) sv ((R.feds.map FA.st).set n so.1) :: ownS 3 1 (intsK .i64) qv (R.feds.map FA.sent) :: ownS 39 7 Done.cs dv ds :: Q) := h16
    refine dr_s h16 fun w17 h17 => ?_
    refine ncP_p (fld_at (ld1_at h17 6 rfl (v := qv) rfl ?_))
    refine ncP_p (fld_at (ld1_at h17 6 rfl (v := qv) rfl ?_))
    rw [hn]
    refine ixS_rd h17 8 rfl (fun g hg => own_rd hg) (fun _ => rfl) hsq fun p hp => ?_
    refine ld1_of h17 8 rfl hp (v := .int .i64 a.sent) rfl ?_
    refine lnS_rd h17 2 rfl (fun g hg => own_rd hg) ?_
    have hsu := hsent.2.1
    have hsl := hsent.1
    refine add_s (by omega) (by omega) ?_
    refine st_own' (x := a.sent + so.2.length) h17 8 rfl (fun _ => rfl) (by rw [List.length_map]; omega) rfl (int_flat _) fun w18 h18 => ?_
    replace h18 : Sat e w18 (ownS 37 6 Msg.cs wv' (putL rest ms) :: ownS 37 6 Msg.cs mv ms :: ownS 63 3 Out.cs ov so.2 :: ownS 37 6 Msg.cs wv R.wait :: blk t4 37 m.cs :: blk t2 39 Done.zero.cs :: blk r 84 (x.cs ++ [sv, qv, wv', dv]) :: ownS 3 1 (intsK .i64) sv ((R.feds.map FA.st).set n so.1) :: ownS 3 1 (intsK .i64) qv ((R.feds.map FA.sent).set n (a.sent + so.2.length)) :: ownS 39 7 Done.cs dv ds :: Q) := h18
    refine ldN_at h18 4 (vs := m.cs) rfl (by rfl) rfl ?_
    refine bld_s (⟨m, so.1⟩ : Done).cs (by kernel_rfl) ?_
    refine al_s (cs := Done.zero.cs) h18 rfl fun t9 w19 h19 => ?_
    refine stN_at h19 0 rfl (vs := (⟨m, so.1⟩ : Done).cs) rfl rfl (Nat.le_of_ble_eq_true rfl) (ints_flat _) (cs' := (⟨m, so.1⟩ : Done).cs) (by rfl) fun w20 h20 => ?_
    refine dr_s h20 fun w21 h21 => ?_
    refine ncP_p (fld_at (ld1_at h21 7 rfl (v := dv) rfl ?_))
    refine ldN_at h21 0 (vs := (⟨m, so.1⟩ : Done).cs) rfl (by rfl) rfl ?_
    refine bsl1 (vs := (⟨m, so.1⟩ : Done).cs) rfl rfl h21 fun bb w22 h22 => ?_
    refine ⟨ld1_at h22 8 rfl (v := dv) rfl ⟨rfl, rfl⟩, ?_⟩
    have hlen := hR.len
    refine apS_own te_42 te_42.und (f := Done.cs) (l := ds) (m := [⟨m, so.1⟩]) (fun _ => rfl) (fun _ => ints_flat _) (h22.selR [_, _, _, _, _, _, _, _, _, _, _, _] [_, _, _, _, _, _, _, _, _, _, _, _] [11, 0, 1, 2, 3, 4, 5, 6, 7, 8, 9, 10] (by decide) rfl) (blk_rd1 (f := Done.cs) (x := ⟨m, so.1⟩) (Nat.le_refl _)) (by simp; omega) fun dv' w23 h23 => ?_
    have q2 := h23.own_cells 0 rfl
    refine ncP_p (fld_at (stN_at h23 9 rfl (vs := [dv']) q2.1 rfl (Nat.le_of_ble_eq_true rfl) (fun c hc => by rw [List.mem_singleton.1 hc]; exact q2.2) (cs' := x.cs ++ [sv, qv, wv', dv']) (by rfl) fun w24 h24 => ?_))
    refine ldN_at h24 2 (vs := (⟨m, so.1⟩ : Done).cs) rfl (by rfl) rfl ?_
    refine stN_at h24 8 rfl (vs := (⟨m, so.1⟩ : Done).cs) rfl rfl (Nat.le_of_ble_eq_true rfl) (ints_flat _) (cs' := (⟨m, so.1⟩ : Done).cs) (by rfl) fun w25 h25 => ?_
    refine ldN_at h25 8 (vs := (⟨m, so.1⟩ : Done).cs) rfl (by rfl) rfl ?_
    have hT : takeM x.w fd.f a m rest R = (⟨m, so.1⟩, ⟨R.feds.set n ⟨so.1, a.sent + so.2.length, a.log ++ [⟨m, so.1⟩]⟩, putL rest ms⟩) := by
      unfold takeM
      rw [hso', hms, hn, Int.toNat_natCast]
    rw [hT] at hnext
    refine hyes _ _ hnext _ (ref_mk (sv := sv) (qv := qv) (wv := wv') (dv := dv') (ds := ds ++ [⟨m, so.1⟩]) ⟨hR.may, runOk_next hR.may hR.run hnext, fun g => ?_, by rw [List.length_append, List.length_singleton]; omega⟩ ?_)
    · rw [next_logI hnext g t1, hR.logs g, List.filter_append]
      congr 1
      by_cases hg : m.To = g
      · rw [if_pos hg]
        simp [hg]
      · rw [if_neg hg]
        simp [hg]
    · show Sat e w25 (blk r 84 (x.cs ++ [sv, qv, wv', dv']) :: ownS 3 1 (intsK .i64) sv ((R.feds.set n ⟨so.1, a.sent + so.2.length, a.log ++ [⟨m, so.1⟩]⟩).map FA.st) :: ownS 3 1 (intsK .i64) qv ((R.feds.set n ⟨so.1, a.sent + so.2.length, a.log ++ [⟨m, so.1⟩]⟩).map FA.sent) :: ownS 37 6 Msg.cs wv' (putL rest ms) :: ownS 39 7 Done.cs dv' (ds ++ [⟨m, so.1⟩]) :: Q)
      rw [set_map, set_map]
      exact h25.selR [_, _, _, _, _, _, _, _, _, _, _, _] [_, _, _, _, _] [9, 10, 11, 3, 0] (by decide) rfl
theorem ref09_Steps_s {r k n : Nat} {x : WdX} {R : RS} (hk0 : k + n ≤ 1000) (i : Nat) (hi : Q[i]? = some S) (hS : Sat e w (IsRef r x R k :: Q)) (hr : ∀ g, S g → RdWd x g) (hs : x.short)
    (hk : ∀ w', Sat e w' (IsRef r x (stepsR x.w n R).2 (k + (stepsR x.w n R).1) :: Q) → K (.int .i64 (stepsR x.w n R).1) w') :
    Cl prog 17 #[.pointer (some ⟨r, 0, none⟩), .int .i64 n] w K := by
  refine pacelineref09_Run_Steps_calls ?_
  unfold pacelineref09_Run_Steps
  refine lpi1 (fun q t5 w => ∃ (j : Nat) (R' : RS), j ≤ n ∧ t5 = .int .i64 j ∧ q = n - j ∧ stepsR x.w n R = (j + (stepsR x.w (n - j) R').1, (stepsR x.w (n - j) R').2) ∧ Sat e w (IsRef r x R' (k + j) :: Q)) n
    ⟨0, R, Nat.zero_le _, rfl, rfl, by simp, hS⟩ ?_
  rintro q _ w g ⟨j, R', hj, rfl, rfl, heq, h1⟩ hg
  rw [zero_39]
  refine lt_c (fun c => iff_t ?_) (fun c => iff_f ?_)
  · obtain ⟨m, hm⟩ : ∃ m, n - j = m + 1 := ⟨n - j - 1, by omega⟩
    rw [hm, stepsR_succ] at heq
    refine ref09_Next_s (x := x) (by omega) i hi h1 hr hs (fun hno w2 h2 => ?_) (fun d R2 hyes w2 h2 => ?_)
    · rw [hno] at heq
      repeat (first | refine gd_tt ?_ | refine gd_ff ?_ | refine gd_tf ?_ | refine gd_ft ?_ | refine gd_u ?_ | refine pk_t ?_ | refine pk_f ?_ | refine iff_t ?_ | refine iff_f ?_ | refine not_t ?_ | refine not_f ?_ | refine beq_s ?_ | refine bne_s ?_ | refine ncP_p ?_ | refine nc_p ?_ | refine fld_at ?_ | refine xt_02 ?_ | refine xt_12 ?_ | refine xt_03 ?_ | refine xt_13 ?_ | refine xt_23 ?_ | refine eq_t (by omega) ?_ | refine eq_f (by omega) ?_ | refine ne_t (by omega) ?_ | refine ne_f (by omega) ?_ | refine lt_t (by omega) ?_ | refine lt_f (by omega) ?_ | refine gt_t (by omega) ?_ | refine gt_f (by omega) ?_ | refine ge_t (by omega) ?_ | refine ge_f (by omega) ?_ | refine le_t (by omega) ?_ | refine le_f (by omega) ?_)
      refine al_s (cs := Done.zero.cs) h2 rfl fun t w3 h3 => ?_
      refine stN_at h3 0 rfl (vs := Done.zero.cs) rfl rfl (by decide) (ints_flat _) (cs' := Done.zero.cs) (by rfl) fun w4 h4 => ?_
      refine not_f (iff_t ?_)
      have heq' : stepsR x.w n R = (j, R') := heq
      rw [heq'] at hk
      exact hk _ h4.drop
    · rw [hyes] at heq
      repeat (first | refine gd_tt ?_ | refine gd_ff ?_ | refine gd_tf ?_ | refine gd_ft ?_ | refine gd_u ?_ | refine pk_t ?_ | refine pk_f ?_ | refine iff_t ?_ | refine iff_f ?_ | refine not_t ?_ | refine not_f ?_ | refine beq_s ?_ | refine bne_s ?_ | refine ncP_p ?_ | refine nc_p ?_ | refine fld_at ?_ | refine xt_02 ?_ | refine xt_12 ?_ | refine xt_03 ?_ | refine xt_13 ?_ | refine xt_23 ?_ | refine eq_t (by omega) ?_ | refine eq_f (by omega) ?_ | refine ne_t (by omega) ?_ | refine ne_f (by omega) ?_ | refine lt_t (by omega) ?_ | refine lt_f (by omega) ?_ | refine gt_t (by omega) ?_ | refine gt_f (by omega) ?_ | refine ge_t (by omega) ?_ | refine ge_f (by omega) ?_ | refine le_t (by omega) ?_ | refine le_f (by omega) ?_)
      refine al_s (cs := Done.zero.cs) h2 rfl fun t w3 h3 => ?_
      refine stN_at h3 0 rfl (vs := d.cs) rfl rfl (by decide) (ints_flat _) (cs' := d.cs) (by rfl) fun w4 h4 => ?_
      refine not_t (iff_f (inc_s (by omega) ?_))
      refine hg _ _ _ (by omega) ⟨j + 1, R2, by omega, rfl, rfl, ?_, h4.drop⟩
      rw [heq, show n - (j + 1) = m from by omega]
      simp only [Prod.mk.injEq, and_true]
      omega
  · have ej : n - j = 0 := by omega
    rw [ej] at heq
    have heq' : stepsR x.w n R = (j, R') := heq
    rw [heq'] at hk
    exact hk _ h1
theorem ref09_State_s {r k : Nat} {x : WdX} {R : RS} {f : Int} (hS : Sat e w (IsRef r x R k :: Q)) (hk : K (.int .i64 (stR R f)) w) : Cl prog 19 #[.pointer (some ⟨r, 0, none⟩), .int .i64 f] w K := by
  refine pacelineref09_Run_State_calls ?_
  unfold pacelineref09_Run_State
  obtain ⟨sv, qv, wv, dv, ds, hR, h1⟩ := ref_of hS
  have hn8 := hR.may.n.2
  by_cases c1 : f < 0
  · repeat (first | refine gd_tt ?_ | refine gd_ff ?_ | refine gd_tf ?_ | refine gd_ft ?_ | refine gd_u ?_ | refine pk_t ?_ | refine pk_f ?_ | refine iff_t ?_ | refine iff_f ?_ | refine not_t ?_ | refine not_f ?_ | refine beq_s ?_ | refine bne_s ?_ | refine ncP_p ?_ | refine nc_p ?_ | refine fld_at ?_ | refine xt_02 ?_ | refine xt_12 ?_ | refine xt_03 ?_ | refine xt_13 ?_ | refine xt_23 ?_ | refine eq_t (by omega) ?_ | refine eq_f (by omega) ?_ | refine ne_t (by omega) ?_ | refine ne_f (by omega) ?_ | refine lt_t (by omega) ?_ | refine lt_f (by omega) ?_ | refine gt_t (by omega) ?_ | refine gt_f (by omega) ?_ | refine ge_t (by omega) ?_ | refine ge_f (by omega) ?_ | refine le_t (by omega) ?_ | refine le_f (by omega) ?_)
    unfold stR at hk
    rw [if_neg (by omega)] at hk
    exact hk
  refine lt_f c1 (gd_ff (gd_ff (gd_ff (nc_p ?_))))
  refine gd_ff (fld_at (gd_ff (ld1_at h1 0 rfl (v := sv) rfl (gd_ff ?_))))
  refine lnS_rd h1 1 rfl (fun g hg => own_rd hg) ?_
  rw [List.length_map]
  by_cases c2 : (R.feds.length : Int) ≤ f
  · repeat (first | refine gd_tt ?_ | refine gd_ff ?_ | refine gd_tf ?_ | refine gd_ft ?_ | refine gd_u ?_ | refine pk_t ?_ | refine pk_f ?_ | refine iff_t ?_ | refine iff_f ?_ | refine not_t ?_ | refine not_f ?_ | refine beq_s ?_ | refine bne_s ?_ | refine ncP_p ?_ | refine nc_p ?_ | refine fld_at ?_ | refine xt_02 ?_ | refine xt_12 ?_ | refine xt_03 ?_ | refine xt_13 ?_ | refine xt_23 ?_ | refine eq_t (by omega) ?_ | refine eq_f (by omega) ?_ | refine ne_t (by omega) ?_ | refine ne_f (by omega) ?_ | refine lt_t (by omega) ?_ | refine lt_f (by omega) ?_ | refine gt_t (by omega) ?_ | refine gt_f (by omega) ?_ | refine ge_t (by omega) ?_ | refine ge_f (by omega) ?_ | refine le_t (by omega) ?_ | refine le_f (by omega) ?_)
    unfold stR at hk
    rw [if_pos (by omega), List.getElem?_eq_none (by omega)] at hk
    exact hk
  refine gd_ff (ge_f (by omega) (pk_f (iff_f ?_)))
  obtain ⟨n, rfl⟩ : ∃ n : Nat, f = n := ⟨f.toNat, by omega⟩
  obtain ⟨a, ha⟩ := get_of_lt (l := R.feds) (j := n) (by omega)
  refine ncP_p (fld_at (ld1_at h1 0 rfl (v := sv) rfl ?_))
  refine ixS_rd h1 1 rfl (fun g hg => own_rd hg) (fun _ => rfl) (by rw [List.getElem?_map, ha]; rfl : (R.feds.map FA.st)[n]? = some a.st) fun p hp => ?_
  refine ld1_of h1 1 rfl hp (v := .int .i64 a.st) rfl ?_
  unfold stR at hk
  rw [if_pos (by omega), Int.toNat_natCast, ha] at hk
  exact hk
end Go.Proofs.Ytfcnjbannejchaa
