/- The document's node. Conditions: the federation's lists are short. -/
import Derived.Test.YtenglfaeohgkfaaGreatCmbD
import Derived.Test.YtenglfaeohgkfaaGreatSoloX
import Derived.Test.YtenglfaeohgkfaaGreatClockR
namespace Go.Proofs.YtenglfaeohgkfaaGreat
open Go Go.E
set_option maxRecDepth 100000
variable {e w : World} {L Q : List HP} {K : KV} {S S2 : HP}

theorem small12_s {x : WdX} (i : Nat) (hi : L[i]? = some S) (hS : Sat e w L) (hr : ∀ g, S g → RdWd x g) (hk : ∀ w' (b : Bool), Sat e w' L → (b = true → x.short) → K (.bool b) w') : Cl prog 18 #[.agg x.cs.toArray] w K := by
  refine pacelinelaw12_small_calls ?_
  unfold pacelinelaw12_small
  refine al_s (cs := x.cs) hS rfl fun b w1 h1 => ?_
  have hno : ∀ w', Sat e w' (blk b 39 x.cs :: L) → K (.bool false) w' := fun w' h' => hk w' false h'.drop (fun h => by cases h)
  refine fld_at (ld1_at h1 0 rfl (v := x.pv) rfl ?_)
  refine lnS_rd h1 (i + 1) (by simpa using hi) (fun g hg => (hr g hg).par) ?_
  by_cases c1 : (50 : Int) < x.Parents.length
  · repeat (first | refine gd_tt ?_ | refine gd_ff ?_ | refine gd_tf ?_ | refine gd_ft ?_ | refine gd_u ?_ | refine pk_t ?_ | refine pk_f ?_ | refine iff_t ?_ | refine iff_f ?_ | refine not_t ?_ | refine not_f ?_ | refine beq_s ?_ | refine bne_s ?_ | refine ncP_p ?_ | refine nc_p ?_ | refine fld_at ?_ | refine xt_02 ?_ | refine xt_12 ?_ | refine xt_03 ?_ | refine xt_13 ?_ | refine xt_23 ?_ | refine eq_t (by omega) ?_ | refine eq_f (by omega) ?_ | refine ne_t (by omega) ?_ | refine ne_f (by omega) ?_ | refine lt_t (by omega) ?_ | refine lt_f (by omega) ?_ | refine gt_t (by omega) ?_ | refine gt_f (by omega) ?_ | refine ge_t (by omega) ?_ | refine ge_f (by omega) ?_ | refine le_t (by omega) ?_ | refine le_f (by omega) ?_)
    exact hno _ h1
  refine gt_f c1 (gd_ff (fld_at (gd_ff (ld1_at h1 0 rfl (v := x.fv) rfl (gd_ff ?_)))))
  refine lnS_rd h1 (i + 1) (by simpa using hi) (fun g hg => (hr g hg).feds) ?_
  by_cases c2 : (20 : Int) < x.Feds.length
  · repeat (first | refine gd_tt ?_ | refine gd_ff ?_ | refine gd_tf ?_ | refine gd_ft ?_ | refine gd_u ?_ | refine pk_t ?_ | refine pk_f ?_ | refine iff_t ?_ | refine iff_f ?_ | refine not_t ?_ | refine not_f ?_ | refine beq_s ?_ | refine bne_s ?_ | refine ncP_p ?_ | refine nc_p ?_ | refine fld_at ?_ | refine xt_02 ?_ | refine xt_12 ?_ | refine xt_03 ?_ | refine xt_13 ?_ | refine xt_23 ?_ | refine eq_t (by omega) ?_ | refine eq_f (by omega) ?_ | refine ne_t (by omega) ?_ | refine ne_f (by omega) ?_ | refine lt_t (by omega) ?_ | refine lt_f (by omega) ?_ | refine gt_t (by omega) ?_ | refine gt_f (by omega) ?_ | refine ge_t (by omega) ?_ | refine ge_f (by omega) ?_ | refine le_t (by omega) ?_ | refine le_f (by omega) ?_)
    exact hno _ h1
  refine gd_ff (gt_f c2 (pk_f (iff_f ?_)))
  rw [zero_72]
  refine lpi1 (fun q t w => ∃ j : Nat, j ≤ x.Feds.length ∧ t = .int .i64 j ∧ q = x.Feds.length - j ∧ (∀ f ∈ x.Feds.take j, f.short) ∧ Sat e w (blk b 39 x.cs :: L)) x.Feds.length ⟨0, Nat.zero_le _, rfl, rfl, by simp, h1⟩ ?_
  rintro q _ w g ⟨j, hj, rfl, rfl, hall, h2⟩ hg
  refine fld_at (ld1_at h2 0 rfl (v := x.fv) rfl ?_)
  refine lnS_rd h2 (i + 1) (by simpa using hi) (fun g hg => (hr g hg).feds) ?_
  refine lt_c (fun c => iff_t ?_) (fun c => iff_f ?_)
  · obtain ⟨fd, hf⟩ := get_of_lt (l := x.Feds) (j := j) (by omega)
    have hfm := List.mem_of_getElem? hf
    refine fld_at (ld1_at h2 0 rfl (v := x.fv) rfl ?_)
    refine ixS_rd h2 (i + 1) (by simpa using hi) (fun g hg => (hr g hg).feds) (fun _ => rfl) hf fun a ha => ?_
    refine ldN_of h2 (i + 1) (by simpa using hi) ha rfl ?_
    refine al_s (cs := [.int .i64 0, .int .i64 0, .int .i64 0, .slice none 0 0, .slice none 0 0, .slice none 0 0, .slice none 0 0]) h2 rfl fun t w5 h5 => ?_
    refine stN_at h5 0 rfl (vs := fd.cs) rfl rfl (by simp) (fed_cells i hi hS fun g hg => (hr g hg).fed fd hfm) (cs' := fd.cs) (by rfl) fun w6 h6 => ?_
    have hi6 : (blk t 72 fd.cs :: blk b 39 x.cs :: L)[i + 2]? = some S := by simpa using hi
    refine fld_at (ld1_at h6 0 rfl (v := fd.rv) rfl ?_)
    refine lnS_rd h6 (i + 2) hi6 (fun g hg => ((hr g hg).fed fd hfm).rules.s) ?_
    by_cases d1 : (60 : Int) < fd.Rules.length
    · repeat (first | refine gd_tt ?_ | refine gd_ff ?_ | refine gd_tf ?_ | refine gd_ft ?_ | refine gd_u ?_ | refine pk_t ?_ | refine pk_f ?_ | refine iff_t ?_ | refine iff_f ?_ | refine not_t ?_ | refine not_f ?_ | refine beq_s ?_ | refine bne_s ?_ | refine ncP_p ?_ | refine nc_p ?_ | refine fld_at ?_ | refine xt_02 ?_ | refine xt_12 ?_ | refine xt_03 ?_ | refine xt_13 ?_ | refine xt_23 ?_ | refine eq_t (by omega) ?_ | refine eq_f (by omega) ?_ | refine ne_t (by omega) ?_ | refine ne_f (by omega) ?_ | refine lt_t (by omega) ?_ | refine lt_f (by omega) ?_ | refine gt_t (by omega) ?_ | refine gt_f (by omega) ?_ | refine ge_t (by omega) ?_ | refine ge_f (by omega) ?_ | refine le_t (by omega) ?_ | refine le_f (by omega) ?_)
      exact hno _ h6.drop
    refine gt_f d1 (gd_ff (fld_at (gd_ff (ld1_at h6 0 rfl (v := fd.pv) rfl (gd_ff ?_)))))
    refine lnS_rd h6 (i + 2) hi6 (fun g hg => ((hr g hg).fed fd hfm).pubs) ?_
    by_cases d2 : (50 : Int) < fd.Pubs.length
    · repeat (first | refine gd_tt ?_ | refine gd_ff ?_ | refine gd_tf ?_ | refine gd_ft ?_ | refine gd_u ?_ | refine pk_t ?_ | refine pk_f ?_ | refine iff_t ?_ | refine iff_f ?_ | refine not_t ?_ | refine not_f ?_ | refine beq_s ?_ | refine bne_s ?_ | refine ncP_p ?_ | refine nc_p ?_ | refine fld_at ?_ | refine xt_02 ?_ | refine xt_12 ?_ | refine xt_03 ?_ | refine xt_13 ?_ | refine xt_23 ?_ | refine eq_t (by omega) ?_ | refine eq_f (by omega) ?_ | refine ne_t (by omega) ?_ | refine ne_f (by omega) ?_ | refine lt_t (by omega) ?_ | refine lt_f (by omega) ?_ | refine gt_t (by omega) ?_ | refine gt_f (by omega) ?_ | refine ge_t (by omega) ?_ | refine ge_f (by omega) ?_ | refine le_t (by omega) ?_ | refine le_f (by omega) ?_)
      exact hno _ h6.drop
    refine gd_ff (gt_f d2 (pk_f (gd_ff (fld_at (gd_ff (ld1_at h6 0 rfl (v := fd.sv) rfl (gd_ff ?_)))))))
    refine lnS_rd h6 (i + 2) hi6 (fun g hg => ((hr g hg).fed fd hfm).subs) ?_
    by_cases d3 : (50 : Int) < fd.Subs.length
    · repeat (first | refine gd_tt ?_ | refine gd_ff ?_ | refine gd_tf ?_ | refine gd_ft ?_ | refine gd_u ?_ | refine pk_t ?_ | refine pk_f ?_ | refine iff_t ?_ | refine iff_f ?_ | refine not_t ?_ | refine not_f ?_ | refine beq_s ?_ | refine bne_s ?_ | refine ncP_p ?_ | refine nc_p ?_ | refine fld_at ?_ | refine xt_02 ?_ | refine xt_12 ?_ | refine xt_03 ?_ | refine xt_13 ?_ | refine xt_23 ?_ | refine eq_t (by omega) ?_ | refine eq_f (by omega) ?_ | refine ne_t (by omega) ?_ | refine ne_f (by omega) ?_ | refine lt_t (by omega) ?_ | refine lt_f (by omega) ?_ | refine gt_t (by omega) ?_ | refine gt_f (by omega) ?_ | refine ge_t (by omega) ?_ | refine ge_f (by omega) ?_ | refine le_t (by omega) ?_ | refine le_f (by omega) ?_)
      exact hno _ h6.drop
    refine gd_ff (gt_f d3 (pk_f (gd_ff (fld_at (gd_ff (ld1_at h6 0 rfl (v := fd.iv) rfl (gd_ff ?_)))))))
    refine lnS_rd h6 (i + 2) hi6 (fun g hg => ((hr g hg).fed fd hfm).init) ?_
    by_cases d4 : (20 : Int) < fd.Init.length
    · repeat (first | refine gd_tt ?_ | refine gd_ff ?_ | refine gd_tf ?_ | refine gd_ft ?_ | refine gd_u ?_ | refine pk_t ?_ | refine pk_f ?_ | refine iff_t ?_ | refine iff_f ?_ | refine not_t ?_ | refine not_f ?_ | refine beq_s ?_ | refine bne_s ?_ | refine ncP_p ?_ | refine nc_p ?_ | refine fld_at ?_ | refine xt_02 ?_ | refine xt_12 ?_ | refine xt_03 ?_ | refine xt_13 ?_ | refine xt_23 ?_ | refine eq_t (by omega) ?_ | refine eq_f (by omega) ?_ | refine ne_t (by omega) ?_ | refine ne_f (by omega) ?_ | refine lt_t (by omega) ?_ | refine lt_f (by omega) ?_ | refine gt_t (by omega) ?_ | refine gt_f (by omega) ?_ | refine ge_t (by omega) ?_ | refine ge_f (by omega) ?_ | refine le_t (by omega) ?_ | refine le_f (by omega) ?_)
      exact hno _ h6.drop
    refine gd_ff (gt_f d4 (pk_f (iff_f ?_)))
    refine lpi1 (fun q t' w => ∃ n : Nat, n ≤ fd.Rules.length ∧ t' = .int .i64 n ∧ q = fd.Rules.length - n ∧ (∀ r ∈ fd.Rules.take n, r.Sends.length ≤ 1000) ∧ Sat e w (blk t 72 fd.cs :: blk b 39 x.cs :: L)) fd.Rules.length ⟨0, Nat.zero_le _, rfl, rfl, by simp, h6⟩ ?_
    rintro q _ w g2 ⟨n, hn, rfl, rfl, hall2, h7⟩ hg2
    refine fld_at (ld1_at h7 0 rfl (v := fd.rv) rfl ?_)
    refine lnS_rd h7 (i + 2) hi6 (fun g hg => ((hr g hg).fed fd hfm).rules.s) ?_
    refine lt_c (fun c3 => iff_t ?_) (fun c3 => iff_f ?_)
    · obtain ⟨r, hrn⟩ := get_of_lt (l := fd.Rules) (j := n) (by omega)
      have hrm := List.mem_of_getElem? hrn
      refine fld_at (ld1_at h7 0 rfl (v := fd.rv) rfl ?_)
      refine ixS_rd h7 (i + 2) hi6 (fun g hg => ((hr g hg).fed fd hfm).rules.s) (fun _ => rfl) hrn fun a ha => ?_
      refine fld_of ha fun a1 ha1 => ?_
      refine ld1_of h7 (i + 2) hi6 ha1 (v := r.sv) rfl ?_
      refine lnS_rd h7 (i + 2) hi6 (fun g hg => ((hr g hg).fed fd hfm).rules.e r hrm) ?_
      refine gt_c (fun c4 => iff_t (hno _ h7.drop)) (fun c4 => iff_f (inc_s (by omega) ?_))
      refine hg2 _ _ _ (by omega) ⟨n + 1, by omega, rfl, rfl, fun y hy => ?_, h7⟩
      rw [take_snoc hrn] at hy
      rcases List.mem_append.1 hy with h | h
      · exact hall2 y h
      · rw [List.mem_singleton.1 h]; omega
    · have en : n = fd.Rules.length := by omega
      rw [en, List.take_length] at hall2
      refine inc_s (by omega) ?_
      refine hg _ _ _ (by omega) ⟨j + 1, by omega, rfl, rfl, fun y hy => ?_, h7.drop⟩
      rw [take_snoc hf] at hy
      rcases List.mem_append.1 hy with h | h
      · exact hall y h
      · rw [List.mem_singleton.1 h]
        exact ⟨by omega, by omega, by omega, by omega, hall2⟩
  · have ej : j = x.Feds.length := by omega
    rw [ej, List.take_length] at hall
    exact hk _ true h2.drop fun _ => ⟨by omega, by omega, hall⟩
theorem same12_s {u v : Value} {l : List Msg} (i j : Nat) (hi : L[i]? = some S) (hj : L[j]? = some S2) (hS : Sat e w L) (hr : ∀ g, S g → rdS 6 Msg.cs u l g) (hr2 : ∀ g, S2 g → rdS 6 Msg.cs v l g) (hl : l.length ≤ 1000000)
    (hk : ∀ w', Sat e w' L → K (.bool true) w') : Cl prog 17 #[u, v] w K := by
  refine pacelinelaw12_same_calls ?_
  unfold pacelinelaw12_same
  refine lnS_rd hS i hi hr ?_
  refine lnS_rd hS j hj hr2 ?_
  refine ne_f rfl (iff_f ?_)
  refine lpi1 (fun q t w => ∃ n : Nat, n ≤ l.length ∧ t = .int .i64 n ∧ q = l.length - n ∧ Sat e w L) l.length ⟨0, Nat.zero_le _, rfl, rfl, hS⟩ ?_
  rintro q _ w g ⟨n, hn, rfl, rfl, h1⟩ hg
  refine lnS_rd h1 i hi hr ?_
  refine lt_c (fun c => iff_t ?_) (fun c => iff_f (hk _ h1))
  obtain ⟨y, hy⟩ := get_of_lt (l := l) (j := n) (by omega)
  refine dr_s h1 fun w2 h2 => ?_
  refine ixS_rd h2 i hi hr (fun _ => rfl) hy fun p hp => ldN_of h2 i hi hp rfl ?_
  refine ixS_rd h2 j hj hr2 (fun _ => rfl) hy fun p hp => ldN_of h2 j hj hp rfl ?_
  refine bO_ne (ns := y.ns) (ms := y.ns) eqT_26 agg_26 egt_26 (by decide) rfl ?_
  rw [beq_self_eq_true]
  refine iff_f (inc_s (by omega) ?_)
  exact hg _ _ _ (by omega) ⟨n + 1, by omega, rfl, rfl, h2⟩
theorem Same12_s {u v : Value} {l : List Done} (i j : Nat) (hi : L[i]? = some S) (hj : L[j]? = some S2) (hS : Sat e w L) (hr : ∀ g, S g → rdS 7 Done.cs u l g) (hr2 : ∀ g, S2 g → rdS 7 Done.cs v l g) (hl : l.length ≤ 1000000)
    (hk : ∀ w', Sat e w' L → K (.bool true) w') : Cl prog 26 #[u, v] w K := by
  refine pacelineref09_Same_calls ?_
  unfold pacelineref09_Same
  refine lnS_rd hS i hi hr ?_
  refine lnS_rd hS j hj hr2 ?_
  refine ne_f rfl (iff_f ?_)
  refine lpi1 (fun q t w => ∃ n : Nat, n ≤ l.length ∧ t = .int .i64 n ∧ q = l.length - n ∧ Sat e w L) l.length ⟨0, Nat.zero_le _, rfl, rfl, hS⟩ ?_
  rintro q _ w g ⟨n, hn, rfl, rfl, h1⟩ hg
  refine lnS_rd h1 i hi hr ?_
  refine lt_c (fun c => iff_t ?_) (fun c => iff_f (hk _ h1))
  obtain ⟨y, hy⟩ := get_of_lt (l := l) (j := n) (by omega)
  refine dr_s h1 fun w2 h2 => ?_
  refine ixS_rd h2 i hi hr (fun _ => rfl) hy fun p hp => ldN_of h2 i hi hp rfl ?_
  refine ixS_rd h2 j hj hr2 (fun _ => rfl) hy fun p hp => ldN_of h2 j hj hp rfl ?_
  refine bO_ne (ns := y.ns) (ms := y.ns) eqT_46 agg_46 egt_46 (by decide) rfl ?_
  rw [beq_self_eq_true]
  refine iff_f (inc_s (by omega) ?_)
  exact hg _ _ _ (by omega) ⟨n + 1, by omega, rfl, rfl, h2⟩

/-! ### In memory -/
structure NRV where
  g : Nat
  q : Nat
  lv : Value
def nrs (x : WdX) (f : Int) (N : ND) (g q : Nat) (lv : Value) : List Value := [x.pv, x.fv, .int .i64 x.End, .int .i64 f, .int .i64 N.st, .int .i64 N.sent, .pointer (some ⟨g, 0, none⟩), .pointer (some ⟨q, 0, none⟩), lv]
def IsNR (n : Nat) (x : WdX) (f : Nat) (N : ND) (k : Nat) : HP := hex fun p : NRV => sepL [pur (NOk x.w f N k), blk n 87 (nrs x f N p.g p.q p.lv), IsRClk p.g N.clk, IsQR p.q N.q, ownS 46 7 Done.cs p.lv N.log]
theorem nr_of {n f k : Nat} {x : WdX} {N : ND} (h : Sat e w (IsNR n x f N k :: Q)) : ∃ g q lv, NOk x.w f N k ∧ Sat e w (blk n 87 (nrs x f N g q lv) :: IsRClk g N.clk :: IsQR q N.q :: ownS 46 7 Done.cs lv N.log :: Q) := by
  obtain ⟨p, h0⟩ := h.ex
  exact ⟨p.g, p.q, p.lv, Sat.pure h0.split⟩
theorem nr_mk {n f k : Nat} {x : WdX} {N : ND} {g q : Nat} {lv : Value} (hp : NOk x.w f N k) (h : Sat e w (blk n 87 (nrs x f N g q lv) :: IsRClk g N.clk :: IsQR q N.q :: ownS 46 7 Done.cs lv N.log :: Q)) : Sat e w (IsNR n x f N k :: Q) :=
  .mk_ex ⟨g, q, lv⟩ (.join (l' := [_, _, _, _, _]) (.mk_pure hp h))
theorem ref12_New_s {x : WdX} {f : Int} (i : Nat) (hi : L[i]? = some S) (hS : Sat e w L) (hr : ∀ g, S g → RdWd x g) (hs : x.short)
    (hbad : (checkW x.w).2 ≠ 0 → ∀ w', Sat e w' L → K (.tuple #[.pointer none, .int .i64 (checkW x.w).2]) w')
    (harg : (checkW x.w).2 = 0 → nodeMay x.w f = none → ∀ w', Sat e w' L → K (.tuple #[.pointer none, .int .i64 1]) w')
    (hok : (checkW x.w).2 = 0 → ∀ (n : Nat) fd, f = n → x.w.Feds[n]? = some fd → nodeMay x.w f = some fd → ∀ r w', Sat e w' (IsNR r x n (nodeI x.w.Feds.length n fd) 0 :: L) → K (.tuple #[.pointer (some ⟨r, 0, none⟩), .int .i64 0]) w') :
    Cl prog 8 #[.agg x.cs.toArray, .int .i64 f] w K := by
  refine pacelineref12_New_calls ?_
  unfold pacelineref12_New
  refine al_s (cs := x.cs) hS rfl fun b w1 h1 => ?_
  refine ldN_at h1 0 (vs := x.cs) rfl (by rfl) rfl ?_
  refine ref08_Check_s (x := x) (i + 1) (by simpa using hi) h1 hr hs fun w2 h2 => ?_
  refine xt_02 (xt_12 ?_)
  refine ne_c (fun c1 => iff_t (hbad c1 _ h2.drop)) (fun c1 => iff_f ?_)
  have hwd := checkW_ok c1
  have hi2 : (blk b 39 x.cs :: L)[i + 1]? = some S := by simpa using hi
  have hwl : x.w.Feds.length = x.Feds.length := by simp [WdX.w]
  by_cases d1 : f < 0
  · repeat (first | refine gd_tt ?_ | refine gd_ff ?_ | refine gd_tf ?_ | refine gd_ft ?_ | refine gd_u ?_ | refine pk_t ?_ | refine pk_f ?_ | refine iff_t ?_ | refine iff_f ?_ | refine not_t ?_ | refine not_f ?_ | refine beq_s ?_ | refine bne_s ?_ | refine ncP_p ?_ | refine nc_p ?_ | refine fld_at ?_ | refine xt_02 ?_ | refine xt_12 ?_ | refine xt_03 ?_ | refine xt_13 ?_ | refine xt_23 ?_ | refine eq_t (by omega) ?_ | refine eq_f (by omega) ?_ | refine ne_t (by omega) ?_ | refine ne_f (by omega) ?_ | refine lt_t (by omega) ?_ | refine lt_f (by omega) ?_ | refine gt_t (by omega) ?_ | refine gt_f (by omega) ?_ | refine ge_t (by omega) ?_ | refine ge_f (by omega) ?_ | refine le_t (by omega) ?_ | refine le_f (by omega) ?_)
    exact harg c1 (if_neg (by omega)) _ h2.drop
  refine lt_f d1 (gd_ff (gd_ff (fld_at (gd_ff (ld1_at h2 0 rfl (v := x.fv) rfl (gd_ff ?_))))))
  refine lnS_rd h2 (i + 1) hi2 (fun g hg => (hr g hg).feds) ?_
  by_cases d2 : (x.Feds.length : Int) ≤ f
  · repeat (first | refine gd_tt ?_ | refine gd_ff ?_ | refine gd_tf ?_ | refine gd_ft ?_ | refine gd_u ?_ | refine pk_t ?_ | refine pk_f ?_ | refine iff_t ?_ | refine iff_f ?_ | refine not_t ?_ | refine not_f ?_ | refine beq_s ?_ | refine bne_s ?_ | refine ncP_p ?_ | refine nc_p ?_ | refine fld_at ?_ | refine xt_02 ?_ | refine xt_12 ?_ | refine xt_03 ?_ | refine xt_13 ?_ | refine xt_23 ?_ | refine eq_t (by omega) ?_ | refine eq_f (by omega) ?_ | refine ne_t (by omega) ?_ | refine ne_f (by omega) ?_ | refine lt_t (by omega) ?_ | refine lt_f (by omega) ?_ | refine gt_t (by omega) ?_ | refine gt_f (by omega) ?_ | refine ge_t (by omega) ?_ | refine ge_f (by omega) ?_ | refine le_t (by omega) ?_ | refine le_f (by omega) ?_)
    refine harg c1 ?_ _ h2.drop
    unfold nodeMay
    rw [if_pos (by omega), List.getElem?_eq_none (by omega)]
    rfl
  refine gd_ff (ge_f (by omega) (pk_f ?_))
  obtain ⟨n, rfl⟩ : ∃ n : Nat, f = n := ⟨f.toNat, by omega⟩
  obtain ⟨fd, hfd⟩ := get_of_lt (l := x.Feds) (j := n) (by omega)
  have hfdm := List.mem_of_getElem? hfd
  have hwf' : x.w.Feds[n]? = some fd.f := by simp only [WdX.w]; rw [List.getElem?_map, hfd]; rfl
  have hmay : nodeMay x.w n = if fd.Kind = 0 then some fd.f else none := by
    unfold nodeMay
    rw [if_pos (by omega), Int.toNat_natCast, hwf']
    rfl
  refine gd_ff (fld_at (gd_ff (ld1_at h2 0 rfl (v := x.fv) rfl (gd_ff (gd_ff ?_)))))
  refine ixS_rd h2 (i + 1) hi2 (fun g hg => (hr g hg).feds) (fun _ => rfl) hfd fun p hp => ?_
  refine gd_ff (fld_of hp fun p1 hp1 => gd_ff (ld1_of h2 (i + 1) hi2 hp1 (v := .int .i64 fd.Kind) rfl ?_))
  refine gd_ff (ne_c (fun d3 => pk_f (iff_t (harg c1 (by rw [hmay, if_neg d3]) _ h2.drop))) (fun d3 => pk_f (iff_f ?_)))
  rw [if_pos d3] at hmay
  refine fld_at (ld1_at h2 0 rfl (v := x.fv) rfl ?_)
  refine lnS_rd h2 (i + 1) hi2 (fun g hg => (hr g hg).feds) ?_
  have hn := hwd.n
  refine ref11_New_s (n := x.Feds.length) (self := n) (by omega) (by omega) (by omega) (by omega) h2 fun g w3 h3 => ?_
  refine xt_02 (xt_12 ?_)
  refine dr_s h3 fun w4 h4 => ?_
  have hi4 : (IsRClk g ⟨List.replicate x.Feds.length 0, n, 0⟩ :: blk b 39 x.cs :: L)[i + 2]? = some S := by simpa using hi
  refine ldN_at h4 1 (vs := x.cs) rfl (by rfl) rfl ?_
  refine fld_at (ld1_at h4 1 rfl (v := x.fv) rfl ?_)
  refine ixS_rd h4 (i + 2) hi4 (fun g hg => (hr g hg).feds) (fun _ => rfl) hfd fun p2 hp2 => ?_
  refine fld_of hp2 fun p3 hp3 => ld1_of h4 (i + 2) hi4 hp3 (v := .int .i64 fd.Start) rfl ?_
  refine fld_at (ld1_at h4 1 rfl (v := x.fv) rfl ?_)
  refine ixS_rd h4 (i + 2) hi4 (fun g hg => (hr g hg).feds) (fun _ => rfl) hfd fun p4 hp4 => ?_
  refine fld_of hp4 fun p5 hp5 => ld1_of h4 (i + 2) hi4 hp5 (v := fd.iv) rfl ?_
  refine lnS_rd h4 (i + 2) hi4 (fun g hg => ((hr g hg).fed fd hfdm).init) ?_
  refine qr_New_s h4 fun q w5 h5 => ?_
  have hi5 : (IsQR q [] :: IsRClk g ⟨List.replicate x.Feds.length 0, n, 0⟩ :: blk b 39 x.cs :: L)[i + 3]? = some S := by simpa using hi
  refine ⟨ld1_of h5 (i + 3) hi5 hp5 (v := fd.iv) rfl ⟨rfl, rfl⟩, ld1_at h5 2 rfl (v := x.fv) rfl ⟨rfl, rfl⟩, ld1_of h5 (i + 3) hi5 hp3 (v := .int .i64 fd.Start) rfl ⟨rfl, rfl⟩, ld1_at h5 2 rfl (v := x.fv) rfl ⟨rfl, rfl⟩, ldN_at h5 2 (vs := x.cs) rfl (by rfl) rfl ⟨rfl, rfl⟩, ?_⟩
  refine bld_s (nrs x n (nodeI x.w.Feds.length n fd.f) g q (.slice none 0 0)) (by kernel_rfl) ?_
  refine al_s (cs := nrs x n (nodeI x.w.Feds.length n fd.f) g q (.slice none 0 0)) h5 rfl fun r w6 h6 => ?_
  have hinit := hwd.init fd.f (List.mem_of_getElem? hwf')
  have hil : fd.Init.length ≤ 4 := hinit.1
  refine hok c1 n fd.f rfl hwf' hmay r _ (nr_mk (g := g) (q := q) (lv := .slice none 0 0) ⟨hwd, by omega, by simp [nodeI], rfl, ⟨by simp [nodeI], by show (fd.Init.length : Int) ≤ _; omega⟩, Nat.le_refl _⟩ ?_)
  have h7 := h6.own_nil 46 7 Done.cs
  rw [hwl]
  exact h7.selR [_, _, _, _, _] [_, _, _, _] [1, 3, 2, 0] (by decide) rfl

variable {n f k : Nat} {x : WdX} {N : ND}
theorem clk8 (h : NOk x.w f N k) : N.clk.L.length ≤ 1000000 := by
  have h1 := h.len
  have h2 := h.may.n.2
  omega
theorem nr_Hear_s {j : Int} {i : NItem} (hS : Sat e w (IsNR n x f N k :: Q)) (hk : ∀ w', Sat e w' (IsNR n x f (hearN N j i) k :: Q) → K (.int .i64 (hearE N j i)) w') :
    Cl prog 10 #[.pointer (some ⟨n, 0, none⟩), .int .i64 j, .agg i.cs.toArray] w K := by
  refine pacelineref12_Node_Hear_calls ?_
  unfold pacelineref12_Node_Hear
  refine al_s (cs := i.cs) hS rfl fun b w1 h1 => ?_
  refine fld_at (ld1_at h1 0 rfl (v := .int .i64 i.Kind) rfl ?_)
  obtain ⟨g, q, lv, hX, h2⟩ := nr_of h1.swap
  refine eq_c (fun c1 => iff_t ?_) (fun c1 => iff_f ?_)
  · refine dr_s h2 fun w3 h3 => ?_
    refine ncP_p (fld_at (ld1_at h3 0 rfl (v := .pointer (some ⟨g, 0, none⟩)) rfl ?_))
    refine fld_at (fld_at (fld_at (ld1_at h3 4 rfl (v := .int .i64 i.m.key.T) rfl ?_)))
    refine ref11_Hear_s h3.swap fun w3 h3 => ?_
    have e1 : hearE N j i = N.clk.hearE j i.m.key.T := if_pos c1
    have e2 : hearN N j i = ⟨N.clk.hear j i.m.key.T, N.q, N.st, N.sent, N.log⟩ := if_pos c1
    rw [e1, e2] at hk
    refine hk _ (nr_mk (g := g) (q := q) (lv := lv) ⟨hX.may, hX.hf, by show (N.clk.hear j i.m.key.T).L.length = _; rw [Clk.hear_len]; exact hX.len, by show (N.clk.hear j i.m.key.T).self = _; rw [Clk.hear_self]; exact hX.self, hX.sent, hX.log⟩ ?_)
    exact h3.selR [_, _, _, _, _] [_, _, _, _] [1, 0, 2, 3] (by decide) rfl
  have e1 : hearE N j i = if i.Kind = 0 then (if N.clk.at' j < 0 then 1 else if i.m.key.T < N.clk.at' j then 110 else pushE 64 N.q i.m) else 130 := if_neg c1
  have e2 : hearN N j i = if i.Kind = 0 ∧ ¬ N.clk.at' j < 0 ∧ ¬ i.m.key.T < N.clk.at' j then ⟨N.clk, pushQ N.q i.m, N.st, N.sent, N.log⟩ else N := if_neg c1
  have hsame : ∀ w', Sat e w' (blk n 87 (nrs x f N g q lv) :: IsRClk g N.clk :: IsQR q N.q :: ownS 46 7 Done.cs lv N.log :: blk b 28 i.cs :: Q) → Sat e w' (IsNR n x f N k :: Q) := fun w' h' => (nr_mk hX h').swap.drop
  refine eq_c (fun c2 => iff_t ?_) (fun c2 => iff_f ?_)
  · refine ncP_p (fld_at (ld1_at h2 0 rfl (v := .pointer (some ⟨g, 0, none⟩)) rfl ?_))
    refine ref11_At_s h2.swap fun w3 h3 => ?_
    refine lt_c (fun c3 => iff_t ?_) (fun c3 => iff_f ?_)
    · rw [e1, e2, if_pos c2, if_pos c3, if_neg (fun h => h.2.1 c3)] at hk
      exact hk _ (hsame _ h3.swap)
    refine dr_s h3 fun w4 h4 => ?_
    refine fld_at (fld_at (fld_at (ld1_at h4 4 rfl (v := .int .i64 i.m.key.T) rfl ?_)))
    refine ncP_p (fld_at (ld1_at h4 1 rfl (v := .pointer (some ⟨g, 0, none⟩)) rfl ?_))
    refine ref11_At_s h4 fun w5 h5 => ?_
    refine ⟨ld1_at h5 4 rfl (v := .int .i64 i.m.key.T) rfl ⟨rfl, rfl⟩, ?_⟩
    refine lt_c (fun c4 => iff_t ?_) (fun c4 => iff_f ?_)
    · rw [e1, e2, if_pos c2, if_neg c3, if_pos c4, if_neg (fun h => h.2.2 c4)] at hk
      exact hk _ (hsame _ h5.swap)
    rw [e1, e2, if_pos c2, if_neg c3, if_neg c4, if_pos ⟨c2, c3, c4⟩] at hk
    refine dr_s h5.swap fun w6 h6 => ?_
    refine ncP_p (fld_at (ld1_at h6 0 rfl (v := .pointer (some ⟨q, 0, none⟩)) rfl ?_))
    refine fld_at (ldN_at h6 4 (vs := i.m.cs) rfl (by rfl) rfl ?_)
    refine qr_Push_s (x := i.m) (h6.pick 2 rfl) fun w7 h7 => ?_
    have h8 := nr_mk (N := ⟨N.clk, pushQ N.q i.m, N.st, N.sent, N.log⟩) (g := g) (q := q) (lv := lv) ⟨hX.may, hX.hf, hX.len, hX.self, hX.sent, hX.log⟩ (h7.selR [_, _, _, _] [_, _, _, _] [1, 2, 0, 3] (by decide) rfl)
    exact hk _ h8.swap.drop
  · rw [e1, e2, if_neg c2, if_neg (fun h => c2 h.1)] at hk
    exact hk _ (hsame _ h2)
theorem nr_Bound_s (hS : Sat e w (IsNR n x f N k :: Q)) (hk : ∀ w', Sat e w' (IsNR n x f N k :: Q) → K (.int .i64 N.clk.bound) w') : Cl prog 24 #[.pointer (some ⟨n, 0, none⟩)] w K := by
  refine pacelineref12_Node_Bound_calls ?_
  unfold pacelineref12_Node_Bound
  obtain ⟨g, q, lv, hX, h2⟩ := nr_of hS
  refine ncP_p (fld_at (ld1_at h2 0 rfl (v := .pointer (some ⟨g, 0, none⟩)) rfl ?_))
  refine ref11_Bound_s (clk8 hX) h2.swap fun w3 h3 => hk _ (nr_mk hX h3.swap)
theorem nr_State_s (hS : Sat e w (IsNR n x f N k :: Q)) (hk : K (.int .i64 N.st) w) : Cl prog 23 #[.pointer (some ⟨n, 0, none⟩)] w K := by
  refine pacelineref12_Node_State_calls ?_
  unfold pacelineref12_Node_State
  obtain ⟨g, q, lv, hX, h2⟩ := nr_of hS
  exact ncP_p (fld_at (ld1_at h2 0 rfl (v := .int .i64 N.st) rfl hk))
theorem node_State_s {wd : Wd} (hS : Sat e w (IsNode n wd f N k :: Q)) (hk : K (.int .i64 N.st) w) : Cl prog 15 #[.pointer (some ⟨n, 0, none⟩)] w K := by
  refine cmb_Node_State_calls ?_
  unfold cmb_Node_State
  obtain ⟨X, g, q, lv, hX, h2⟩ := node_of hS
  exact ncP_p (fld_at (ld1_at h2 0 rfl (v := .int .i64 N.st) rfl hk))
theorem nr_Waiting_s (hS : Sat e w (IsNR n x f N k :: Q)) (hk : ∀ v w', Sat e w' (ownS 26 6 Msg.cs v N.q :: IsNR n x f N k :: Q) → K v w') : Cl prog 25 #[.pointer (some ⟨n, 0, none⟩)] w K := by
  refine pacelineref12_Node_Waiting_calls ?_
  unfold pacelineref12_Node_Waiting
  obtain ⟨g, q, lv, hX, h2⟩ := nr_of hS
  refine ncP_p (fld_at (ld1_at h2 0 rfl (v := .pointer (some ⟨q, 0, none⟩)) rfl ?_))
  refine qr_List_s (h2.pick 2 rfl) fun v w3 h3 => ?_
  have h4 := nr_mk hX (h3.selR [_, _, _, _, _] [_, _, _, _, _] [2, 3, 1, 4, 0] (by decide) rfl)
  exact hk _ _ h4.swap
theorem nr_Log_s (hk0 : k ≤ 1000) (hS : Sat e w (IsNR n x f N k :: Q)) (hk : ∀ v w', Sat e w' (ownS 46 7 Done.cs v N.log :: IsNR n x f N k :: Q) → K v w') : Cl prog 27 #[.pointer (some ⟨n, 0, none⟩)] w K := by
  refine pacelineref12_Node_Log_calls ?_
  unfold pacelineref12_Node_Log
  obtain ⟨g, q, lv, hX, h2⟩ := nr_of hS
  have hlog := hX.log
  refine bsl0 h2 Done.cs fun v0 w3 h3 => ?_
  refine ncP_p (fld_at (ld1_at h3 1 rfl (v := lv) rfl ?_))
  refine apS_own te_55 und_55 (f := Done.cs) (m := N.log) (fun _ => rfl) (fun _ => ints_flat _) (h3.selR [_, _, _, _, _] [_, _, _, _, _] [0, 4, 1, 2, 3] (by decide) rfl) (fun g hg => own_rd hg) (by simp; omega) fun v' w4 h4 => ?_
  rw [List.nil_append] at h4
  have h5 := nr_mk hX (h4.selR [_, _, _, _, _] [_, _, _, _, _] [2, 3, 4, 1, 0] (by decide) rfl)
  exact hk _ _ h5.swap
theorem nr_Safe_s (hS : Sat e w (IsNR n x f N k :: Q)) (hk : ∀ w', Sat e w' (IsNR n x f N k :: Q) → K (.bool (safeN x.w N)) w') : Cl prog 22 #[.pointer (some ⟨n, 0, none⟩)] w K := by
  refine pacelineref12_Node_Safe_calls ?_
  unfold pacelineref12_Node_Safe
  obtain ⟨g, q, lv, hX, h2⟩ := nr_of hS
  refine ncP_p (fld_at (ld1_at h2 0 rfl (v := .pointer (some ⟨q, 0, none⟩)) rfl ?_))
  refine qr_First_s (h2.pick 2 rfl) fun w3 h3 => ?_
  refine xt_02 (xt_12 ?_)
  rw [zero_26]
  have h3' := nr_mk hX (h3.selR [_, _, _, _] [_, _, _, _] [1, 2, 0, 3] (by decide) rfl)
  refine al_s (cs := Msg.zero.cs) h3' rfl fun b2 w4 h4 => ?_
  refine stN_at h4 0 rfl (vs := (hdM N.q).cs) rfl rfl (by decide) (ints_flat _) (cs' := (hdM N.q).cs) (by rfl) fun w5 h5 => ?_
  replace h5 : Sat e w5 (blk b2 26 (hdM N.q).cs :: IsNR n x f N k :: Q) := h5
  refine dr_s h5 fun w6 h6 => ?_
  have hEnd : x.w.End = x.End := rfl
  cases hq : hasM N.q with
  | false =>
    have hs : safeN x.w N = false := by unfold safeN; rw [hq]; rfl
    rw [hs] at hk
    refine gd_ft (gd_ft (gd_ft (gd_ft (gd_ft (gd_ft (gd_ft (gd_ft (gd_ft (pk_f (gd_ft (gd_ft (gd_ft (gd_ft (gd_ft ?_))))))))))))))
    refine ⟨gd_ft ⟨rfl, rfl⟩, gd_ft (pk_f ?_)⟩
    exact hk _ h6.drop
  | true =>
    have hs : safeN x.w N = decide ((hdM N.q).key.T < min x.w.End N.clk.bound) := by unfold safeN; rw [hq]; rfl
    rw [hs] at hk
    obtain ⟨g', q', lv', hX', h7⟩ := nr_of h6.swap
    refine gd_tt (fld_at (gd_tt (fld_at (gd_tt (ld1_at h6 0 rfl (v := .int .i64 (hdM N.q).key.T) rfl (gd_tt (gd_tt (nc_p ?_))))))))
    refine gd_tt (fld_at (gd_tt (fld_at (gd_tt (ld1_at h7 0 rfl (v := .int .i64 x.End) rfl (gd_tt ?_))))))
    refine lt_c (fun d1 => ?_) (fun d1 => ?_)
    · refine pk_t (gd_tt (fld_at (gd_tt (fld_at (gd_tt (ld1_at h6 0 rfl (v := .int .i64 (hdM N.q).key.T) rfl (gd_tt (gd_tt ?_))))))))
      refine nr_Bound_s h6.swap fun w7 h8 => ?_
      refine ⟨gd_tt (ld1_at h8 1 rfl (v := .int .i64 (hdM N.q).key.T) rfl ⟨rfl, rfl⟩), gd_tt (lt_d (pk_t ?_))⟩
      have := hk _ h8.swap.drop
      rwa [show decide ((hdM N.q).key.T < min x.w.End N.clk.bound) = decide ((hdM N.q).key.T < N.clk.bound) from by rw [Bool.eq_iff_iff, decide_eq_true_iff, decide_eq_true_iff]; omega] at this
    · refine pk_t (gd_ft (gd_ft (gd_ft (gd_ft (gd_ft ?_)))))
      refine ⟨gd_ft ⟨rfl, rfl⟩, gd_ft (pk_f ?_)⟩
      have := hk _ h6.drop
      rwa [show decide ((hdM N.q).key.T < min x.w.End N.clk.bound) = false from by rw [decide_eq_false_iff_not]; omega] at this
theorem nr_Step_s {fd : Fed} (hk0 : k ≤ 1000) (hfd : x.w.Feds[f]? = some fd) (i : Nat) (hi : Q[i]? = some S) (hS : Sat e w (IsNR n x f N k :: Q)) (hr : ∀ g, S g → RdWd x g) (hs' : x.short)
    (hno : safeN x.w N = false → ∀ w', Sat e w' (IsNR n x f N k :: Q) → K (.tuple #[.agg Done.zero.cs.toArray, .slice none 0 0, .int .i64 150]) w')
    (hyes : safeN x.w N = true → ∀ v w', Sat e w' (ownS 26 6 Msg.cs v (outsN x.w f fd N) :: IsNR n x f (stepN fd N) (k + 1) :: Q) → K (.tuple #[.agg (doneN fd N).cs.toArray, v, .int .i64 0]) w') :
    Cl prog 12 #[.pointer (some ⟨n, 0, none⟩)] w K := by
  refine pacelineref12_Node_Step_calls ?_
  unfold pacelineref12_Node_Step
  rw [zero_46, zero_26]
  refine al_s (cs := Done.zero.cs) hS rfl fun t2 w1 h1 => ?_
  refine nr_Safe_s h1.swap fun w2 h2 => ?_
  cases hs : safeN x.w N with
  | false =>
    refine not_f (iff_t (bld_s Done.zero.cs (by kernel_rfl) ?_))
    refine stN_at h2 1 rfl (vs := Done.zero.cs) rfl rfl (by decide) (ints_flat _) (cs' := Done.zero.cs) (by kernel_rfl) fun w3 h3 => ?_
    refine ldN_at h3 1 (vs := Done.zero.cs) rfl (by rfl) rfl ?_
    exact hno hs _ h3.swap.drop
  | true =>
    refine not_t (iff_f ?_)
    obtain ⟨g, q, lv, hN, h3⟩ := nr_of h2
    have hXl : x.Feds.length = x.w.Feds.length := by simp [WdX.w]
    have hf := hN.hf
    obtain ⟨fx, hfx⟩ := get_of_lt (l := x.Feds) (j := f) (by omega)
    have hfxm := List.mem_of_getElem? hfx
    obtain rfl : fd = fx.f := by
      have h0 : x.w.Feds[f]? = some fx.f := by simp only [WdX.w]; rw [List.getElem?_map, hfx]; rfl
      rw [h0] at hfd
      exact (Option.some.inj hfd).symm
    have hsf := hs'.fed fx hfxm
    refine ncP_p (fld_at (ld1_at h3 0 rfl (v := .pointer (some ⟨q, 0, none⟩)) rfl ?_))
    refine qr_Pop_s (h3.pick 2 rfl) fun w4 h4 => ?_
    refine xt_02 (xt_12 ?_)
    refine al_s (cs := Msg.zero.cs) h4 rfl fun t5 w5 h5 => ?_
    obtain ⟨m, hm⟩ : ∃ m, m = hdM N.q := ⟨_, rfl⟩
    rw [← hm]
    refine stN_at h5 0 rfl (vs := m.cs) rfl rfl (by decide) (ints_flat _) (cs' := m.cs) (by rfl) fun w6 h6 => ?_
    replace h6 : Sat e w6 (blk t5 26 m.cs :: IsQR q N.q.tail :: blk n 87 (nrs x f N g q lv) :: IsRClk g N.clk :: ownS 46 7 Done.cs lv N.log :: blk t2 46 Done.zero.cs :: Q) := h6
    refine dr_s h6 fun w7 h7 => ?_
    refine ncP_p (fld_at (fld_at (ld1_at h7 2 rfl (v := x.fv) rfl ?_)))
    refine ncP_p (fld_at (ld1_at h7 2 rfl (v := .int .i64 f) rfl ?_))
    refine ixS_rd h7 (i + 6) (by simpa using hi) (fun g hg => (hr g hg).feds) (fun _ => rfl) hfx fun p hp => ?_
    refine fld_of hp fun p1 hp1 => ld1_of h7 (i + 6) (by simpa using hi) hp1 (v := fx.rv) rfl ?_
    refine ncP_p (fld_at (ld1_at h7 2 rfl (v := .int .i64 N.st) rfl ?_))
    refine fld_at (ld1_at h7 0 rfl (v := .int .i64 m.Class) rfl ?_)
    refine ref07_Step_s (l := fx.Rules) (s := N.st) (c := m.Class) (h7.pick (i + 6) (by simpa using hi)) (fun g hg => ((hr g hg).fed fx hfxm).rules) hsf.rules hsf.sends fun ov w8 h8 => ?_
    replace h8 := Sat.unpick (i + 6) (by simpa using hi) h8
    obtain ⟨so, hso⟩ : ∃ so, so = ruleN fx.f N := ⟨_, rfl⟩
    have hso2 : stepR (fx.Rules.map RuleX.r) N.st m.Class = so := by rw [hso, hm]; rfl
    rw [hso2] at h8 ⊢
    have houts := step_outs hN.may (List.mem_of_getElem? hfd) N.st m.Class
    rw [show stepR fx.f.Rules N.st m.Class = so from hso2] at houts
    refine xt_02 (xt_12 ?_)
    refine ncP_p (fld_at (stN_at h8 3 rfl (vs := ints [so.1]) rfl rfl (Nat.le_of_ble_eq_true rfl) (ints_flat _) (cs' := nrs x f ⟨N.clk, N.q, so.1, N.sent, N.log⟩ g q lv) (by rfl) fun w9 h9 => ?_))
    replace h9 : Sat e w9 (ownS 78 3 Out.cs ov so.2 :: blk t5 26 m.cs :: IsQR q N.q.tail :: blk n 87 (nrs x f ⟨N.clk, N.q, so.1, N.sent, N.log⟩ g q lv) :: IsRClk g N.clk :: ownS 46 7 Done.cs lv N.log :: blk t2 46 Done.zero.cs :: Q) := h9
    refine dr_s h9 fun w10 h10 => ?_
    refine ncP_p (fld_at (ldN_at h10 3 (vs := x.cs) rfl (by rfl) rfl ?_))
    refine ncP_p (fld_at (ld1_at h10 3 rfl (v := .int .i64 f) rfl ?_))
    refine ncP_p (fld_at (ld1_at h10 3 rfl (v := .int .i64 N.sent) rfl ?_))
    refine fld_at (fld_at (ld1_at h10 1 rfl (v := .int .i64 m.key.T) rfl ?_))
    refine fld_at (ld1_at h10 1 rfl (v := .int .i64 m.Body) rfl ?_)
    have hsu := hN.sent
    refine ref08_Spread_s (x := x) (outs := so.2) (i + 7) 0 (by simpa using hi) rfl h10 hr (fun g hg => own_rd hg) hs' hN.may.tree (fun o ho => (houts.2 o ho).1) (by omega) ⟨hsu.1, by omega⟩ fun mv w11 h11 => ?_
    have hsp : spreadL x.w.Parents x.w.Feds f N.sent m.key.T m.Body so.2 = outsN x.w f fx.f N := by rw [hso, hm]; rfl
    rw [hsp] at h11
    generalize hout : outsN x.w f fx.f N = ms at h11 hyes
    refine ncP_p (fld_at (ld1_at h11 4 rfl (v := .int .i64 N.sent) rfl ?_))
    refine lnS_rd h11 1 rfl (fun g hg => own_rd hg) ?_
    refine add_s (by omega) (by omega) ?_
    refine ncP_p (fld_at (stN_at h11 4 rfl (vs := ints [N.sent + so.2.length]) rfl rfl (Nat.le_of_ble_eq_true rfl) (ints_flat _) (cs' := nrs x f ⟨N.clk, N.q, so.1, N.sent + so.2.length, N.log⟩ g q lv) (by rfl) fun w12 h12 => ?_))
    refine ldN_at h12 2 (vs := m.cs) rfl (by rfl) rfl ?_
    refine bld_s (⟨m, so.1⟩ : Done).cs (by kernel_rfl) ?_
    refine al_s (cs := Done.zero.cs) h12 rfl fun t10 w13 h13 => ?_
    refine stN_at h13 0 rfl (vs := (⟨m, so.1⟩ : Done).cs) rfl rfl (Nat.le_of_ble_eq_true rfl) (ints_flat _) (cs' := (⟨m, so.1⟩ : Done).cs) (by rfl) fun w14 h14 => ?_
    replace h14 : Sat e w14 (blk t10 46 (⟨m, so.1⟩ : Done).cs :: ownS 26 6 Msg.cs mv ms :: ownS 78 3 Out.cs ov so.2 :: blk t5 26 m.cs :: IsQR q N.q.tail :: blk n 87 (nrs x f ⟨N.clk, N.q, so.1, N.sent + so.2.length, N.log⟩ g q lv) :: IsRClk g N.clk :: ownS 46 7 Done.cs lv N.log :: blk t2 46 Done.zero.cs :: Q) := h14
    refine dr_s h14 fun w15 h15 => ?_
    refine ncP_p (fld_at (ld1_at h15 5 rfl (v := lv) rfl ?_))
    refine ldN_at h15 0 (vs := (⟨m, so.1⟩ : Done).cs) rfl (by rfl) rfl ?_
    refine bsl1 (vs := (⟨m, so.1⟩ : Done).cs) rfl rfl h15 fun bb w16 h16 => ?_
    refine ⟨ld1_at h16 6 rfl (v := lv) rfl ⟨rfl, rfl⟩, ?_⟩
    have hlog := hN.log
    refine apS_own te_55 te_55.und (f := Done.cs) (l := N.log) (m := [⟨m, so.1⟩]) (fun _ => rfl) (fun _ => ints_flat _) (h16.selR [_, _, _, _, _, _, _, _, _, _] [_, _, _, _, _, _, _, _, _, _] [8, 0, 1, 2, 3, 4, 5, 6, 7, 9] (by decide) rfl) (blk_rd1 (f := Done.cs) (x := ⟨m, so.1⟩) (Nat.le_refl _)) (by simp; omega) fun lv' w17 h17 => ?_
    have q2 := h17.own_cells 0 rfl
    refine ncP_p (fld_at (stN_at h17 7 rfl (vs := [lv']) q2.1 rfl (Nat.le_of_ble_eq_true rfl) (fun c hc => by rw [List.mem_singleton.1 hc]; exact q2.2) (cs' := nrs x f ⟨N.clk, N.q, so.1, N.sent + so.2.length, N.log⟩ g q lv') (by rfl) fun w18 h18 => ?_))
    refine ldN_at h18 2 (vs := (⟨m, so.1⟩ : Done).cs) rfl (by rfl) rfl ?_
    refine stN_at h18 9 rfl (vs := (⟨m, so.1⟩ : Done).cs) rfl rfl (Nat.le_of_ble_eq_true rfl) (ints_flat _) (cs' := (⟨m, so.1⟩ : Done).cs) (by rfl) fun w19 h19 => ?_
    refine ldN_at h19 9 (vs := (⟨m, so.1⟩ : Done).cs) rfl (by rfl) rfl ?_
    have hd : doneN fx.f N = ⟨m, so.1⟩ := by unfold doneN; rw [← hso, ← hm]
    have hst : stepN fx.f N = ⟨N.clk, N.q.tail, so.1, N.sent + so.2.length, N.log ++ [⟨m, so.1⟩]⟩ := by unfold stepN; rw [hd, ← hso]
    rw [hd, hst] at hyes
    have h20 := nr_mk (n := n) (f := f) (k := k + 1) (x := x) (N := ⟨N.clk, N.q.tail, so.1, N.sent + so.2.length, N.log ++ [⟨m, so.1⟩]⟩) (g := g) (q := q) (lv := lv') ⟨hN.may, hN.hf, hN.len, hN.self, ⟨by show 0 ≤ N.sent + _; omega, by show N.sent + (so.2.length : Int) ≤ _; omega⟩, by show (N.log ++ [_]).length ≤ _; rw [List.length_append, List.length_singleton]; omega⟩
      (h19.selR [_, _, _, _, _, _, _, _, _, _] [_, _, _, _, _] [7, 8, 6, 0, 3] (by decide) rfl)
    exact hyes hs mv _ (h20.selR [_, _] [_, _] [1, 0] (by decide) rfl)
theorem nr_Tell_s {fd : Fed} (hfd : x.w.Feds[f]? = some fd) (i : Nat) (hi : Q[i]? = some S) (hS : Sat e w (IsNR n x f N k :: Q)) (hr : ∀ g, S g → RdWd x g)
    (hk : ∀ w', Sat e w' (IsNR n x f (tellN fd N) k :: Q) → K (.tuple #[.int .i64 (tellN fd N).clk.told, .bool (N.clk.tellB (firstT N) fd.Look)]) w') :
    Cl prog 20 #[.pointer (some ⟨n, 0, none⟩)] w K := by
  refine pacelineref12_Node_Tell_calls ?_
  unfold pacelineref12_Node_Tell
  obtain ⟨g, q, lv, hN, h2⟩ := nr_of hS
  have hXl : x.Feds.length = x.w.Feds.length := by simp [WdX.w]
  have hf := hN.hf
  obtain ⟨fx, hfx⟩ := get_of_lt (l := x.Feds) (j := f) (by omega)
  have hfxm := List.mem_of_getElem? hfx
  obtain rfl : fd = fx.f := by
    have h0 : x.w.Feds[f]? = some fx.f := by simp only [WdX.w]; rw [List.getElem?_map, hfx]; rfl
    rw [h0] at hfd
    exact (Option.some.inj hfd).symm
  refine ncP_p (fld_at (ld1_at h2 0 rfl (v := .pointer (some ⟨q, 0, none⟩)) rfl ?_))
  refine qr_First_s (h2.pick 2 rfl) fun w3 h3 => ?_
  refine xt_02 (xt_12 ?_)
  rw [zero_26]
  refine al_s (cs := Msg.zero.cs) h3 rfl fun b2 w4 h4 => ?_
  refine stN_at h4 0 rfl (vs := (hdM N.q).cs) rfl rfl (by decide) (ints_flat _) (cs' := (hdM N.q).cs) (by rfl) fun w5 h5 => ?_
  refine J1.cut (fun t4 w => t4 = .int .i64 (firstT N) ∧ Sat e w (blk b2 26 (hdM N.q).cs :: IsQR q N.q :: blk n 87 (nrs x f N g q lv) :: IsRClk g N.clk :: ownS 46 7 Done.cs lv N.log :: Q)) (fun k1 hcut => ?_) ?_
  · cases hq : hasM N.q with
    | false =>
      refine iff_f (hcut _ _ ⟨?_, h5⟩)
      unfold firstT
      rw [if_neg (by rw [hq]; simp)]
      rfl
    | true =>
      refine iff_t (fld_at (fld_at (ld1_at h5 0 rfl (v := .int .i64 (hdM N.q).key.T) rfl (hcut _ _ ⟨?_, h5⟩))))
      unfold firstT
      rw [if_pos hq]
  · rintro _ w6 ⟨rfl, h6⟩
    refine dr_s h6 fun w7 h7 => ?_
    refine ncP_p (fld_at (ld1_at h7 2 rfl (v := .pointer (some ⟨g, 0, none⟩)) rfl ?_))
    refine ncP_p (fld_at (fld_at (ld1_at h7 2 rfl (v := x.fv) rfl ?_)))
    refine ncP_p (fld_at (ld1_at h7 2 rfl (v := .int .i64 f) rfl ?_))
    refine ixS_rd h7 (i + 5) (by simpa using hi) (fun g hg => (hr g hg).feds) (fun _ => rfl) hfx fun p hp => ?_
    refine fld_of hp fun p1 hp1 => ld1_of h7 (i + 5) (by simpa using hi) hp1 (v := .int .i64 fx.Look) rfl ?_
    refine ref11_Tell_s (clk8 hN) (h7.pick 3 rfl) fun w8 h8 => ?_
    refine xt_02 (xt_12 ?_)
    have ht := Clk.tell_len N.clk (firstT N) fx.f.Look
    refine hk _ (nr_mk (N := tellN fx.f N) (g := g) (q := q) (lv := lv) ⟨hN.may, hN.hf, by show (N.clk.tell (firstT N) fx.f.Look).L.length = _; rw [ht.1]; exact hN.len, by show (N.clk.tell (firstT N) fx.f.Look).self = _; rw [ht.2]; exact hN.self, hN.sent, hN.log⟩ ?_)
    exact h8.selR [_, _, _, _, _] [_, _, _, _] [3, 0, 2, 4] (by decide) rfl
end Go.Proofs.YtenglfaeohgkfaaGreat
