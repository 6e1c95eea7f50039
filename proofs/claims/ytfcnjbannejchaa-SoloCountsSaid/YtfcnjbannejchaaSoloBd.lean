/- The law SoloCounts. Conditions: none. -/
import Derived.Test.YtfcnjbannejchaaSoloZ
import Derived.Test.YtfcnjbannejchaaSoloT
namespace Go.Proofs.Ytfcnjbannejchaa
open Go Go.E
set_option maxRecDepth 100000
variable {e w : World} {L Q : List HP} {K : KV} {S S2 : HP}

/-! ### Whose number is one is one but for where it goes -/
def Cn (a b : Msg) : Prop := a.key.From = b.key.From → a.key.Seq = b.key.Seq → a.key.T = b.key.T ∧ a.Class = b.Class ∧ a.Body = b.Body ∧ a.To ≠ b.To
theorem Cn.symm {a b : Msg} (h : Cn a b) : Cn b a := fun h1 h2 => by
  obtain ⟨e1, e2, e3, e4⟩ := h h1.symm h2.symm
  exact ⟨e1.symm, e2.symm, e3.symm, fun h => e4 h.symm⟩
def logsR (fs : List FA) : List Msg := fs.flatMap fun a => a.log.map Done.m
def allR (R : RS) : List Msg := R.wait ++ logsR R.feds
theorem cn_of {l : List Msg} (h : l.Pairwise D3) (hs : ∀ a ∈ l, ∀ b ∈ l, a.key.From = b.key.From → a.key.Seq = b.key.Seq → a.key.T = b.key.T ∧ a.Class = b.Class ∧ a.Body = b.Body) : l.Pairwise Cn := by
  refine List.Pairwise.imp_of_mem (fun {a b} ha hb hd h1 h2 => ?_) h
  obtain ⟨e1, e2, e3⟩ := hs a ha b hb h1 h2
  refine ⟨e1, e2, e3, fun h3 => ?_⟩
  unfold D3 at hd
  omega
theorem cn_spread (ps : List Int) (feds : List Fed) (f seq now body : Int) (outs : List Out) : (spreadL ps feds f seq now body outs).Pairwise Cn := by
  refine cn_of (spread_inc _ _ _ _ _ _ _) fun a ha b hb _ h2 => ?_
  obtain ⟨i, o, to, h3, _, rfl⟩ := spread_mem ha
  obtain ⟨i', o', to', h3', _, rfl⟩ := spread_mem hb
  have hi : i = i' := by
    simp only [sentM] at h2
    omega
  subst hi
  rw [h3] at h3'
  cases h3'
  exact ⟨rfl, rfl, rfl⟩
theorem cn_starts (ps : List Int) (feds l : List Fed) : (startsL ps feds l).Pairwise Cn := by
  refine cn_of (starts_inc _ _ _) fun a ha b hb h1 h2 => ?_
  obtain ⟨i, fd, h3, ha⟩ := starts_mem ha
  obtain ⟨i', fd', h3', hb⟩ := starts_mem hb
  have k1 := (spread_by ha).from'
  have k2 := (spread_by hb).from'
  have hi : i = i' := by omega
  subst hi
  rw [h3] at h3'
  cases h3'
  obtain ⟨j, o, to, h4, _, rfl⟩ := spread_mem ha
  obtain ⟨j', o', to', h4', _, rfl⟩ := spread_mem hb
  have hj : j = j' := by
    simp only [sentM] at h2
    omega
  subst hj
  rw [h4] at h4'
  cases h4'
  exact ⟨rfl, rfl, rfl⟩
structure CntOk (wd : Wd) (R : RS) : Prop where
  cn : (allR R).Pairwise Cn
  src : ∀ m ∈ allR R, 0 ≤ m.key.From ∧ m.key.From < wd.Feds.length ∧ m.key.From ≠ m.To ∧ 0 ≤ m.key.Seq ∧ ∀ a, R.feds[m.key.From.toNat]? = some a → m.key.Seq < a.sent
theorem allR_init (wd : Wd) : (allR (initR wd)).Perm (startsL wd.Parents wd.Feds wd.Feds) := by
  have h1 : logsR (initR wd).feds = [] := by
    unfold logsR initR
    rw [List.flatMap_eq_nil_iff]
    intro a ha
    obtain ⟨f, _, rfl⟩ := List.mem_map.1 ha
    rfl
  have h2 := putL_perm (startsL wd.Parents wd.Feds wd.Feds) []
  rw [List.append_nil] at h2
  unfold allR
  rw [h1, List.append_nil]
  exact h2
theorem cnt_init {wd : Wd} (hw : WdOk wd) : CntOk wd (initR wd) := by
  have hp := allR_init wd
  refine ⟨(hp.pairwise_iff (fun h => Cn.symm h)).2 (cn_starts _ _ _), fun m hm => ?_⟩
  have h1 : m ∈ (initR wd).wait := by
    have h2 := putL_perm (startsL wd.Parents wd.Feds wd.Feds) []
    rw [List.append_nil] at h2
    exact h2.mem_iff.2 (hp.mem_iff.1 hm)
  exact (runOk_init hw).src m h1
theorem logsR_set {fs : List FA} {n : Nat} {a b : FA} {d : Done} (h : fs[n]? = some a) (hb : b.log = a.log ++ [d]) : (logsR (fs.set n b)).Perm (d.m :: logsR fs) := by
  have hsp := take_split h
  have hn := (List.getElem?_eq_some_iff.1 h).1
  have h2 : fs.set n b = fs.take n ++ b :: fs.drop (n + 1) := List.set_eq_take_append_cons_drop.trans (if_pos hn)
  unfold logsR
  rw [h2]
  conv => rhs; rw [hsp]
  rw [List.flatMap_append, List.flatMap_append, List.flatMap_cons, List.flatMap_cons, hb, List.map_append, List.map_singleton]
  generalize (fs.take n).flatMap (fun a => a.log.map Done.m) = A
  generalize (fs.drop (n + 1)).flatMap (fun a => a.log.map Done.m) = B
  have : (A ++ ((a.log.map Done.m ++ [d.m]) ++ B)) = (A ++ a.log.map Done.m) ++ d.m :: B := by simp
  rw [this]
  refine List.perm_middle.trans ?_
  rw [List.append_assoc]
theorem cnt_next {wd : Wd} {R R' : RS} {k : Nat} {d : Done} (hR : RunOk wd R k) (hC : CntOk wd R) (h : nextR wd R = some (d, R')) : CntOk wd R' := by
  obtain ⟨m, rest, f, a, hwait, hT, hf, ha, heq⟩ := nextR_some h
  have hR' : R' = (takeM wd f a m rest R).2 := congrArg Prod.snd heq
  generalize hso : stepR f.Rules a.st m.Class = so at hR'
  have hfeds : R'.feds = R.feds.set m.To.toNat ⟨so.1, a.sent + so.2.length, a.log ++ [⟨m, so.1⟩]⟩ := by rw [hR', ← hso]; rfl
  have hwt : R'.wait = putL rest (spreadL wd.Parents wd.Feds m.To a.sent m.key.T m.Body so.2) := by rw [hR', ← hso]; rfl
  obtain ⟨t1, t2, t3, t4⟩ := hR.to m (by rw [hwait]; simp)
  have hTo : m.To.toNat < R.feds.length := (List.getElem?_eq_some_iff.1 ha).1
  have hpl := logsR_set (b := ⟨so.1, a.sent + so.2.length, a.log ++ [⟨m, so.1⟩]⟩) (d := ⟨m, so.1⟩) ha rfl
  have hms := cn_spread wd.Parents wd.Feds m.To a.sent m.key.T m.Body so.2
  have hby : ∀ y ∈ spreadL wd.Parents wd.Feds m.To a.sent m.key.T m.Body so.2, SentBy wd.Feds m.To a.sent m.key.T so.2.length y := fun y hy => spread_by hy
  generalize spreadL wd.Parents wd.Feds m.To a.sent m.key.T m.Body so.2 = ms at hwt hms hby
  have hperm : (allR R').Perm (ms ++ allR R) := by
    unfold allR
    rw [hwt, hfeds, hwait]
    refine ((putL_perm ms rest).append hpl).trans ?_
    rw [List.append_assoc]
    refine List.Perm.append_left ms ?_
    exact List.perm_middle
  have hget : ∀ (i : Nat) b, R'.feds[i]? = some b → (i = m.To.toNat ∧ b.sent = a.sent + so.2.length) ∨ (i ≠ m.To.toNat ∧ R.feds[i]? = some b) := by
    intro i b hb
    rw [hfeds] at hb
    by_cases hi : i = m.To.toNat
    · subst hi
      rw [List.getElem?_set_self hTo] at hb
      exact .inl ⟨rfl, by rw [← Option.some.inj hb]⟩
    · rw [List.getElem?_set_ne (fun h => hi h.symm)] at hb
      exact .inr ⟨hi, hb⟩
  refine ⟨(hperm.pairwise_iff (fun h => Cn.symm h)).2 (List.pairwise_append.2 ⟨hms, hC.cn, fun y hy z hz h1 h2 => ?_⟩), fun y hy => ?_⟩
  · have h3 := hby y hy
    have h4 := (hC.src z hz).2.2.2.2 a (by rw [← h1, h3.from']; exact ha)
    have := h3.seq.1
    omega
  · rcases List.mem_append.1 (hperm.mem_iff.1 hy) with hy | hy
    · have h3 := hby y hy
      have hfr := h3.from'
      refine ⟨by omega, by omega, fun h => h3.to.2.2 (by rw [← h, hfr]), by have := h3.seq.1; have := (hR.sent a (List.mem_of_getElem? ha)).1; omega, fun b hb => ?_⟩
      rw [hfr] at hb
      rcases hget _ b hb with h | h
      · rw [h.2]; exact h3.seq.2
      · exact absurd rfl h.1
    · obtain ⟨p1, p2, p3, p4, p5⟩ := hC.src y hy
      refine ⟨p1, p2, p3, p4, fun b hb => ?_⟩
      rcases hget _ b hb with h | h
      · have h5 := p5 a (by rw [h.1]; exact ha)
        rw [h.2]
        omega
      · exact p5 b h.2
theorem cnt_steps {wd : Wd} (hw : WdOk wd) : ∀ (n : Nat) {R : RS} {k : Nat}, RunOk wd R k → CntOk wd R → CntOk wd (stepsR wd n R).2
  | 0, R, k, _, h => h
  | n + 1, R, k, hR, h => by
    rw [stepsR_succ]
    cases hx : nextR wd R with
    | none => exact h
    | some x => exact cnt_steps hw n (runOk_next hw hR (d := x.1) (R' := x.2) hx) (cnt_next hR h (d := x.1) (R' := x.2) hx)

theorem soloCounts_s {x : WdX} {a : Int} (hS : Sat e w (S :: Q)) (hr : ∀ g, S g → RdWd x g) (hwf : x.wf) (ha : (Lit.int .u8 a).wf = true) (hk : ∀ w', Sat e w' (S :: Q) → K (.bool true) w') :
    Cl prog 7 #[.agg x.cs.toArray, .int .u8 a] w K := by
  have ha' := wf8s ha
  refine pacelinelaw09_SoloCounts_calls ?_
  unfold pacelinelaw09_SoloCounts
  have hflat := wd_cells 0 rfl hS hr
  refine al_s (cs := x.cs) hS rfl fun b w1 h1 => ?_
  refine ldN_at h1 0 (vs := x.cs) rfl (by rfl) rfl ?_
  refine small_s (x := x) 1 rfl h1 hr fun w2 q h2 hq => ?_
  cases q with
  | false =>
    refine not_f (iff_t ?_)
    exact shown_s h2 fun w3 h3 => hk _ h3.drop
  | true =>
    have hs := hq rfl
    refine not_t (iff_f ?_)
    refine ldN_at h2 0 (vs := x.cs) rfl (by rfl) rfl ?_
    refine solo_New_s (x := x) 1 rfl h2 hr hwf hs (fun hbad w3 h3 => ?_) (fun hok r w3 h3 => ?_)
    · refine xt_02 (xt_12 ?_)
      refine ldN_at h3 0 (vs := x.cs) rfl (by rfl) rfl ?_
      refine ref08_Check_s (x := x) 1 rfl h3 hr hs fun w4 h4 => ?_
      refine xt_02 (xt_12 (ne_f rfl (gd_ff (shown_s h4 fun w5 h5 => ?_))))
      repeat (first | refine gd_tt ?_ | refine gd_ff ?_ | refine gd_tf ?_ | refine gd_ft ?_ | refine gd_u ?_ | refine pk_t ?_ | refine pk_f ?_ | refine iff_t ?_ | refine iff_f ?_ | refine not_t ?_ | refine not_f ?_ | refine beq_s ?_ | refine bne_s ?_ | refine ncP_p ?_ | refine nc_p ?_ | refine fld_at ?_ | refine xt_02 ?_ | refine xt_12 ?_ | refine xt_03 ?_ | refine xt_13 ?_ | refine xt_23 ?_ | refine eq_t (by omega) ?_ | refine eq_f (by omega) ?_ | refine ne_t (by omega) ?_ | refine ne_f (by omega) ?_ | refine lt_t (by omega) ?_ | refine lt_f (by omega) ?_ | refine gt_t (by omega) ?_ | refine gt_f (by omega) ?_ | refine ge_t (by omega) ?_ | refine ge_f (by omega) ?_ | refine le_t (by omega) ?_ | refine le_f (by omega) ?_)
      refine bnp_n ?_
      exact hk _ h5.drop
    · refine xt_02 (xt_12 ?_)
      refine ldN_at h3 1 (vs := x.cs) rfl (by rfl) rfl ?_
      refine ref08_Check_s (x := x) 2 rfl h3 hr hs fun w4 h4 => ?_
      rw [hok]
      refine xt_02 (xt_12 (ne_f rfl (gd_ff (shown_s h4 fun w5 h5 => ?_))))
      repeat (first | refine gd_tt ?_ | refine gd_ff ?_ | refine gd_tf ?_ | refine gd_ft ?_ | refine gd_u ?_ | refine pk_t ?_ | refine pk_f ?_ | refine iff_t ?_ | refine iff_f ?_ | refine not_t ?_ | refine not_f ?_ | refine beq_s ?_ | refine bne_s ?_ | refine ncP_p ?_ | refine nc_p ?_ | refine fld_at ?_ | refine xt_02 ?_ | refine xt_12 ?_ | refine xt_03 ?_ | refine xt_13 ?_ | refine xt_23 ?_ | refine eq_t (by omega) ?_ | refine eq_f (by omega) ?_ | refine ne_t (by omega) ?_ | refine ne_f (by omega) ?_ | refine lt_t (by omega) ?_ | refine lt_f (by omega) ?_ | refine gt_t (by omega) ?_ | refine gt_f (by omega) ?_ | refine ge_t (by omega) ?_ | refine ge_f (by omega) ?_ | refine le_t (by omega) ?_ | refine le_f (by omega) ?_)
      have hwd := checkW_ok hok
      obtain ⟨n, hn⟩ : ∃ n : Nat, a % 30 = n := ⟨(a % 30).toNat, by omega⟩
      have hn30 : n < 30 := by omega
      refine cv_s ?_
      rw [wrap_i64 (by omega) (by omega)]
      refine rem_s (by decide) ?_
      rw [Int.tmod_eq_emod_of_nonneg (by omega), hn]
      refine solo_Steps_s (n := n) (by omega) h5 fun w6 h6 hle => ?_
      have hcn := cnt_steps hwd n (runOk_init hwd) (cnt_init hwd)
      generalize (stepsR x.w n (initR x.w)) = A at h6 hle hcn
      refine solo_Waiting_s (by omega) h6 fun v1 w7 h7 => ?_
      have hru : RunOk x.w A.2 (0 + A.1) := by
        obtain ⟨X, hX, _⟩ := solo_of (h7.pick 1 rfl)
        exact hX.run
      have hcnt := hru.cnt
      have hfl : x.Feds.length ≤ 1000 := hs.feds
      have hwl : x.w.Feds.length = x.Feds.length := by simp [WdX.w]
      have hn8 := hwd.n.2
      refine lpi2 (fun q t9 t10 w => ∃ f : Nat, f ≤ x.Feds.length ∧ t10 = .int .i64 f ∧ q = x.Feds.length - f ∧ (A.2.wait ++ logsR (A.2.feds.take f)).length ≤ 976 + 30 * f ∧ Sat e w (ownS 37 6 Msg.cs t9 (A.2.wait ++ logsR (A.2.feds.take f)) :: IsSolo r x.w A.2 (0 + A.1) :: blk b 25 x.cs :: S :: Q)) x.Feds.length ⟨0, Nat.zero_le _, rfl, rfl, by simp [logsR]; omega, by simpa [logsR] using h7⟩ ?_
      rintro q t9 _ w g1 ⟨f, hf, rfl, rfl, hlen, h8⟩ hg1
      refine fld_at (ld1_at h8 2 rfl (v := x.fv) rfl ?_)
      refine lnS_rd h8 3 rfl (fun g hg => (hr g hg).feds) ?_
      refine lt_c (fun c2 => iff_t ?_) (fun c2 => iff_f ?_)
      · obtain ⟨fa, hfa⟩ := get_of_lt (l := A.2.feds) (j := f) (by rw [hru.len, hwl]; omega)
        have hlog : logR A.2 f = fa.log := by
          unfold logR
          rw [if_pos (by omega), Int.toNat_natCast, hfa]
          rfl
        have hll := log_len hru (f : Int)
        have hsn : logsR (A.2.feds.take (f + 1)) = logsR (A.2.feds.take f) ++ fa.log.map Done.m := by
          rw [take_snoc hfa]
          unfold logsR
          rw [List.flatMap_append]
          simp
        refine solo_Log_s (by omega) (h8.pick 1 rfl) fun lv w9 h9 => ?_
        rw [hlog] at h9 hll
        refine lpi2 (fun q t9 t12 w => ∃ j : Nat, j ≤ fa.log.length ∧ t12 = .int .i64 j ∧ q = fa.log.length - j ∧ Sat e w (ownS 37 6 Msg.cs t9 ((A.2.wait ++ logsR (A.2.feds.take f)) ++ (fa.log.take j).map Done.m) :: ownS 39 7 Done.cs lv fa.log :: IsSolo r x.w A.2 (0 + A.1) :: blk b 25 x.cs :: S :: Q)) fa.log.length ⟨0, Nat.zero_le _, rfl, rfl, by simpa using h9.selR [_, _, _] [_, _, _] [2, 0, 1] (by decide) rfl⟩ ?_
        rintro q t9 _ w g2 ⟨j, hj, rfl, rfl, h10⟩ hg2
        refine lnS_rd h10 1 rfl (fun g hg => own_rd hg) ?_
        refine lt_c (fun c3 => iff_t ?_) (fun c3 => iff_f ?_)
        · obtain ⟨y, hy⟩ := get_of_lt (l := fa.log) (j := j) (by omega)
          refine ixS_rd h10 1 rfl (fun g hg => own_rd hg) (fun _ => rfl) hy fun p hp => ?_
          refine fld_of hp fun p1 hp1 => ldN_sub (us := y.m.cs) h10 1 rfl hp1 (by rfl) rfl ?_
          refine push1 te_58 (f := Msg.cs) (fun _ => rfl) (fun _ => ints_flat _) h10 (x := y.m) rfl (by rw [List.length_append, List.length_map, List.length_take]; omega) fun v2 w11 h11 => ?_
          refine inc_s (by omega) ?_
          refine hg2 _ _ _ _ (by omega) ⟨j + 1, by omega, rfl, rfl, ?_⟩
          rw [take_snoc hy, List.map_append, ← List.append_assoc]
          exact h11
        · have ej : j = fa.log.length := by omega
          rw [ej, List.take_length, List.append_assoc, ← hsn] at h10
          refine inc_s (by omega) ?_
          refine hg1 _ _ _ _ (by omega) ⟨f + 1, by omega, rfl, rfl, ?_, h10.selR [_, _] [_] [0] (by decide) rfl⟩
          rw [hsn, ← List.append_assoc, List.length_append, List.length_map]
          omega
      · have ef : f = x.Feds.length := by omega
        have hfe : A.2.feds.length = f := by rw [hru.len, hwl, ef]
        rw [← hfe, List.take_length] at h8 hlen
        replace h8 : Sat e w (ownS 37 6 Msg.cs t9 (allR A.2) :: IsSolo r x.w A.2 (0 + A.1) :: blk b 25 x.cs :: S :: Q) := h8
        replace hlen : (allR A.2).length ≤ 976 + 30 * A.2.feds.length := hlen
        have hpw := List.pairwise_iff_getElem.1 hcn.cn
        have hsrc := hcn.src
        generalize allR A.2 = al at h8 hlen hpw hsrc
        refine lpi1 (fun q t13 w => ∃ i : Nat, i ≤ al.length ∧ t13 = .int .i64 i ∧ q = al.length - i ∧ Sat e w (ownS 37 6 Msg.cs t9 al :: IsSolo r x.w A.2 (0 + A.1) :: blk b 25 x.cs :: S :: Q)) al.length ⟨0, Nat.zero_le _, rfl, rfl, h8⟩ ?_
        rintro q _ w g3 ⟨i, hi, rfl, rfl, h9⟩ hg3
        refine lnS_rd h9 0 rfl (fun g hg => own_rd hg) ?_
        refine lt_c (fun c3 => iff_t ?_) (fun c3 => iff_f (hk _ h9.drop.drop.drop))
        obtain ⟨m, hm⟩ := get_of_lt (l := al) (j := i) (by omega)
        obtain ⟨p1, p2, p3, p4, _⟩ := hsrc m (List.mem_of_getElem? hm)
        refine ixS_rd h9 0 rfl (fun g hg => own_rd hg) (fun _ => rfl) hm fun p hp => ldN_of h9 0 rfl hp rfl ?_
        rw [zero_37]
        refine al_s (cs := Msg.zero.cs) h9 rfl fun t14 w10 h10 => ?_
        refine stN_at h10 0 rfl (vs := m.cs) rfl rfl (by decide) (ints_flat _) (cs' := m.cs) (by rfl) fun w11 h11 => ?_
        refine fld_at (fld_at (ld1_at h11 0 rfl (v := .int .i64 m.key.Seq) rfl (lt_f (by omega) ?_)))
        refine gd_ff (fld_at (gd_ff (fld_at (gd_ff (ld1_at h11 0 rfl (v := .int .i64 m.key.From) rfl (gd_ff (lt_f (by omega) (pk_f ?_))))))))
        refine gd_ff (fld_at (gd_ff (fld_at (gd_ff (ld1_at h11 0 rfl (v := .int .i64 m.key.From) rfl (gd_ff (fld_at (gd_ff (ld1_at h11 3 rfl (v := x.fv) rfl (gd_ff ?_))))))))))
        refine lnS_rd h11 4 rfl (fun g hg => (hr g hg).feds) (gd_ff (ge_f (by omega) (pk_f ?_)))
        refine gd_ff (fld_at (gd_ff (fld_at (gd_ff (ld1_at h11 0 rfl (v := .int .i64 m.key.From) rfl (gd_ff (fld_at (gd_ff (ld1_at h11 0 rfl (v := .int .i64 m.To) rfl (gd_ff (eq_f p3 (pk_f (iff_f ?_)))))))))))))
        refine lpi1 (fun q t15 w => ∃ j : Nat, j ≤ i ∧ t15 = .int .i64 j ∧ q = i - j ∧ Sat e w (blk t14 37 m.cs :: ownS 37 6 Msg.cs t9 al :: IsSolo r x.w A.2 (0 + A.1) :: blk b 25 x.cs :: S :: Q)) i ⟨0, Nat.zero_le _, rfl, rfl, h11⟩ ?_
        rintro q _ w g4 ⟨j, hj, rfl, rfl, h12⟩ hg4
        refine lt_c (fun c4 => iff_t ?_) (fun c4 => iff_f ?_)
        · obtain ⟨y, hy⟩ := get_of_lt (l := al) (j := j) (by omega)
          have hcnm : Cn y m := by
            have := hpw j i (List.getElem?_eq_some_iff.1 hy).1 (List.getElem?_eq_some_iff.1 hm).1 (by omega)
            rwa [(List.getElem?_eq_some_iff.1 hy).2, (List.getElem?_eq_some_iff.1 hm).2] at this
          refine ixS_rd h12 1 rfl (fun g hg => own_rd hg) (fun _ => rfl) hy fun p hp => ldN_of h12 1 rfl hp rfl ?_
          refine al_s (cs := Msg.zero.cs) h12 rfl fun t16 w13 h13 => ?_
          refine stN_at h13 0 rfl (vs := y.cs) rfl rfl (by decide) (ints_flat _) (cs' := y.cs) (by rfl) fun w14 h14 => ?_
          have hnext : bi .add .i64 (.int .i64 j) (.int .i64 1) w14 fun t114 w => g4 [t114] w := by
            refine inc_s (by omega) ?_
            exact hg4 _ _ _ (by omega) ⟨j + 1, by omega, rfl, rfl, h14.drop⟩
          refine fld_at (fld_at (ld1_at h14 0 rfl (v := .int .i64 y.key.From) rfl ?_))
          refine fld_at (fld_at (ld1_at h14 1 rfl (v := .int .i64 m.key.From) rfl ?_))
          refine eq_c (fun d1 => ?_) (fun d1 => ?_)
          · refine gd_tt (fld_at (gd_tt (fld_at (gd_tt (ld1_at h14 0 rfl (v := .int .i64 y.key.Seq) rfl ?_)))))
            refine gd_tt (fld_at (gd_tt (fld_at (gd_tt (ld1_at h14 1 rfl (v := .int .i64 m.key.Seq) rfl (gd_tt ?_))))))
            refine eq_c (fun d2 => ?_) (fun d2 => ?_)
            · obtain ⟨e1, e2, e3, e4⟩ := hcnm d1 d2
              refine pk_t ?_
              refine gd_tt (fld_at (gd_tt (fld_at (gd_tt (ld1_at h14 0 rfl (v := .int .i64 y.key.T) rfl ?_)))))
              refine gd_tt (fld_at (gd_tt (fld_at (gd_tt (ld1_at h14 1 rfl (v := .int .i64 m.key.T) rfl (gd_tt (ne_f e1 (gd_tt ?_))))))))
              refine gd_ff (fld_at (gd_ff (ld1_at h14 0 rfl (v := .int .i64 y.Class) rfl (gd_ff (fld_at (gd_ff (ld1_at h14 1 rfl (v := .int .i64 m.Class) rfl (gd_ff (ne_f e2 (gd_tt (pk_f (gd_tt ?_))))))))))))
              refine gd_ff (fld_at (gd_ff (ld1_at h14 0 rfl (v := .int .i64 y.Body) rfl (gd_ff (fld_at (gd_ff (ld1_at h14 1 rfl (v := .int .i64 m.Body) rfl (gd_ff (ne_f e3 (gd_tt (pk_f (gd_tt ?_))))))))))))
              refine gd_ff (fld_at (gd_ff (ld1_at h14 0 rfl (v := .int .i64 y.To) rfl (gd_ff (fld_at (gd_ff (ld1_at h14 1 rfl (v := .int .i64 m.To) rfl (gd_ff (eq_f e4 (gd_tt (pk_f (pk_t (iff_f ?_)))))))))))))
              exact hnext
            · repeat (first | refine gd_tt ?_ | refine gd_ff ?_ | refine gd_tf ?_ | refine gd_ft ?_ | refine gd_u ?_ | refine pk_t ?_ | refine pk_f ?_ | refine iff_t ?_ | refine iff_f ?_ | refine not_t ?_ | refine not_f ?_ | refine beq_s ?_ | refine bne_s ?_ | refine ncP_p ?_ | refine nc_p ?_ | refine fld_at ?_ | refine xt_02 ?_ | refine xt_12 ?_ | refine xt_03 ?_ | refine xt_13 ?_ | refine xt_23 ?_ | refine eq_t (by omega) ?_ | refine eq_f (by omega) ?_ | refine ne_t (by omega) ?_ | refine ne_f (by omega) ?_ | refine lt_t (by omega) ?_ | refine lt_f (by omega) ?_ | refine gt_t (by omega) ?_ | refine gt_f (by omega) ?_ | refine ge_t (by omega) ?_ | refine ge_f (by omega) ?_ | refine le_t (by omega) ?_ | refine le_f (by omega) ?_)
              exact hnext
          · repeat (first | refine gd_tt ?_ | refine gd_ff ?_ | refine gd_tf ?_ | refine gd_ft ?_ | refine gd_u ?_ | refine pk_t ?_ | refine pk_f ?_ | refine iff_t ?_ | refine iff_f ?_ | refine not_t ?_ | refine not_f ?_ | refine beq_s ?_ | refine bne_s ?_ | refine ncP_p ?_ | refine nc_p ?_ | refine fld_at ?_ | refine xt_02 ?_ | refine xt_12 ?_ | refine xt_03 ?_ | refine xt_13 ?_ | refine xt_23 ?_ | refine eq_t (by omega) ?_ | refine eq_f (by omega) ?_ | refine ne_t (by omega) ?_ | refine ne_f (by omega) ?_ | refine lt_t (by omega) ?_ | refine lt_f (by omega) ?_ | refine gt_t (by omega) ?_ | refine gt_f (by omega) ?_ | refine ge_t (by omega) ?_ | refine ge_f (by omega) ?_ | refine le_t (by omega) ?_ | refine le_f (by omega) ?_)
            exact hnext
        · refine inc_s (by omega) ?_
          exact hg3 _ _ _ (by omega) ⟨i + 1, by omega, rfl, rfl, h12.drop⟩
end Go.Proofs.Ytfcnjbannejchaa
