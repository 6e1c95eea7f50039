/- The law CmbAlone. Conditions: none. -/
import Derived.Test.YtenglfaeohgkfaaCmbG
namespace Go.Proofs.Ytenglfaeohgkfaa
open Go Go.E
set_option maxRecDepth 100000
variable {e w : World} {L Q : List HP} {K : KV} {S S2 : HP}

theorem belowA (t : Int) : ∀ {l : List Msg}, Upk l → ∃ m, m ≤ l.length ∧ (l.filter fun x => decide (x.key.T < t)) = l.take m ∧ ∀ (i : Nat) (x : Msg), l[i]? = some x → (x.key.T < t ↔ i < m)
  | [], _ => ⟨0, Nat.le_refl _, rfl, fun i x h => by simp at h⟩
  | y :: l, h => by
    obtain ⟨h1, h2⟩ := List.pairwise_cons.1 h
    by_cases hy : y.key.T < t
    · obtain ⟨m, hm, hf, hi⟩ := belowA t h2
      refine ⟨m + 1, by simpa using hm, ?_, fun i x hx => ?_⟩
      · rw [List.filter_cons_of_pos (by simpa using hy), hf]
        rfl
      · cases i with
        | zero =>
          have : y = x := by simpa using hx
          subst this
          exact ⟨fun _ => by omega, fun _ => hy⟩
        | succ i =>
          have := hi i x (by simpa using hx)
          omega
    · refine ⟨0, Nat.zero_le _, ?_, fun i x hx => ⟨fun hlt => ?_, fun h => by omega⟩⟩
      · rw [List.take_zero]
        refine List.filter_eq_nil_iff.2 fun x hx => ?_
        rcases List.mem_cons.1 hx with rfl | hx
        · simpa using hy
        · have := h1 x hx
          unfold KeyLt at this
          simp
          omega
      · exfalso
        have hxm := List.mem_of_getElem? hx
        rcases List.mem_cons.1 hxm with rfl | hxl
        · exact hy hlt
        · have := h1 x hxl
          unfold KeyLt at this
          omega

def mA (p : Int × Nat) : Msg := (itP p.1 1 p.2 p.2).m
def mAs (l : List Int) : List Msg := l.zipIdx.map mA
theorem mAs_snoc (l : List Int) (t : Int) : mAs (l ++ [t]) = mAs l ++ [mA (t, l.length)] := by
  unfold mAs
  rw [List.zipIdx_append, List.map_append]
  simp
theorem mAs_mem {l : List Int} {m : Msg} (h : m ∈ mAs l) : ∃ (i : Nat) (t : Int), l[i]? = some t ∧ m = mA (t, i) := by
  unfold mAs at h
  obtain ⟨p, hp, rfl⟩ := List.mem_map.1 h
  exact ⟨p.2, p.1, List.mem_zipIdx_iff_getElem?.1 hp, rfl⟩
theorem mAs_low (l : List Int) : ((mAs l).filter fun x => decide (x.key.T < 100)).length = (l.filter fun t => decide (t < 100)).length := by
  unfold mAs
  rw [List.filter_map, List.length_map]
  conv => rhs; rw [← List.zipIdx_map_fst 0 l, List.filter_map, List.length_map]
  rfl
theorem addT_u {t : Int} (h : 0 ≤ t ∧ t ≤ 255) : addT t 2 = t + 2 := by
  unfold addT clampT Inf MaxT
  (repeat' split) <;> omega
theorem unsafe0 {q : List Msg} (h : ∀ y ∈ q, 0 ≤ y.key.T) : safeN echoW (NE q 0 0) = false := by
  cases q with
  | nil => rfl
  | cons a q =>
    have e1 : safeN echoW (NE (a :: q) 0 0) = decide (a.key.T < min 100 (CE 0 0).bound) := rfl
    have := h a (by simp)
    rw [e1, CE_bound (by decide), decide_eq_false]
    omega
/-- A node that heard all, behind so many steps. -/
structure NA (q : List Msg) (i : Nat) (N : ND) : Prop where
  clk : N.clk = CE Inf Inf
  q : N.q = q.drop i
  st : N.st = 0
  sent : N.sent = i
  log : N.log.length = i
theorem NA.bound {q : List Msg} {i : Nat} {N : ND} (h : NA q i N) : N.clk.bound = Inf := by
  rw [h.clk, CE_bound (Int.le_refl _)]
  rfl
theorem NA.step {q : List Msg} {i : Nat} {N : ND} {m : Msg} (h : NA q i N) (hm : q[i]? = some m) (hc : m.Class = 0) (hT : m.key.T < 100) :
    safeN echoW N = true ∧ doneN echoF N = ⟨m, 0⟩ ∧ outsN echoW 0 echoF N = [⟨⟨addT m.key.T 2, 0, i⟩, 1, 0, (m.Body + 1) % 1000⟩] ∧ NA q (i + 1) (stepN echoF N) := by
  have hd : N.q = m :: q.drop (i + 1) := by rw [h.q]; exact drop_cons hm
  have hh : hdM N.q = m := by rw [hd]; rfl
  have hrule : ruleN echoF N = (0, [⟨0, 2, 1⟩]) := by
    unfold ruleN
    rw [h.st, hh, hc]
    rfl
  have hbd := h.bound
  have hl := h.log
  have hse := h.sent
  refine ⟨?_, ?_, ?_, ⟨h.clk, ?_, ?_, ?_, ?_⟩⟩
  · unfold safeN
    rw [hh, hd, hbd]
    show (true && decide (m.key.T < min 100 Inf)) = true
    rw [decide_eq_true (by unfold Inf; omega)]
    rfl
  · unfold doneN
    rw [hh, hrule]
  · unfold outsN
    rw [hh, hrule, h.sent]
    have hr : routesL echoW.Parents ((0 : Nat) : Int) 0 echoW.Feds = [1] := by kernel_rfl
    simp only [spreadL, List.zipIdx_singleton, List.flatMap_cons, List.flatMap_nil, List.append_nil, hr, List.map_cons, List.map_nil, sentM]
    simp
  · show N.q.tail = _
    rw [hd]
    rfl
  · show (ruleN echoF N).1 = 0
    rw [hrule]
  · show N.sent + ((ruleN echoF N).2.length : Int) = ((i + 1 : Nat) : Int)
    rw [hrule, hse]
    simp
  · show (N.log ++ [doneN echoF N]).length = i + 1
    rw [List.length_append, List.length_singleton, hl]
theorem NA.stop {q : List Msg} {i : Nat} {N : ND} (h : NA q i N) (hm : ∀ m, q[i]? = some m → ¬ m.key.T < 100) : safeN echoW N = false := by
  unfold safeN
  rw [h.q]
  cases hd : q.drop i with
  | nil => rfl
  | cons a r =>
    have ha : q[i]? = some a := by
      have := congrArg (fun l => l[0]?) hd
      simpa using this
    have := hm a ha
    show (true && decide (a.key.T < min 100 N.clk.bound)) = false
    rw [decide_eq_false (by omega)]
    rfl

theorem cmbAlone_s {v : Value} {l : List Int} (hS : Sat e w (S :: Q)) (hr : ∀ g, S g → rdS 1 (intsK .u8) v l g) (hl : ∀ m ∈ l, (Lit.int .u8 m).wf = true) (hk : ∀ w', Sat e w' (S :: Q) → K (.bool true) w') :
    Cl prog 5 #[v] w K := by
  refine pacelinelaw12_CmbAlone_calls ?_
  unfold pacelinelaw12_CmbAlone
  refine lnS_rd hS 0 rfl hr ?_
  refine gt_c (fun c1 => ?_) (fun c1 => ?_)
  · repeat (first | refine gd_tt ?_ | refine gd_ff ?_ | refine gd_tf ?_ | refine gd_ft ?_ | refine gd_u ?_ | refine pk_t ?_ | refine pk_f ?_ | refine iff_t ?_ | refine iff_f ?_ | refine not_t ?_ | refine not_f ?_ | refine beq_s ?_ | refine bne_s ?_ | refine ncP_p ?_ | refine nc_p ?_ | refine fld_at ?_ | refine xt_02 ?_ | refine xt_12 ?_ | refine xt_03 ?_ | refine xt_13 ?_ | refine xt_23 ?_ | refine eq_t (by omega) ?_ | refine eq_f (by omega) ?_ | refine ne_t (by omega) ?_ | refine ne_f (by omega) ?_ | refine lt_t (by omega) ?_ | refine lt_f (by omega) ?_ | refine gt_t (by omega) ?_ | refine gt_f (by omega) ?_ | refine ge_t (by omega) ?_ | refine ge_f (by omega) ?_ | refine le_t (by omega) ?_ | refine le_f (by omega) ?_)
    exact shown12_s hS fun w2 h2 => hk _ h2
  refine gd_ff (shown12_s hS fun w2 h2 => gd_ff (not_t (pk_f (iff_f ?_))))
  refine start_s h2 fun r w3 h3 => ?_
  refine xt_02 (xt_12 (ne_f rfl (gd_ff (gd_ff (bnp_s _ (pk_f (iff_f ?_)))))))
  have hN0 : N0 = NE [] 0 0 := rfl
  rw [hN0] at h3
  refine lpi2 (fun z t5 t6 w => ∃ (j : Nat) (q : List Msg), j ≤ l.length ∧ t6 = .int .i64 j ∧ t5 = .int .i64 (((l.take j).filter fun t => decide (t < 100)).length : Nat) ∧ z = l.length - j ∧ q.Perm (mAs (l.take j)) ∧ Sat e w (IsNode r echoW 0 (NE q 0 0) 0 :: S :: Q)) l.length ⟨0, [], Nat.zero_le _, rfl, rfl, rfl, .refl _, h3⟩ ?_
  rintro z _ _ w g1 ⟨j, q, hj, rfl, rfl, rfl, hp, h4⟩ hg1
  have hq64 : QOk q := (node_ok 0 h4 rfl).2
  have hqm : ∀ y ∈ q, ∃ (i : Nat) (t : Int), i < j ∧ (0 ≤ t ∧ t ≤ 255) ∧ y = mA (t, i) := by
    intro y hy
    obtain ⟨i, t, hi, rfl⟩ := mAs_mem (hp.mem_iff.1 hy)
    have hil := (List.getElem?_eq_some_iff.1 hi).1
    rw [List.length_take] at hil
    rw [List.getElem?_take, if_pos (by omega)] at hi
    exact ⟨i, t, by omega, wf8c (hl t (List.mem_of_getElem? hi)), rfl⟩
  refine lnS_rd h4 1 rfl hr ?_
  refine lt_c (fun c2 => iff_t ?_) (fun c2 => iff_f ?_)
  · obtain ⟨t, ht⟩ := get_of_lt (l := l) (j := j) (by omega)
    have ht8 := wf8c (hl t (List.mem_of_getElem? ht))
    have hfl : ((l.take j).filter fun t => decide (t < 100)).length ≤ j := Nat.le_trans (List.length_filter_le _ _) (by rw [List.length_take]; omega)
    refine J1.cut (fun t5 w => ∃ q : List Msg, t5 = .int .i64 (((l.take (j + 1)).filter fun t => decide (t < 100)).length : Nat) ∧ q.Perm (mAs (l.take (j + 1))) ∧ Sat e w (IsNode r echoW 0 (NE q 0 0) 0 :: S :: Q)) (fun k2 hcut => ?_) ?_
    · refine ixS_rd h4 1 rfl hr (fun _ => rfl) ht fun p hap => ld1_of h4 1 rfl hap (v := .int .u8 t) rfl ?_
      refine cv_s ?_
      rw [wrap_i64 (by omega) (by omega)]
      refine bld_s (ints [t, 1, j]) (by kernel_rfl) (bld_s (mA (t, j)).cs (by kernel_rfl) ?_)
      rw [zero_36]
      refine al_s (cs := Msg.zero.cs) h4 rfl fun t7 w5 h5 => ?_
      refine stN_at h5 0 rfl (vs := (mA (t, j)).cs) rfl rfl (Nat.le_of_ble_eq_true rfl) (ints_flat _) (cs' := (mA (t, j)).cs) (by rfl) fun w6 h6 => ?_
      refine ldN_at h6 0 (vs := (mA (t, j)).cs) rfl (by rfl) rfl ?_
      refine bld_s (itP t 1 j j).cs (by kernel_rfl) ?_
      have hpush : pushE 64 q (itP t 1 j j).m = 0 := by
        rw [pushE_out fun y hy hke => ?_, if_neg ?_]
        · have := hp.length_eq
          unfold mAs at this
          rw [List.length_map, List.length_zipIdx, List.length_take] at this
          omega
        · obtain ⟨i, t', hi, _, rfl⟩ := hqm y hy
          have h7 : ((i : Nat) : Int) = ((j : Nat) : Int) := congrArg Key.Seq hke
          omega
      obtain ⟨p1, p2⟩ := NE_plain (q := q) (a := 0) (b := 0) (t := t) (j := 1) (s := j) (bo := j) (by kernel_rfl) ht8.1 hpush
      refine node_Hear_s (i := itP t 1 j j) (by show In64 t; unfold In64; omega) h6.swap fun w7 h7 => ?_
      rw [p2] at h7
      rw [p1]
      refine ne_f rfl (gd_ff (gd_ff (node_Safe_s h7 fun w8 h8 => ?_)))
      rw [unsafe0 (q := insK (itP t 1 j j).m q) fun y hy => ?_]
      · refine pk_f (iff_f ?_)
        refine ixS_rd h8 2 rfl hr (fun _ => rfl) ht fun p hap => ld1_of h8 2 rfl hap (v := .int .u8 t) rfl ?_
        refine cv_s ?_
        rw [wrap_i64 (by omega) (by omega)]
        have hperm : (insK (itP t 1 j j).m q).Perm (mAs (l.take (j + 1))) := by
          have hlt : (l.take j).length = j := by rw [List.length_take]; omega
          rw [take_snoc ht, mAs_snoc, hlt]
          exact (insK_perm _ _).trans ((hp.cons _).trans (List.perm_append_comm (l₁ := [mA (t, j)]) (l₂ := mAs (l.take j))))
        have hcnt : ((l.take (j + 1)).filter fun t => decide (t < 100)).length = ((l.take j).filter fun t => decide (t < 100)).length + if t < 100 then 1 else 0 := by
          rw [take_snoc ht, List.filter_append, List.length_append]
          by_cases h : t < 100 <;> simp [h]
        refine lt_c (fun d1 => iff_t ?_) (fun d1 => iff_f ?_)
        · refine inc_s (by omega) (hcut _ _ ⟨_, ?_, hperm, h8.selR [_, _] [_] [0] (by decide) rfl⟩)
          rw [hcnt, if_pos d1]
        · refine hcut _ _ ⟨_, ?_, hperm, h8.selR [_, _] [_] [0] (by decide) rfl⟩
          rw [hcnt, if_neg d1]
          rfl
      · rcases List.mem_cons.1 ((insK_perm _ _).mem_iff.1 hy) with rfl | hy
        · exact ht8.1
        · obtain ⟨i, t', _, ht', rfl⟩ := hqm y hy
          exact ht'.1
    · rintro _ w' ⟨q', rfl, hp', h'⟩
      refine inc_s (by omega) ?_
      exact hg1 _ _ _ _ (by omega) ⟨j + 1, q', by omega, rfl, rfl, rfl, hp', h'⟩
  · have ej : j = l.length := by omega
    subst ej
    rw [List.take_length] at hp ⊢
    have hlen : q.length = l.length := by
      rw [hp.length_eq]
      unfold mAs
      rw [List.length_map, List.length_zipIdx]
    obtain ⟨m, hm1, hm2, hm3⟩ := belowA 100 hq64.up
    have hcnt : (l.filter fun t => decide (t < 100)).length = m := by
      rw [← mAs_low, ← (hp.filter _).length_eq, hm2, List.length_take]
      omega
    rw [hcnt]
    have hInf : validT Inf = true := by decide
    obtain ⟨p1, p2⟩ := NE_hear1 (q := q) (a := 0) (b := 0) (t := Inf) hInf (by decide)
    obtain ⟨p3, p4⟩ := NE_hear2 (q := q) (a := Inf) (b := 0) (t := Inf) hInf (by decide)
    refine bld_s (ints [Inf, 0, 0]) (by kernel_rfl) (bld_s (ints [Inf, 0, 0, 0, 0, 0]) (by kernel_rfl) (bld_s (itB Inf).cs (by kernel_rfl) ?_))
    refine node_Hear_s (i := itB Inf) (by show In64 Inf; unfold In64 Inf; omega) h4 fun w5 h5 => ?_
    rw [p2] at h5
    rw [p1]
    refine ne_f rfl (gd_ff (gd_ff (bld_s (ints [Inf, 0, 0]) (by kernel_rfl) (gd_ff (bld_s (ints [Inf, 0, 0, 0, 0, 0]) (by kernel_rfl) (gd_ff (bld_s (itB Inf).cs (by kernel_rfl) (gd_ff ?_))))))))
    refine node_Hear_s (i := itB Inf) (by show In64 Inf; unfold In64 Inf; omega) h5 fun w6 h6 => ?_
    rw [p4] at h6
    rw [p3]
    refine gd_ff (ne_f rfl (pk_f (iff_f ?_)))
    refine lpi1 (fun z t8 w => ∃ (i : Nat) (N : ND), i ≤ m ∧ t8 = .int .i64 i ∧ z = m - i ∧ NA q i N ∧ Sat e w (IsNode r echoW 0 N i :: S :: Q)) m ⟨0, NE q Inf Inf, Nat.zero_le _, rfl, rfl, ⟨rfl, rfl, rfl, rfl, rfl⟩, h6⟩ ?_
    rintro z _ w g3 ⟨i, N, hi, rfl, rfl, hA, h7⟩ hg3
    refine lt_c (fun c3 => iff_t ?_) (fun c3 => iff_f ?_)
    · obtain ⟨y, hy⟩ := get_of_lt (l := q) (j := i) (by omega)
      have hyT := (hm3 i y hy).2 (by omega)
      obtain ⟨i0, t0, hi0, ht0, rfl⟩ := hqm y (List.mem_of_getElem? hy)
      obtain ⟨s1, s2, s3, s4⟩ := hA.step hy rfl hyT
      refine node_Step_s (fd := echoF) (by omega) rfl h7 (fun hs => by rw [s1] at hs; cases hs) (fun _ v1 w8 h8 => ?_)
      rw [s3] at h8
      rw [s2]
      have hT2 : addT (mA (t0, i0)).key.T 2 = t0 + 2 := addT_u ht0
      have hB2 : ((mA (t0, i0)).Body + 1) % 1000 = (i0 : Int) + 1 := by show ((i0 : Int) + 1) % 1000 = _; omega
      rw [hT2, hB2] at h8
      refine xt_03 (xt_13 (xt_23 ?_))
      rw [zero_51]
      refine al_s (cs := Done.zero.cs) h8 rfl fun t9 w9 h9 => ?_
      refine stN_at h9 0 rfl (vs := (⟨mA (t0, i0), 0⟩ : Done).cs) rfl rfl (Nat.le_of_ble_eq_true rfl) (ints_flat _) (cs' := (⟨mA (t0, i0), 0⟩ : Done).cs) (by rfl) fun w10 h10 => ?_
      refine dr_s h10 fun w11 h11 => ?_
      refine ne_f rfl (gd_ff (gd_ff (lnS_rd h11 1 rfl (fun g hg => own_rd hg) (gd_ff (ne_f rfl (pk_f ?_))))))
      refine gd_ff (gd_ff (ixS_rd (j := 0) h11 1 rfl (fun g hg => own_rd hg) (fun _ => rfl) rfl fun p hp => ?_))
      refine gd_ff (fld_of hp fun p1 hp1 => gd_ff (ldN_sub (us := ints [t0 + 2, 0, i]) h11 1 rfl hp1 (by rfl) rfl ?_))
      refine gd_ff (fld_at (gd_ff (fld_at (gd_ff (fld_at (gd_ff (ld1_at h11 0 rfl (v := .int .i64 t0) rfl (gd_ff ?_))))))))
      refine add_s (by omega) (by omega) (gd_ff (gd_ff (bld_s (ints [t0 + 2, 0, i]) (by kernel_rfl) ?_)))
      refine ⟨gd_ff (ldN_sub (us := ints [t0 + 2, 0, i]) h11 1 rfl hp1 (by rfl) rfl ⟨rfl, rfl⟩), gd_ff ?_⟩
      refine bO_ne (ns := [t0 + 2, 0, i]) (ms := [t0 + 2, 0, i]) eqT_34 agg_34 egt_34 (by decide) rfl ?_
      rw [beq_self_eq_true]
      refine pk_f (gd_ff (gd_ff (ixS_rd (j := 0) h11 1 rfl (fun g hg => own_rd hg) (fun _ => rfl) rfl fun p hp => ?_)))
      refine gd_ff (fld_of hp fun p1 hp1 => gd_ff (ld1_of h11 1 rfl hp1 (v := .int .i64 1) rfl (gd_ff (ne_f rfl (pk_f ?_)))))
      refine gd_ff (gd_ff (ixS_rd (j := 0) h11 1 rfl (fun g hg => own_rd hg) (fun _ => rfl) rfl fun p hp => ?_))
      refine gd_ff (fld_of hp fun p1 hp1 => gd_ff (ld1_of h11 1 rfl hp1 (v := .int .i64 ((i0 : Int) + 1)) rfl (gd_ff ?_)))
      refine fld_at (gd_ff (fld_at (gd_ff (ld1_at h11 0 rfl (v := .int .i64 i0) rfl (gd_ff ?_)))))
      refine add_s (by omega) (by omega) (gd_ff (ne_f rfl (pk_f (iff_f (inc_s (by omega) ?_)))))
      exact hg3 _ _ _ (by omega) ⟨i + 1, stepN echoF N, by omega, rfl, rfl, s4, h11.selR [_, _, _] [_] [2] (by decide) rfl⟩
    · have ei : i = m := by omega
      subst ei
      refine node_Safe_s h7 fun w8 h8 => ?_
      rw [hA.stop fun y hy hlt => by have := (hm3 i y hy).1 hlt; omega]
      have hlog := hA.log
      have hql := congrArg List.length hA.q
      rw [List.length_drop] at hql
      refine not_f (gd_tt (gd_tt (node_Log_s (by omega) h8 fun lv w9 h9 => ?_)))
      refine gd_tt (lnS_rd h9 0 rfl (fun g hg => own_rd hg) (gd_tt (gd_tt (eq_t (by omega) (pk_t (gd_tt (gd_tt (nc_p (gd_tt (fld_at (gd_tt ?_)))))))))))
      obtain ⟨q2, hq1, hq2⟩ := node_wait h9.swap
      refine hq1 _ (gd_tt (hq2 _ fun v2 w10 h10 => ?_))
      refine gd_tt (lnS_rd h10 0 rfl (fun g hg => own_rd hg) (gd_tt (gd_tt (lnS_rd h10 3 rfl hr (gd_tt (gd_tt (sub_s (by omega) (by omega) (gd_tt (eq_t (by omega) (pk_t ?_))))))))))
      exact hk _ (h10.selR [_, _, _] [] [] (by decide) rfl)
end Go.Proofs.Ytenglfaeohgkfaa
