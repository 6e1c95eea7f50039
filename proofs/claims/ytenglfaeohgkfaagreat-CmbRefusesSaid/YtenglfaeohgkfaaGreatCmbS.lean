/- The law CmbScript. Conditions: none. -/
import Derived.Test.YtenglfaeohgkfaaGreatCmbR
namespace Go.Proofs.YtenglfaeohgkfaaGreat
open Go Go.E
set_option maxRecDepth 100000
variable {e w : World} {L Q : List HP} {K : KV} {S S2 : HP}

/-- Both nodes step: with what. -/
theorem step_both {a b f k i : Nat} {x : WdX} {fd : Fed} {N : ND} {K1 : KV} (hk0 : k ≤ 1000) (hfd : x.w.Feds[f]? = some fd) (hi : Q[i]? = some S) (hr : ∀ g, S g → RdWd x g) (hs : x.short) (hS : Sat e w (IsNode a x.w f N k :: IsNR b x f N k :: Q))
    (hK : ∀ (d : Done) (c : Int) (ms : List Msg) (S1 : HP) v (N' : ND) (k' : Nat) (w' : World), ms.length ≤ 1000 → k' ≤ k + 1 → (∀ g, S1 g → rdS 6 Msg.cs v ms g) → Sat e w' (S1 :: IsNode a x.w f N' k' :: IsNR b x f N k :: Q) →
      (∀ (w2 : World) (X : List HP) (K2 : KV), Sat e w2 (IsNR b x f N k :: X ++ Q) → (∀ (S2 : HP) u w3, (∀ g, S2 g → rdS 6 Msg.cs u ms g) → Sat e w3 (S2 :: IsNR b x f N' k' :: X ++ Q) → K2 (.tuple #[.agg d.cs.toArray, u, .int .i64 c]) w3) → Cl prog 12 #[.pointer (some ⟨b, 0, none⟩)] w2 K2) →
      K1 (.tuple #[.agg d.cs.toArray, v, .int .i64 c]) w') : Cl prog 11 #[.pointer (some ⟨a, 0, none⟩)] w K1 := by
  have hok := (node_ok 0 hS rfl).1
  refine node_Step_s (fd := fd) hk0 hfd hS (fun hno w1 h1 => ?_) (fun hyes v w1 h1 => ?_)
  · refine hK Done.zero 150 [] (ownS 26 6 Msg.cs (.slice none 0 0) []) _ N k w1 (by simp) (by omega) (fun g hg => own_rd hg) (h1.own_nil 26 6 Msg.cs) fun w2 X K2 h2 hk2 => ?_
    refine nr_Step_s (fd := fd) (x := x) hk0 hfd (X.length + i) (by show (X ++ Q)[X.length + i]? = some S; rw [List.getElem?_append_right (by omega)]; simpa using hi) h2 hr hs (fun _ w3 h3 => ?_) (fun h => by rw [hno] at h; cases h)
    exact hk2 (ownS 26 6 Msg.cs (.slice none 0 0) []) _ _ (fun g hg => own_rd hg) (h3.own_nil 26 6 Msg.cs)
  · have hol : (outsN x.w f fd N).length ≤ 1000 := by
      have h1 := spreadL_len x.w.Parents x.w.Feds f N.sent (hdM N.q).key.T (hdM N.q).Body (ruleN fd N).2
      have h2 := (step_outs hok.may (List.mem_of_getElem? hfd) N.st (hdM N.q).Class).1
      have h3 : (ruleN fd N).2.length * x.w.Feds.length ≤ 3 * 8 := Nat.mul_le_mul h2 hok.may.n.2
      unfold outsN
      omega
    refine hK (doneN fd N) 0 (outsN x.w f fd N) _ v (stepN fd N) (k + 1) w1 hol (Nat.le_refl _) (fun g hg => own_rd hg) h1 fun w2 X K2 h2 hk2 => ?_
    refine nr_Step_s (fd := fd) (x := x) hk0 hfd (X.length + i) (by show (X ++ Q)[X.length + i]? = some S; rw [List.getElem?_append_right (by omega)]; simpa using hi) h2 hr hs (fun h => by rw [hyes] at h; cases h) (fun _ u w3 h3 => ?_)
    exact hk2 _ u _ (fun g hg => own_rd hg) h3

theorem cmbScript_s {x : WdX} {f : Int} {v : Value} {l : List OpX} (hS : Sat e w (S :: Q)) (hr : ∀ g, S g → RdWd x g) (hwf : x.wf) (_hf : (Lit.int .i64 f).wf = true) (hr1 : ∀ g, S g → rdS 10 OpX.cs v l g) (hw : ∀ x ∈ l, ∀ m ∈ x.ns, (Lit.int .i64 m).wf = true) (hk : ∀ w', Sat e w' (S :: Q) → K (.bool true) w') :
    Cl prog 4 #[.agg x.cs.toArray, .int .i64 f, v] w K := by
  refine pacelinelaw12_CmbScript_calls ?_
  unfold pacelinelaw12_CmbScript
  refine al_s (cs := x.cs) hS rfl fun b w1 h1 => ?_
  refine ldN_at h1 0 (vs := x.cs) rfl (by rfl) rfl ?_
  refine small12_s (x := x) 1 rfl h1 hr fun w2 q h2 hq => ?_
  cases q with
  | false =>
    refine not_f ?_
    repeat (first | refine gd_tt ?_ | refine gd_ff ?_ | refine gd_tf ?_ | refine gd_ft ?_ | refine gd_u ?_ | refine pk_t ?_ | refine pk_f ?_ | refine iff_t ?_ | refine iff_f ?_ | refine not_t ?_ | refine not_f ?_ | refine beq_s ?_ | refine bne_s ?_ | refine ncP_p ?_ | refine nc_p ?_ | refine fld_at ?_ | refine xt_02 ?_ | refine xt_12 ?_ | refine xt_03 ?_ | refine xt_13 ?_ | refine xt_23 ?_ | refine eq_t (by omega) ?_ | refine eq_f (by omega) ?_ | refine ne_t (by omega) ?_ | refine ne_f (by omega) ?_ | refine lt_t (by omega) ?_ | refine lt_f (by omega) ?_ | refine gt_t (by omega) ?_ | refine gt_f (by omega) ?_ | refine ge_t (by omega) ?_ | refine ge_f (by omega) ?_ | refine le_t (by omega) ?_ | refine le_f (by omega) ?_)
    exact shown12_s h2 fun w3 h3 => hk _ h3.drop
  | true =>
    have hs := hq rfl
    refine not_t (gd_ff (gd_ff (lnS_rd h2 1 rfl hr1 (gd_ff (gt_c (fun c8 => ?_) (fun c8 => ?_))))))
    · repeat (first | refine gd_tt ?_ | refine gd_ff ?_ | refine gd_tf ?_ | refine gd_ft ?_ | refine gd_u ?_ | refine pk_t ?_ | refine pk_f ?_ | refine iff_t ?_ | refine iff_f ?_ | refine not_t ?_ | refine not_f ?_ | refine beq_s ?_ | refine bne_s ?_ | refine ncP_p ?_ | refine nc_p ?_ | refine fld_at ?_ | refine xt_02 ?_ | refine xt_12 ?_ | refine xt_03 ?_ | refine xt_13 ?_ | refine xt_23 ?_ | refine eq_t (by omega) ?_ | refine eq_f (by omega) ?_ | refine ne_t (by omega) ?_ | refine ne_f (by omega) ?_ | refine lt_t (by omega) ?_ | refine lt_f (by omega) ?_ | refine gt_t (by omega) ?_ | refine gt_f (by omega) ?_ | refine ge_t (by omega) ?_ | refine ge_f (by omega) ?_ | refine le_t (by omega) ?_ | refine le_f (by omega) ?_)
      exact shown12_s h2 fun w3 h3 => hk _ h3.drop
    refine pk_f (iff_f ?_)
    refine ldN_at h2 0 (vs := x.cs) rfl (by rfl) rfl ?_
    refine node_New_s (x := x) (f := f) 1 rfl h2 hr hwf hs (fun hbad w3 h3 => ?_) (fun hok hno w3 h3 => ?_) (fun hok n fd hfn hfd hmay r w3 h3 => ?_)
    · refine xt_02 (xt_12 ?_)
      refine ldN_at h3 0 (vs := x.cs) rfl (by rfl) rfl ?_
      refine ref12_New_s (x := x) (f := f) 1 rfl h3 hr hs (fun _ w4 h4 => ?_) (fun hok _ _ _ => absurd hok hbad) (fun hok _ _ _ _ _ _ _ _ => absurd hok hbad)
      refine xt_02 (xt_12 (ne_f rfl (gd_ff (gd_ff (bnp_n (gd_ff (gd_ff (bnp_n (gd_ff (bne_s (pk_f (gd_ff (shown12_s h4 fun w5 h5 => ?_)))))))))))))
      repeat (first | refine gd_tt ?_ | refine gd_ff ?_ | refine gd_tf ?_ | refine gd_ft ?_ | refine gd_u ?_ | refine pk_t ?_ | refine pk_f ?_ | refine iff_t ?_ | refine iff_f ?_ | refine not_t ?_ | refine not_f ?_ | refine beq_s ?_ | refine bne_s ?_ | refine ncP_p ?_ | refine nc_p ?_ | refine fld_at ?_ | refine xt_02 ?_ | refine xt_12 ?_ | refine xt_03 ?_ | refine xt_13 ?_ | refine xt_23 ?_ | refine eq_t (by omega) ?_ | refine eq_f (by omega) ?_ | refine ne_t (by omega) ?_ | refine ne_f (by omega) ?_ | refine lt_t (by omega) ?_ | refine lt_f (by omega) ?_ | refine gt_t (by omega) ?_ | refine gt_f (by omega) ?_ | refine ge_t (by omega) ?_ | refine ge_f (by omega) ?_ | refine le_t (by omega) ?_ | refine le_f (by omega) ?_)
      refine bnp_n (iff_t ?_)
      exact hk _ h5.drop
    · refine xt_02 (xt_12 ?_)
      refine ldN_at h3 0 (vs := x.cs) rfl (by rfl) rfl ?_
      refine ref12_New_s (x := x) (f := f) 1 rfl h3 hr hs (fun hbad => absurd hok hbad) (fun _ _ w4 h4 => ?_) (fun _ n fd _ _ hm _ _ _ => by rw [hno] at hm; cases hm)
      refine xt_02 (xt_12 (ne_f rfl (gd_ff (gd_ff (bnp_n (gd_ff (gd_ff (bnp_n (gd_ff (bne_s (pk_f (gd_ff (shown12_s h4 fun w5 h5 => ?_)))))))))))))
      repeat (first | refine gd_tt ?_ | refine gd_ff ?_ | refine gd_tf ?_ | refine gd_ft ?_ | refine gd_u ?_ | refine pk_t ?_ | refine pk_f ?_ | refine iff_t ?_ | refine iff_f ?_ | refine not_t ?_ | refine not_f ?_ | refine beq_s ?_ | refine bne_s ?_ | refine ncP_p ?_ | refine nc_p ?_ | refine fld_at ?_ | refine xt_02 ?_ | refine xt_12 ?_ | refine xt_03 ?_ | refine xt_13 ?_ | refine xt_23 ?_ | refine eq_t (by omega) ?_ | refine eq_f (by omega) ?_ | refine ne_t (by omega) ?_ | refine ne_f (by omega) ?_ | refine lt_t (by omega) ?_ | refine lt_f (by omega) ?_ | refine gt_t (by omega) ?_ | refine gt_f (by omega) ?_ | refine ge_t (by omega) ?_ | refine ge_f (by omega) ?_ | refine le_t (by omega) ?_ | refine le_f (by omega) ?_)
      refine bnp_n (iff_t ?_)
      exact hk _ h5.drop
    · refine xt_02 (xt_12 ?_)
      refine ldN_at h3 1 (vs := x.cs) rfl (by rfl) rfl ?_
      refine ref12_New_s (x := x) (f := f) 2 rfl h3 hr hs (fun hbad => absurd hok hbad) (fun _ hno => by rw [hmay] at hno; cases hno) (fun _ n2 fd2 hfn2 hfd2 _ r2 w4 h4 => ?_)
      have hn2 : n2 = n := by omega
      subst hn2
      rw [hfd] at hfd2
      cases hfd2
      refine xt_02 (xt_12 (ne_f rfl (gd_ff (gd_ff (bnp_s _ (gd_ff (gd_ff (bnp_s _ (gd_ff (bne_s (pk_f (gd_ff (shown12_s h4 fun w5 h5 => ?_)))))))))))))
      repeat (first | refine gd_tt ?_ | refine gd_ff ?_ | refine gd_tf ?_ | refine gd_ft ?_ | refine gd_u ?_ | refine pk_t ?_ | refine pk_f ?_ | refine iff_t ?_ | refine iff_f ?_ | refine not_t ?_ | refine not_f ?_ | refine beq_s ?_ | refine bne_s ?_ | refine ncP_p ?_ | refine nc_p ?_ | refine fld_at ?_ | refine xt_02 ?_ | refine xt_12 ?_ | refine xt_03 ?_ | refine xt_13 ?_ | refine xt_23 ?_ | refine eq_t (by omega) ?_ | refine eq_f (by omega) ?_ | refine ne_t (by omega) ?_ | refine ne_f (by omega) ?_ | refine lt_t (by omega) ?_ | refine lt_f (by omega) ?_ | refine gt_t (by omega) ?_ | refine gt_f (by omega) ?_ | refine ge_t (by omega) ?_ | refine ge_f (by omega) ?_ | refine le_t (by omega) ?_ | refine le_f (by omega) ?_)
      refine bnp_s _ (iff_f ?_)
      generalize nodeI x.w.Feds.length n2 fd = N at h5
      refine lpi1 (fun q t11 w => ∃ (j : Nat) (N : ND) (k : Nat), j ≤ l.length ∧ t11 = .int .i64 j ∧ q = l.length - j ∧ k ≤ j ∧ Sat e w (IsNode r x.w n2 N k :: IsNR r2 x n2 N k :: blk b 39 x.cs :: S :: Q)) l.length ⟨0, N, 0, Nat.zero_le _, rfl, rfl, Nat.le_refl _, h5.swap⟩ ?_
      rintro q _ w g1 ⟨j, N, k, hj, rfl, rfl, hkj, h6⟩ hg1
      refine lnS_rd h6 3 rfl hr1 ?_
      refine lt_c (fun c2 => iff_t ?_) (fun c2 => iff_f ?_)
      · obtain ⟨o, ho⟩ := get_of_lt (l := l) (j := j) (by omega)
        have hom := List.mem_of_getElem? ho
        have ht64 := OpX.t64 hw hom
        refine ixS_rd h6 3 rfl hr1 (fun _ => rfl) ho fun p hp => ldN_of h6 3 rfl hp rfl ?_
        rw [zero_30, zero_46]
        refine al_s (cs := ints [0, 0, 0, 0, 0, 0, 0, 0, 0, 0]) h6 rfl fun t12 w7 h7 => ?_
        refine stN_at h7 0 rfl (vs := o.cs) rfl rfl (by decide) (ints_flat _) (cs' := o.cs) (by rfl) fun w8 h8 => ?_
        replace h8 : Sat e w8 (blk t12 30 o.cs :: IsNode r x.w n2 N k :: IsNR r2 x n2 N k :: blk b 39 x.cs :: S :: Q) := h8
        refine fld_at (ld1_at h8 0 rfl (v := .int .i64 o.Kind) rfl ?_)
        refine J0.cut (fun w => ∃ (N : ND) (k : Nat), k ≤ j + 1 ∧ Sat e w (IsNode r x.w n2 N k :: IsNR r2 x n2 N k :: blk b 39 x.cs :: S :: Q)) (fun k2 hcut => ?_) ?_
        · refine eq_c (fun c3 => iff_t ?_) (fun c3 => iff_f (eq_c (fun c4 => iff_t ?_) (fun c4 => iff_f (eq_c (fun c5 => iff_t ?_) (fun c5 => iff_f ?_)))))
          · refine dr_s h8 fun w9 h9 => ?_
            refine fld_at (ld1_at h9 0 rfl (v := .int .i64 o.From) rfl ?_)
            refine fld_at (ldN_at h9 0 (vs := o.I.cs) rfl (by rfl) rfl ?_)
            refine fld_at (ld1_at h9 0 rfl (v := .int .i64 o.From) rfl ?_)
            refine fld_at (ldN_at h9 0 (vs := o.I.cs) rfl (by rfl) rfl ?_)
            refine node_Hear_s (i := o.I) ht64 (h9.pick 1 rfl) fun w10 h10 => ?_
            refine ⟨ldN_at h10 1 (vs := o.I.cs) rfl (by rfl) rfl ⟨rfl, rfl⟩, ld1_at h10 1 rfl (v := .int .i64 o.From) rfl ⟨rfl, rfl⟩, ?_⟩
            refine nr_Hear_s (i := o.I) (h10.pick 2 rfl) fun w11 h11 => ?_
            refine ne_f rfl (iff_f (hcut _ ⟨hearN N o.From o.I, k, by omega, ?_⟩))
            exact h11.selR [_, _, _] [_, _] [1, 0] (by decide) rfl
          · refine step_both (i := 2) (by omega) hfd rfl hr hs (h8.selR [_, _, _, _] [_, _, _, _] [1, 2, 0, 3] (by decide) rfl) fun d c ms S1 v1 N' k' w9 hms hk' hrd h9 href => ?_
            refine xt_03 (xt_13 (xt_23 ?_))
            refine al_s (cs := Done.zero.cs) h9 rfl fun t13 w10 h10 => ?_
            refine stN_at h10 0 rfl (vs := d.cs) rfl rfl (Nat.le_of_ble_eq_true rfl) (ints_flat _) (cs' := d.cs) (by rfl) fun w11 h11 => ?_
            replace h11 : Sat e w11 (blk t13 46 d.cs :: S1 :: IsNode r x.w n2 N' k' :: IsNR r2 x n2 N k :: blk t12 30 o.cs :: blk b 39 x.cs :: S :: Q) := h11
            refine href _ [_, _, _] _ (h11.selR [_, _, _, _] [_, _, _, _] [3, 0, 1, 2] (by decide) rfl) fun S2 u w12 hrd2 h12 => ?_
            replace h12 : Sat e w12 (S2 :: IsNR r2 x n2 N' k' :: blk t13 46 d.cs :: S1 :: IsNode r x.w n2 N' k' :: blk t12 30 o.cs :: blk b 39 x.cs :: S :: Q) := h12
            refine xt_03 (xt_13 (xt_23 ?_))
            refine al_s (cs := Done.zero.cs) h12 rfl fun t16 w13 h13 => ?_
            refine stN_at h13 0 rfl (vs := d.cs) rfl rfl (Nat.le_of_ble_eq_true rfl) (ints_flat _) (cs' := d.cs) (by rfl) fun w14 h14 => ?_
            refine ldN_at h14 3 (vs := d.cs) rfl (by rfl) rfl ?_
            refine ldN_at h14 0 (vs := d.cs) rfl (by rfl) rfl ?_
            refine bO_ne (ns := d.ns) (ms := d.ns) eqT_46 agg_46 egt_46 (by decide) rfl ?_
            rw [beq_self_eq_true]
            refine gd_ff (gd_ff (gd_ff (ne_f rfl (pk_f (gd_ff (gd_ff (gd_ff ?_)))))))
            refine same12_s 4 1 rfl rfl h14 hrd hrd2 (by omega) fun w15 h15 => ?_
            refine gd_ff (not_t (pk_f (iff_f (hcut _ ⟨N', k', by omega, ?_⟩))))
            exact h15.selR [_, _, _, _, _, _, _] [_, _] [5, 2] (by decide) rfl
          · refine node_Tell_s (fd := fd) hfd (h8.pick 1 rfl) fun w9 h9 => ?_
            refine xt_02 (xt_12 ?_)
            refine nr_Tell_s (fd := fd) (x := x) hfd 3 rfl (h9.pick 2 rfl) hr fun w10 h10 => ?_
            refine xt_02 (xt_12 (ne_f rfl (gd_ff (gd_ff (gd_ff (bne_s ?_))))))
            rw [bne_self_eq_false]
            refine pk_f (iff_f (hcut _ ⟨tellN fd N, k, by omega, ?_⟩))
            exact h10.selR [_, _, _] [_, _] [1, 0] (by decide) rfl
          · exact hcut _ ⟨N, k, by omega, h8.drop⟩
        · rintro w' ⟨N', k', hk', h'⟩
          have hok' := (node_ok 0 h' rfl)
          have hq64 := hok'.2.len
          refine node_Safe_s h' fun w9 h9 => ?_
          refine nr_Safe_s h9.swap fun w10 h10 => ?_
          refine bne_s ?_
          rw [bne_self_eq_false]
          refine gd_ff (gd_ff (node_State_s h10.swap (gd_ff (gd_ff (nr_State_s h10 (gd_ff (ne_f rfl (pk_f ?_))))))))
          obtain ⟨g, hg1', hg2⟩ := node_bnd h10.swap
          refine gd_ff (gd_ff (nc_p (gd_ff (fld_at (gd_ff (hg1' _ (gd_ff (hg2 _ fun w11 h11 => ?_))))))))
          refine gd_ff (gd_ff (nr_Bound_s h11.swap fun w12 h12 => gd_ff (ne_f rfl (pk_f ?_))))
          obtain ⟨q, hq1, hq2⟩ := node_wait h12.swap
          refine gd_ff (gd_ff (nc_p (gd_ff (fld_at (gd_ff (hq1 _ (gd_ff (hq2 _ fun v1 w13 h13 => ?_))))))))
          refine gd_ff (gd_ff (nr_Waiting_s (h13.pick 2 rfl) fun v2 w14 h14 => ?_))
          refine gd_ff (same12_s 2 0 rfl rfl h14 (fun g hg => own_rd hg) (fun g hg => own_rd hg) (by omega) fun w15 h15 => ?_)
          refine gd_ff (not_t (pk_f (iff_f (inc_s (by omega) ?_))))
          refine hg1 _ _ _ (by omega) ⟨j + 1, N', k', by omega, rfl, rfl, hk', ?_⟩
          exact h15.selR [_, _, _, _] [_, _] [3, 1] (by decide) rfl
      · have hok' := (node_ok 0 h6 rfl).1
        have hlog := hok'.log
        refine node_Log_s (by omega) h6 fun lv w7 h7 => ?_
        refine nr_Log_s (by omega) (h7.pick 2 rfl) fun lv2 w8 h8 => ?_
        refine Same12_s 2 0 rfl rfl h8 (fun g hg => own_rd hg) (fun g hg => own_rd hg) (by omega) fun w9 h9 => ?_
        exact hk _ (h9.selR [_, _, _, _, _] [] [] (by decide) rfl)
end Go.Proofs.YtenglfaeohgkfaaGreat
