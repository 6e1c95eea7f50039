/- The law CmbRefuses. Conditions: none. -/
import Derived.Test.YtenglfaeohgkfaaGreatCmbS
namespace Go.Proofs.YtenglfaeohgkfaaGreat
open Go Go.E
set_option maxRecDepth 100000
variable {e w : World} {L Q : List HP} {K : KV} {S S2 : HP}

theorem refused {N : ND} {j : Int} {i : NItem} (h : hearE N j i ≠ 0) : hearN N j i = N := by
  unfold hearE at h
  unfold hearN
  split
  · rename_i h1
    rw [if_pos h1] at h
    rcases Clk.hear_cases N.clk j i.m.key.T with ⟨_, h2⟩ | ⟨_, _, _, h2, _⟩
    · rw [h2]
    · exact absurd h2 h
  · rename_i h1
    rw [if_neg h1] at h
    split
    · rename_i h2
      rw [if_pos h2.1, if_neg h2.2.1, if_neg h2.2.2] at h
      unfold pushQ
      rw [if_neg h]
    · rfl
theorem accepted {N : ND} {j : Int} {i : NItem} (h : hearE N j i = 0) (hp : i.Kind = 0) : (hearN N j i).q.length = N.q.length + 1 := by
  unfold hearE at h
  unfold hearN
  rw [if_neg (by omega)] at h ⊢
  rw [if_pos hp] at h
  split at h
  · cases h
  · rename_i h1
    split at h
    · cases h
    · rename_i h2
      rw [if_pos ⟨hp, h1, h2⟩]
      show (pushQ N.q i.m).length = _
      unfold pushQ
      rw [if_pos h, (insK_perm _ _).length_eq, List.length_cons]

theorem cmbRefuses_s {v : Value} {l : List OpX} {o : OpX} (hS : Sat e w (S :: Q)) (hr1 : ∀ g, S g → rdS 10 OpX.cs v l g) (hw : ∀ x ∈ l, ∀ m ∈ x.ns, (Lit.int .i64 m).wf = true) (ho : ∀ m ∈ o.ns, (Lit.int .i64 m).wf = true) (hk : ∀ w', Sat e w' (S :: Q) → K (.bool true) w') :
    Cl prog 3 #[v, .agg o.cs.toArray] w K := by
  have ho64 : In64 o.I.m.key.T := In64.of_wf (ho _ (by simp [OpX.ns]))
  refine pacelinelaw12_CmbRefuses_calls ?_
  unfold pacelinelaw12_CmbRefuses
  refine al_s (cs := o.cs) hS rfl fun bo w1 h1 => ?_
  refine lnS_rd h1 1 rfl hr1 ?_
  refine gt_c (fun c1 => ?_) (fun c1 => ?_)
  · repeat (first | refine gd_tt ?_ | refine gd_ff ?_ | refine gd_tf ?_ | refine gd_ft ?_ | refine gd_u ?_ | refine pk_t ?_ | refine pk_f ?_ | refine iff_t ?_ | refine iff_f ?_ | refine not_t ?_ | refine not_f ?_ | refine beq_s ?_ | refine bne_s ?_ | refine ncP_p ?_ | refine nc_p ?_ | refine fld_at ?_ | refine xt_02 ?_ | refine xt_12 ?_ | refine xt_03 ?_ | refine xt_13 ?_ | refine xt_23 ?_ | refine eq_t (by omega) ?_ | refine eq_f (by omega) ?_ | refine ne_t (by omega) ?_ | refine ne_f (by omega) ?_ | refine lt_t (by omega) ?_ | refine lt_f (by omega) ?_ | refine gt_t (by omega) ?_ | refine gt_f (by omega) ?_ | refine ge_t (by omega) ?_ | refine ge_f (by omega) ?_ | refine le_t (by omega) ?_ | refine le_f (by omega) ?_)
    exact shown12_s h1 fun w2 h2 => hk _ h2.drop
  refine gd_ff (shown12_s h1 fun w2 h2 => gd_ff (not_t (pk_f (iff_f ?_))))
  refine start_s h2 fun r w3 h3 => ?_
  refine xt_02 (xt_12 ?_)
  refine echo_s h3 fun x SX w4 hx hwf hs hr h4 => ?_
  have hok : (checkW x.w).2 = 0 := by rw [hx]; exact echo_ok
  have hm0 : nodeMay x.w 0 = some echoF := by rw [hx]; rfl
  refine ref12_New_s (x := x) (f := 0) 0 rfl h4 hr hs (fun hbad => absurd hok hbad) (fun _ hno => by rw [hm0] at hno; cases hno) (fun _ n fd hfn hfd _ r2 w5 h5 => ?_)
  have hn0 : n = 0 := by omega
  subst hn0
  have hfd' : fd = echoF := by rw [hx] at hfd; exact (Option.some.inj hfd).symm
  subst hfd'
  have hN0 : nodeI x.w.Feds.length 0 echoF = N0 := by rw [hx]; rfl
  rw [hN0] at h5
  rw [← hx] at h5
  refine xt_02 (xt_12 (ne_f rfl (gd_ff (gd_ff (ne_f rfl (pk_f (gd_ff (gd_ff (bnp_s _ (pk_f (iff_f ?_)))))))))))
  replace h5 : Sat e w5 (IsNode r x.w 0 N0 0 :: IsNR r2 x 0 N0 0 :: SX :: blk bo 30 o.cs :: S :: Q) := h5.selR [_, _, _] [_, _, _] [2, 0, 1] (by decide) rfl
  refine lpi1 (fun q t9 w => ∃ (j : Nat) (N : ND) (k : Nat), j ≤ l.length ∧ t9 = .int .i64 j ∧ q = l.length - j ∧ k ≤ j ∧ Sat e w (IsNode r x.w 0 N k :: IsNR r2 x 0 N k :: SX :: blk bo 30 o.cs :: S :: Q)) l.length ⟨0, N0, 0, Nat.zero_le _, rfl, rfl, Nat.le_refl _, h5⟩ ?_
  rintro q _ w g1 ⟨j, N, k, hj, rfl, rfl, hkj, h6⟩ hg1
  refine lnS_rd h6 4 rfl hr1 ?_
  refine lt_c (fun c2 => iff_t ?_) (fun c2 => iff_f ?_)
  · obtain ⟨p, hp⟩ := get_of_lt (l := l) (j := j) (by omega)
    have hpm := List.mem_of_getElem? hp
    have ht64 := OpX.t64 hw hpm
    refine J0.cut (fun w => ∃ (N : ND) (k : Nat), k ≤ j + 1 ∧ Sat e w (IsNode r x.w 0 N k :: IsNR r2 x 0 N k :: SX :: blk bo 30 o.cs :: S :: Q)) (fun k2 hcut => ?_) ?_
    · refine ixS_rd h6 4 rfl hr1 (fun _ => rfl) hp fun a ha => fld_of ha fun a1 ha1 => ld1_of h6 4 rfl ha1 (v := .int .i64 p.Kind) rfl ?_
      refine eq_c (fun c3 => iff_t ?_) (fun c3 => iff_f (eq_c (fun c4 => iff_t ?_) (fun c4 => iff_f ?_)))
      · refine dr_s h6 fun w7 h7 => ?_
        refine ixS_rd h7 4 rfl hr1 (fun _ => rfl) hp fun a ha => fld_of ha fun a1 ha1 => ld1_of h7 4 rfl ha1 (v := .int .i64 p.From) rfl ?_
        refine ixS_rd h7 4 rfl hr1 (fun _ => rfl) hp fun a ha => fld_of ha fun a1 ha1 => ldN_sub (us := p.I.cs) h7 4 rfl ha1 (by rfl) rfl ?_
        refine node_Hear_s (i := p.I) ht64 h7 fun w8 h8 => ?_
        refine dr_s h8 fun w9 h9 => ?_
        refine ixS_rd h9 4 rfl hr1 (fun _ => rfl) hp fun a ha => fld_of ha fun a1 ha1 => ld1_of h9 4 rfl ha1 (v := .int .i64 p.From) rfl ?_
        refine ixS_rd h9 4 rfl hr1 (fun _ => rfl) hp fun a ha => fld_of ha fun a1 ha1 => ldN_sub (us := p.I.cs) h9 4 rfl ha1 (by rfl) rfl ?_
        refine nr_Hear_s (i := p.I) h9.swap fun w10 h10 => ?_
        exact hcut _ ⟨hearN N p.From p.I, k, by omega, h10.swap⟩
      · refine step_both (i := 0) (by omega) hfd rfl hr hs h6 fun d c ms S1 v1 N' k' w9 hms hk' hrd h9 href => ?_
        refine href _ [_, _] _ (h9.selR [_, _, _] [_, _, _] [2, 0, 1] (by decide) rfl) fun S2 u w12 hrd2 h12 => ?_
        replace h12 : Sat e w12 (S2 :: IsNR r2 x 0 N' k' :: S1 :: IsNode r x.w 0 N' k' :: SX :: blk bo 30 o.cs :: S :: Q) := h12
        exact hcut _ ⟨N', k', by omega, h12.selR [_, _, _, _] [_, _] [3, 1] (by decide) rfl⟩
      · exact hcut _ ⟨N, k, by omega, h6⟩
    · rintro w' ⟨N', k', hk', h'⟩
      refine inc_s (by omega) ?_
      exact hg1 _ _ _ (by omega) ⟨j + 1, N', k', by omega, rfl, rfl, hk', h'⟩
  · have hok' := node_ok 0 h6 rfl
    have hq64 := hok'.2.len
    have hlog := hok'.1.log
    obtain ⟨q, hq1, hq2⟩ := node_wait h6
    refine ncP_p (fld_at (hq1 _ (hq2 _ fun v1 w7 h7 => ?_)))
    obtain ⟨g, hg1', hg2⟩ := node_bnd h7.swap
    refine ncP_p (fld_at (hg1' _ (hg2 _ fun w8 h8 => ?_)))
    refine node_State_s h8 ?_
    refine node_Log_s (by omega) h8 fun lv w9 h9 => ?_
    refine lnS_rd h9 0 rfl (fun g hg => own_rd hg) ?_
    replace h9 : Sat e w9 (IsNode r x.w 0 N k :: IsNR r2 x 0 N k :: ownS 26 6 Msg.cs v1 N.q :: blk bo 30 o.cs :: S :: Q) := h9.selR [_, _, _, _, _, _] [_, _, _, _] [1, 3, 2, 5] (by decide) rfl
    refine fld_at (ld1_at h9 3 rfl (v := .int .i64 o.From) rfl ?_)
    refine fld_at (ldN_at h9 3 (vs := o.I.cs) rfl (by rfl) rfl ?_)
    refine node_Hear_s (i := o.I) ho64 h9 fun w10 h10 => ?_
    refine fld_at (ld1_at h10 3 rfl (v := .int .i64 o.From) rfl ?_)
    refine fld_at (ldN_at h10 3 (vs := o.I.cs) rfl (by rfl) rfl ?_)
    refine nr_Hear_s (i := o.I) h10.swap fun w11 h11 => ?_
    refine ne_f rfl (iff_f ?_)
    refine eq_c (fun c3 => iff_t ?_) (fun c3 => iff_f ?_)
    · refine fld_at (fld_at (ld1_at h11 3 rfl (v := .int .i64 o.I.Kind) rfl ?_))
      refine ne_c (fun c4 => ?_) (fun c4 => ?_)
      · repeat (first | refine gd_tt ?_ | refine gd_ff ?_ | refine gd_tf ?_ | refine gd_ft ?_ | refine gd_u ?_ | refine pk_t ?_ | refine pk_f ?_ | refine iff_t ?_ | refine iff_f ?_ | refine not_t ?_ | refine not_f ?_ | refine beq_s ?_ | refine bne_s ?_ | refine ncP_p ?_ | refine nc_p ?_ | refine fld_at ?_ | refine xt_02 ?_ | refine xt_12 ?_ | refine xt_03 ?_ | refine xt_13 ?_ | refine xt_23 ?_ | refine eq_t (by omega) ?_ | refine eq_f (by omega) ?_ | refine ne_t (by omega) ?_ | refine ne_f (by omega) ?_ | refine lt_t (by omega) ?_ | refine lt_f (by omega) ?_ | refine gt_t (by omega) ?_ | refine gt_f (by omega) ?_ | refine ge_t (by omega) ?_ | refine ge_f (by omega) ?_ | refine le_t (by omega) ?_ | refine le_f (by omega) ?_)
        exact hk _ (h11.selR [_, _, _, _, _] [_] [4] (by decide) rfl)
      · have hacc := accepted c3 c4
        obtain ⟨q, hq1, hq2⟩ := node_wait h11.swap
        refine gd_ff (gd_ff (nc_p (gd_ff (fld_at (gd_ff (hq1 _ (gd_ff (hq2 _ fun v2 w12 h12 => ?_))))))))
        refine gd_ff (lnS_rd h12 0 rfl (fun g hg => own_rd hg) (gd_ff (gd_ff (lnS_rd h12 3 rfl (fun g hg => own_rd hg) (gd_ff (inc_s (by omega) (gd_ff (eq_t (by omega) (pk_f ?_)))))))))
        exact hk _ (h12.selR [_, _, _, _, _, _] [_] [5] (by decide) rfl)
    · have hsame : hearN N o.From o.I = N := refused c3
      rw [hsame] at h11
      obtain ⟨q, hq1, hq2⟩ := node_wait h11.swap
      refine ncP_p (fld_at (hq1 _ (hq2 _ fun v2 w12 h12 => ?_)))
      refine same12_s 0 3 rfl rfl h12 (fun g hg => own_rd hg) (fun g hg => own_rd hg) (by omega) fun w13 h13 => ?_
      obtain ⟨g, hg1', hg2⟩ := node_bnd h13.swap
      refine gd_tt (gd_tt (nc_p (gd_tt (fld_at (gd_tt (hg1' _ (gd_tt (hg2 _ fun w14 h14 => ?_))))))))
      refine gd_tt (gd_tt (eq_t rfl (pk_t (gd_tt (gd_tt (node_State_s h14 (gd_tt (gd_tt (eq_t rfl (pk_t (gd_tt (gd_tt ?_))))))))))))
      refine node_Log_s (by omega) h14 fun lv2 w15 h15 => ?_
      refine gd_tt (lnS_rd h15 0 rfl (fun g hg => own_rd hg) (gd_tt (gd_tt (eq_t rfl (pk_t ?_)))))
      exact hk _ (h15.selR [_, _, _, _, _, _, _] [_] [6] (by decide) rfl)
end Go.Proofs.YtenglfaeohgkfaaGreat
