/- The law CmbPromise. Conditions: none. -/
import Derived.Test.YtenglfaeohgkfaaCmbD
namespace Go.Proofs.Ytenglfaeohgkfaa
open Go Go.E
set_option maxRecDepth 100000
variable {e w : World} {L Q : List HP} {K : KV} {S S2 : HP}

theorem lnS_nil {w : World} {K : KV} (h : K (.int .i64 0) w) : lnS (.slice none 0 0) w K := ⟨none, 0, 0, rfl, h⟩
theorem clk_bound_eq {c d : Clk} (h1 : c.L = d.L) (h2 : c.self = d.self) : c.bound = d.bound := by
  obtain ⟨L, s, t⟩ := c
  obtain ⟨L', s', t'⟩ := d
  simp only at h1 h2
  subst h1
  subst h2
  rfl
theorem addT_mono {a b d : Int} (h : a ≤ b) : addT a d ≤ addT b d := by
  unfold addT clampT Inf MaxT
  (repeat' split) <;> omega
theorem clampT_mono {a b : Int} (h : a ≤ b) : clampT a ≤ clampT b := by
  unfold clampT Inf MaxT
  (repeat' split) <;> omega
theorem clampT_idem (a : Int) : clampT (clampT a) = clampT a := by
  unfold clampT Inf MaxT
  (repeat' split) <;> omega
theorem clampT_inf (a : Int) : clampT a ≤ Inf := by
  unfold clampT Inf MaxT
  (repeat' split) <;> omega
theorem addT_least (a b d : Int) : addT (leastT [a, b]) d = addT (min a b) d := by
  have e1 : leastT [a, b] = min (min Inf (clampT a)) (clampT b) := rfl
  have h1 := clampT_inf a
  have e2 : leastT [a, b] = clampT (min a b) := by
    rw [e1]
    by_cases h : a ≤ b
    · have h2 := clampT_mono h
      rw [show min a b = a from Int.min_eq_left h]
      omega
    · have h2 := clampT_mono (show b ≤ a by omega)
      rw [show min a b = b from Int.min_eq_right (by omega)]
      omega
  unfold addT
  rw [e2, clampT_idem]
structure PrI (N : ND) : Prop where
  b : ∃ B, N.clk.told ≤ addT B 2 ∧ B ≤ N.clk.bound ∧ ∀ m ∈ N.q, B ≤ m.key.T
theorem prI_0 : PrI N0 := ⟨0, by decide, by decide, fun m hm => by cases hm⟩
theorem prI_hear {N : ND} (h : PrI N) (j : Int) (i : NItem) : PrI (hearN N j i) := by
  obtain ⟨⟨h1, h2, h3, h4, h5⟩, h6⟩ := hearN_cases N j i
  obtain ⟨B, b1, b2, b3⟩ := h.b
  refine ⟨B, by rw [h5]; exact b1, by omega, fun m hm => ?_⟩
  rcases h6 m hm with h | ⟨rfl, h⟩
  · exact b3 m h
  · omega
theorem prI_step {fd : Fed} {N : ND} (h : PrI N) : PrI (stepN fd N) := by
  obtain ⟨B, b1, b2, b3⟩ := h.b
  exact ⟨B, b1, b2, fun m hm => b3 m (List.mem_of_mem_tail hm)⟩
theorem echo_outs {N : ND} {y : Msg} (h : y ∈ outsN echoW 0 echoF N) : y.key.T = addT (hdM N.q).key.T 2 := by
  obtain ⟨i, o, to, h1, _, rfl⟩ := spread_mem h
  have hom := List.mem_of_getElem? h1
  have ho : o = ⟨0, 2, 1⟩ := by
    have hr : ruleN echoF N = stepR [echoR] N.st (hdM N.q).Class := rfl
    rw [hr] at hom
    rcases stepR_cases [echoR] N.st (hdM N.q).Class with ⟨r, hr, _, _, he⟩ | ⟨_, he⟩
    · rw [he, List.mem_singleton.1 hr] at hom
      exact List.mem_singleton.1 hom
    · rw [he] at hom
      cases hom
  rw [ho]
  rfl
theorem prI_out {wd : Wd} {N : ND} (h : PrI N) (hs : safeN wd N = true) {y : Msg} (hy : y ∈ outsN echoW 0 echoF N) : N.clk.told ≤ y.key.T := by
  obtain ⟨m, r, h1, h2, _, _⟩ := safe_facts hs
  obtain ⟨B, b1, b2, b3⟩ := h.b
  rw [echo_outs hy, h2]
  have := addT_mono (d := 2) (b3 m (by rw [h1]; simp))
  omega
theorem prI_tell {N : ND} (h : PrI N) (hq : QOk N.q) : PrI (tellN echoF N) ∧ N.clk.told ≤ (tellN echoF N).clk.told := by
  have hl := Clk.tell_len N.clk (firstT N) echoF.Look
  have hbd : (tellN echoF N).clk.bound = N.clk.bound := clk_bound_eq hl.1 hl.2
  have hqq : (tellN echoF N).q = N.q := rfl
  have hft : ∀ m ∈ N.q, firstT N ≤ m.key.T := by
    intro m hm
    unfold firstT
    cases hN : N.q with
    | nil => rw [hN] at hm; cases hm
    | cons a r =>
      have hu := hq.up
      rw [hN] at hm hu
      show a.key.T ≤ m.key.T
      rcases List.mem_cons.1 hm with rfl | hm
      · exact Int.le_refl _
      · have := (List.pairwise_cons.1 hu).1 m hm
        unfold KeyLt at this
        omega
  have hk : (tellN echoF N).clk = N.clk.tell (firstT N) 2 := rfl
  have e1 : N.clk.tellT (firstT N) 2 = addT (min (firstT N) N.clk.bound) 2 := addT_least _ _ _
  unfold Clk.tell at hk
  rw [e1] at hk
  split at hk
  · refine ⟨?_, by rw [hk]; exact Int.le_refl _⟩
    obtain ⟨B, b1, b2, b3⟩ := h.b
    exact ⟨B, by rw [hk]; exact b1, by rw [hbd]; exact b2, b3⟩
  · rename_i hlt
    have ht : (tellN echoF N).clk.told = addT (min (firstT N) N.clk.bound) 2 := by rw [hk]
    refine ⟨⟨min (firstT N) N.clk.bound, by rw [ht]; exact Int.le_refl _, by rw [hbd]; omega, fun m hm => ?_⟩, by rw [ht]; omega⟩
    have := hft m hm
    omega

theorem cmbPromise_s {v : Value} {l : List OpX} (hS : Sat e w (S :: Q)) (hr : ∀ g, S g → rdS 10 OpX.cs v l g) (hw : ∀ x ∈ l, ∀ m ∈ x.ns, (Lit.int .i64 m).wf = true) (hk : ∀ w', Sat e w' (S :: Q) → K (.bool true) w') :
    Cl prog 4 #[v] w K := by
  refine pacelinelaw12_CmbPromise_calls ?_
  unfold pacelinelaw12_CmbPromise
  refine lnS_rd hS 0 rfl hr ?_
  refine gt_c (fun c1 => ?_) (fun c1 => ?_)
  · repeat (first | refine gd_tt ?_ | refine gd_ff ?_ | refine gd_tf ?_ | refine gd_ft ?_ | refine gd_u ?_ | refine pk_t ?_ | refine pk_f ?_ | refine iff_t ?_ | refine iff_f ?_ | refine not_t ?_ | refine not_f ?_ | refine beq_s ?_ | refine bne_s ?_ | refine ncP_p ?_ | refine nc_p ?_ | refine fld_at ?_ | refine xt_02 ?_ | refine xt_12 ?_ | refine xt_03 ?_ | refine xt_13 ?_ | refine xt_23 ?_ | refine eq_t (by omega) ?_ | refine eq_f (by omega) ?_ | refine ne_t (by omega) ?_ | refine ne_f (by omega) ?_ | refine lt_t (by omega) ?_ | refine lt_f (by omega) ?_ | refine gt_t (by omega) ?_ | refine gt_f (by omega) ?_ | refine ge_t (by omega) ?_ | refine ge_f (by omega) ?_ | refine le_t (by omega) ?_ | refine le_f (by omega) ?_)
    exact shown12_s hS fun w2 h2 => hk _ h2
  refine gd_ff (shown12_s hS fun w2 h2 => gd_ff (not_t (pk_f (iff_f ?_))))
  refine start_s h2 fun r w3 h3 => ?_
  refine xt_02 (xt_12 (ne_f rfl (gd_ff (gd_ff (bnp_s _ (pk_f (iff_f ?_)))))))
  refine lpi2 (fun q t5 t6 w => ∃ (j : Nat) (N : ND) (k : Nat), j ≤ l.length ∧ t6 = .int .i64 j ∧ t5 = .int .i64 N.clk.told ∧ q = l.length - j ∧ k ≤ j ∧ PrI N ∧ Sat e w (IsNode r echoW 0 N k :: S :: Q)) l.length ⟨0, N0, 0, Nat.zero_le _, rfl, rfl, rfl, Nat.le_refl _, prI_0, h3⟩ ?_
  rintro q _ _ w g1 ⟨j, N, k, hj, rfl, rfl, rfl, hkj, hI, h4⟩ hg1
  refine lnS_rd h4 1 rfl hr ?_
  refine lt_c (fun c2 => iff_t ?_) (fun c2 => iff_f (hk _ h4.drop))
  obtain ⟨o, ho⟩ := get_of_lt (l := l) (j := j) (by omega)
  have hom := List.mem_of_getElem? ho
  have ht64 := OpX.t64 hw hom
  refine J1.cut (fun t5 w => ∃ (N : ND) (k : Nat), t5 = .int .i64 N.clk.told ∧ k ≤ j + 1 ∧ PrI N ∧ Sat e w (IsNode r echoW 0 N k :: S :: Q)) (fun k2 hcut => ?_) ?_
  · refine ixS_rd h4 1 rfl hr (fun _ => rfl) ho fun p hp => ldN_of h4 1 rfl hp rfl ?_
    rw [zero_40]
    refine al_s (cs := ints [0, 0, 0, 0, 0, 0, 0, 0, 0, 0]) h4 rfl fun t6 w5 h5 => ?_
    refine stN_at h5 0 rfl (vs := o.cs) rfl rfl (by decide) (ints_flat _) (cs' := o.cs) (by rfl) fun w6 h6 => ?_
    refine fld_at (ld1_at h6 0 rfl (v := .int .i64 o.Kind) rfl ?_)
    refine eq_c (fun c3 => iff_t ?_) (fun c3 => iff_f (eq_c (fun c4 => iff_t ?_) (fun c4 => iff_f (eq_c (fun c5 => iff_t ?_) (fun c5 => iff_f ?_)))))
    · refine fld_at (ld1_at h6 0 rfl (v := .int .i64 o.From) rfl ?_)
      refine fld_at (ldN_at h6 0 (vs := o.I.cs) rfl (by rfl) rfl ?_)
      refine node_Hear_s (i := o.I) ht64 h6.swap fun w8 h8 => ?_
      have htold := (hearN_cases N o.From o.I).1.2.2.2.2
      exact hcut _ _ ⟨hearN N o.From o.I, k, by rw [htold], by omega, prI_hear hI _ _, h8.selR [_, _] [_] [0] (by decide) rfl⟩
    · rw [zero_51]
      refine node_Step_s (fd := echoF) (by omega) rfl h6.swap (fun hs w8 h8 => ?_) (fun hs v w8 h8 => ?_)
      · refine xt_03 (xt_13 (xt_23 ?_))
        refine al_s (cs := Done.zero.cs) h8 rfl fun t9 w9 h9 => ?_
        refine stN_at h9 0 rfl (vs := Done.zero.cs) rfl rfl (by decide) (ints_flat _) (cs' := Done.zero.cs) (by rfl) fun w10 h10 => ?_
        refine lpi1 (fun q t11 w => t11 = .int .i64 ((0 : Nat) : Int) ∧ q = 0 ∧ w = w10) 0 ⟨rfl, rfl, rfl⟩ ?_
        rintro q _ w g3 ⟨rfl, rfl, rfl⟩ hg3
        refine lnS_nil (lt_f (by omega) (iff_f ?_))
        exact hcut _ _ ⟨N, k, rfl, by omega, hI, h10.selR [_, _, _] [_] [1] (by decide) rfl⟩
      · refine xt_03 (xt_13 (xt_23 ?_))
        refine al_s (cs := Done.zero.cs) h8 rfl fun t9 w9 h9 => ?_
        refine stN_at h9 0 rfl (vs := (doneN echoF N).cs) rfl rfl (Nat.le_of_ble_eq_true rfl) (ints_flat _) (cs' := (doneN echoF N).cs) (by rfl) fun w10 h10 => ?_
        have hout := fun y hy => prI_out (y := y) hI hs hy
        have hol : (outsN echoW 0 echoF N).length ≤ 1000 := by
          have h1 := spreadL_len echoW.Parents echoW.Feds (0 : Nat) N.sent (hdM N.q).key.T (hdM N.q).Body (ruleN echoF N).2
          have h2 := (step_outs (checkW_ok echo_ok) (f := echoF) (by simp [echoW]) N.st (hdM N.q).Class).1
          have h3 : (ruleN echoF N).2.length * echoW.Feds.length ≤ 3 * 3 := Nat.mul_le_mul h2 (by simp [echoW])
          unfold outsN
          omega
        generalize outsN echoW 0 echoF N = ms at h10 hout hol
        refine lpi1 (fun q t11 w => ∃ i : Nat, i ≤ ms.length ∧ t11 = .int .i64 i ∧ q = ms.length - i ∧ Sat e w (blk t9 51 (doneN echoF N).cs :: ownS 36 6 Msg.cs v ms :: IsNode r echoW 0 (stepN echoF N) (k + 1) :: blk t6 40 o.cs :: S :: Q)) ms.length ⟨0, Nat.zero_le _, rfl, rfl, h10⟩ ?_
        rintro q _ w g3 ⟨i, hi, rfl, rfl, h11⟩ hg3
        refine lnS_rd h11 1 rfl (fun g hg => own_rd hg) ?_
        refine lt_c (fun c6 => iff_t ?_) (fun c6 => iff_f ?_)
        · obtain ⟨y, hy⟩ := get_of_lt (l := ms) (j := i) (by omega)
          have hyT := hout y (List.mem_of_getElem? hy)
          refine ixS_rd h11 1 rfl (fun g hg => own_rd hg) (fun _ => rfl) hy fun p hp => ?_
          refine fld_of hp fun p1 hp1 => fld_of hp1 fun p2 hp2 => ld1_of h11 1 rfl hp2 (v := .int .i64 y.key.T) rfl ?_
          refine lt_f (by omega) (iff_f (inc_s (by omega) ?_))
          exact hg3 _ _ _ (by omega) ⟨i + 1, by omega, rfl, rfl, h11⟩
        · exact hcut _ _ ⟨stepN echoF N, k + 1, rfl, by omega, prI_step hI, h11.selR [_, _, _, _] [_] [2] (by decide) rfl⟩
    · have hqk := (node_ok 1 h6 rfl).2
      obtain ⟨hI', hle⟩ := prI_tell hI hqk
      refine node_Tell_s (fd := echoF) rfl h6.swap fun w8 h8 => ?_
      refine xt_02 (xt_12 ?_)
      refine lt_f (by omega) (iff_f ?_)
      exact hcut _ _ ⟨tellN echoF N, k, rfl, by omega, hI', h8.selR [_, _] [_] [0] (by decide) rfl⟩
    · exact hcut _ _ ⟨N, k, rfl, by omega, hI, h6.selR [_, _] [_] [1] (by decide) rfl⟩
  · rintro _ w' ⟨N', k', rfl, hk', hI', h'⟩
    refine inc_s (by omega) ?_
    exact hg1 _ _ _ _ (by omega) ⟨j + 1, N', k', by omega, rfl, rfl, rfl, hk', hI', h'⟩
end Go.Proofs.Ytenglfaeohgkfaa
