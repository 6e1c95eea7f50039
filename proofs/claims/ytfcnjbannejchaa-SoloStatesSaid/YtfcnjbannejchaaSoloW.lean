/- The document's run: ahead, Put; what memory holds; New. Conditions: the federation's lists are short. -/
import Derived.Test.YtfcnjbannejchaaSoloV
import Derived.Test.YtfcnjbannejchaaSoloU
namespace Go.Proofs.Ytfcnjbannejchaa
open Go Go.E
set_option maxRecDepth 100000
variable {e w : World} {L Q : List HP} {K : KV} {S S2 : HP}

theorem ahead_s {a b : Msg} (hS : Sat e w L) (hk : ∀ w', Sat e w' L → K (.bool (decide (cmpM a b < 0))) w') : Cl prog 58 #[.agg a.cs.toArray, .agg b.cs.toArray] w K := by
  refine pacelineref09_ahead_calls ?_
  unfold pacelineref09_ahead
  refine al_s (cs := a.cs) hS rfl fun t2 w1 h1 => ?_
  refine al_s (cs := b.cs) h1 rfl fun t3 w2 h2 => ?_
  refine fld_at (ldN_at h2 1 (vs := a.key.cs) rfl (by rfl) rfl ?_)
  refine fld_at (ldN_at h2 0 (vs := b.key.cs) rfl (by rfl) rfl ?_)
  refine ref01_Cmp_s h2 fun w3 h3 => ?_
  have key : ∀ q : Bool, (q = true ↔ cmpM a b < 0) → K (.bool q) w3 := fun q hq => by
    have := hk w3 h3.drop.drop
    rwa [show decide (cmpM a b < 0) = q from by rw [Bool.eq_iff_iff, decide_eq_true_iff]; exact hq.symm] at this
  unfold cmpM at key
  refine lt_c (fun c1 => ?_) (fun c1 => ?_)
  · repeat (first | refine gd_tt ?_ | refine gd_ff ?_ | refine gd_tf ?_ | refine gd_ft ?_ | refine gd_u ?_ | refine pk_t ?_ | refine pk_f ?_ | refine iff_t ?_ | refine iff_f ?_ | refine not_t ?_ | refine not_f ?_ | refine beq_s ?_ | refine bne_s ?_ | refine ncP_p ?_ | refine nc_p ?_ | refine fld_at ?_ | refine xt_02 ?_ | refine xt_12 ?_ | refine xt_03 ?_ | refine xt_13 ?_ | refine xt_23 ?_ | refine eq_t (by omega) ?_ | refine eq_f (by omega) ?_ | refine ne_t (by omega) ?_ | refine ne_f (by omega) ?_ | refine lt_t (by omega) ?_ | refine lt_f (by omega) ?_ | refine gt_t (by omega) ?_ | refine gt_f (by omega) ?_ | refine ge_t (by omega) ?_ | refine ge_f (by omega) ?_ | refine le_t (by omega) ?_ | refine le_f (by omega) ?_)
    refine key true (by rw [if_pos (by omega)]; simpa using c1)
  refine gd_ff (gd_ff (eq_c (fun c2 => ?_) (fun c2 => ?_)))
  · refine gd_ff (gd_tt (fld_at (gd_tt (ld1_at h3 1 rfl (v := .int .i64 a.To) rfl (gd_tt (fld_at (gd_tt (ld1_at h3 0 rfl (v := .int .i64 b.To) rfl ?_))))))))
    refine gd_tt (lt_c (fun c3 => ?_) (fun c3 => ?_))
    · repeat (first | refine gd_tt ?_ | refine gd_ff ?_ | refine gd_tf ?_ | refine gd_ft ?_ | refine gd_u ?_ | refine pk_t ?_ | refine pk_f ?_ | refine iff_t ?_ | refine iff_f ?_ | refine not_t ?_ | refine not_f ?_ | refine beq_s ?_ | refine bne_s ?_ | refine ncP_p ?_ | refine nc_p ?_ | refine fld_at ?_ | refine xt_02 ?_ | refine xt_12 ?_ | refine xt_03 ?_ | refine xt_13 ?_ | refine xt_23 ?_ | refine eq_t (by omega) ?_ | refine eq_f (by omega) ?_ | refine ne_t (by omega) ?_ | refine ne_f (by omega) ?_ | refine lt_t (by omega) ?_ | refine lt_f (by omega) ?_ | refine gt_t (by omega) ?_ | refine gt_f (by omega) ?_ | refine ge_t (by omega) ?_ | refine ge_f (by omega) ?_ | refine le_t (by omega) ?_ | refine le_f (by omega) ?_)
      refine key true ?_
      rw [if_neg (by omega)]
      unfold cmpI
      rw [if_pos c3]
      simp
    · repeat (first | refine gd_tt ?_ | refine gd_ff ?_ | refine gd_tf ?_ | refine gd_ft ?_ | refine gd_u ?_ | refine pk_t ?_ | refine pk_f ?_ | refine iff_t ?_ | refine iff_f ?_ | refine not_t ?_ | refine not_f ?_ | refine beq_s ?_ | refine bne_s ?_ | refine ncP_p ?_ | refine nc_p ?_ | refine fld_at ?_ | refine xt_02 ?_ | refine xt_12 ?_ | refine xt_03 ?_ | refine xt_13 ?_ | refine xt_23 ?_ | refine eq_t (by omega) ?_ | refine eq_f (by omega) ?_ | refine ne_t (by omega) ?_ | refine ne_f (by omega) ?_ | refine lt_t (by omega) ?_ | refine lt_f (by omega) ?_ | refine gt_t (by omega) ?_ | refine gt_f (by omega) ?_ | refine ge_t (by omega) ?_ | refine ge_f (by omega) ?_ | refine le_t (by omega) ?_ | refine le_f (by omega) ?_)
      refine key false ?_
      rw [if_neg (by omega)]
      unfold cmpI
      rw [if_neg c3]
      split <;> simp
  · repeat (first | refine gd_tt ?_ | refine gd_ff ?_ | refine gd_tf ?_ | refine gd_ft ?_ | refine gd_u ?_ | refine pk_t ?_ | refine pk_f ?_ | refine iff_t ?_ | refine iff_f ?_ | refine not_t ?_ | refine not_f ?_ | refine beq_s ?_ | refine bne_s ?_ | refine ncP_p ?_ | refine nc_p ?_ | refine fld_at ?_ | refine xt_02 ?_ | refine xt_12 ?_ | refine xt_03 ?_ | refine xt_13 ?_ | refine xt_23 ?_ | refine eq_t (by omega) ?_ | refine eq_f (by omega) ?_ | refine ne_t (by omega) ?_ | refine ne_f (by omega) ?_ | refine lt_t (by omega) ?_ | refine lt_f (by omega) ?_ | refine gt_t (by omega) ?_ | refine gt_f (by omega) ?_ | refine ge_t (by omega) ?_ | refine ge_f (by omega) ?_ | refine le_t (by omega) ?_ | refine le_f (by omega) ?_)
    refine key false ?_
    rw [if_pos (by omega)]
    simp
    omega

/-! ### Put -/
theorem insM_len (m : Msg) : ∀ l : List Msg, (insM m l).length = l.length + 1
  | [] => rfl
  | a :: l => by
    unfold insM
    split
    · rfl
    · rw [List.length_cons, insM_len m l, List.length_cons]
theorem putL_len : ∀ (ms l : List Msg), (putL l ms).length = l.length + ms.length
  | [], _ => rfl
  | m :: ms, l => by
    show (putL (insM m l) ms).length = _
    rw [putL_len ms, insM_len, List.length_cons]
    omega
theorem putL_snoc (l ms : List Msg) (m : Msg) : putL l (ms ++ [m]) = insM m (putL l ms) := by
  unfold putL
  rw [List.foldl_append]
  rfl
theorem ref09_Put_s {v mv : Value} {l ms : List Msg} (i : Nat) (hi : L[i]? = some S) (hS : Sat e w (ownS 37 6 Msg.cs v l :: L)) (hr : ∀ g, S g → rdS 6 Msg.cs mv ms g) (hl : l.length + ms.length ≤ 900000)
    (hk : ∀ v' w', Sat e w' (ownS 37 6 Msg.cs v' (putL l ms) :: L) → K v' w') : Cl prog 34 #[v, mv] w K := by
  refine pacelineref09_Put_calls ?_
  unfold pacelineref09_Put
  refine lpi2 (fun q t0 t5 w => ∃ j : Nat, j ≤ ms.length ∧ t5 = .int .i64 j ∧ q = ms.length - j ∧ Sat e w (ownS 37 6 Msg.cs t0 (putL l (ms.take j)) :: L)) ms.length ⟨0, Nat.zero_le _, rfl, rfl, hS⟩ ?_
  rintro q t0 _ w g ⟨j, hj, rfl, rfl, h1⟩ hg
  refine lnS_rd h1 (i + 1) (by simpa using hi) hr ?_
  refine lt_c (fun c0 => iff_t ?_) (fun c0 => iff_f ?_)
  · obtain ⟨m, hm⟩ := get_of_lt (l := ms) (j := j) (by omega)
    have hsn : putL l (ms.take (j + 1)) = insM m (putL l (ms.take j)) := by rw [take_snoc hm, putL_snoc]
    have hpl := putL_len (ms.take j) l
    rw [List.length_take] at hpl
    generalize putL l (ms.take j) = p at h1 hsn hpl
    refine bsl0 h1 Msg.cs fun v0 w2 h2 => ?_
    have hi2 : ∀ X Y : HP, (X :: Y :: L)[i + 2]? = some S := fun X Y => by simpa using hi
    refine lpi3 (fun q t6 t7 t8 w => ∃ (n : Nat) (d : Bool) (out : List Msg), n ≤ p.length ∧ t8 = .int .i64 n ∧ q = p.length - n ∧ t7 = .bool d ∧ out.length ≤ n + 1 ∧ out ++ (if d = true then p.drop n else insM m (p.drop n)) = insM m p ∧
        Sat e w (ownS 37 6 Msg.cs t6 out :: ownS 37 6 Msg.cs t0 p :: L)) p.length ⟨0, false, [], Nat.zero_le _, rfl, rfl, rfl, by simp, by simp, h2⟩ ?_
    rintro q t6 _ _ w g2 ⟨n, d, out, hn, rfl, rfl, rfl, ho, heq, h3⟩ hg2
    refine lnS_rd h3 1 rfl (fun g hg => own_rd hg) ?_
    refine lt_c (fun c1 => iff_t ?_) (fun c1 => iff_f ?_)
    · obtain ⟨y, hy⟩ := get_of_lt (l := p) (j := n) (by omega)
      have hdr : p.drop n = y :: p.drop (n + 1) := drop_cons hy
      refine dr_s h3 fun w4 h4 => ?_
      have hcont : ∀ t6 (d2 : Bool) out2 w', out2.length ≤ n + 1 → (out2 ++ [y]) ++ (if d2 = true then p.drop (n + 1) else insM m (p.drop (n + 1))) = insM m p →
          Sat e w' (ownS 37 6 Msg.cs t6 out2 :: ownS 37 6 Msg.cs t0 p :: L) →
          ixS 6 t0 (.int .i64 n) w' fun t45 w => ldN 6 t45 w fun t46 w => bsl 37 6 1 (zeroD prog 37) [(0, t46)] w fun t47 w => apS prog #[58, 58] 58 t6 t47 w fun t48 w => bi .add .i64 (.int .i64 n) (.int .i64 1) w fun t21 w => g2 [t48, .bool d2, t21] w := by
        intro t6 d2 out2 w' ho2 he2 h'
        refine ixS_rd h' 1 rfl (fun g hg => own_rd hg) (fun _ => rfl) hy fun a ha => ?_
        refine ldN_of h' 1 rfl ha rfl ?_
        refine push1 te_58 (f := Msg.cs) (fun _ => rfl) (fun _ => ints_flat _) h' (x := y) rfl (by omega) fun v2 w5 h5 => ?_
        refine inc_s (by omega) ?_
        exact hg2 _ _ _ _ _ (by omega) ⟨n + 1, d2, out2 ++ [y], by omega, rfl, rfl, rfl, by rw [List.length_append, List.length_singleton]; omega, he2, h5⟩
      rw [hdr] at heq
      cases d with
      | true =>
        refine not_t ?_
        refine gd_ft (gd_ft (gd_ft (gd_ft (gd_ft (gd_ft (gd_ft (gd_ft (gd_ft (pk_f ?_)))))))))
        refine J2.cut (fun t6 t7 w => t7 = .bool true ∧ Sat e w (ownS 37 6 Msg.cs t6 out :: ownS 37 6 Msg.cs t0 p :: L)) (fun k3 hcut => iff_f (hcut _ _ _ ⟨rfl, h4⟩)) ?_
        rintro t6 _ w5 ⟨rfl, h5⟩
        refine hcont _ true out _ (by
          have := congrArg List.length heq
          rw [insM_len, List.length_append] at this
          simp at this
          omega) ?_ h5
        rw [if_pos rfl, List.append_assoc]
        rw [if_pos rfl] at heq
        exact heq
      | false =>
        rw [if_neg (by simp)] at heq
        refine not_f (gd_tt (gd_tt (gd_tt ?_)))
        refine ixS_rd h4 (i + 2) (hi2 _ _) hr (fun _ => rfl) hm fun a ha => ?_
        refine gd_tt (ldN_of h4 (i + 2) (hi2 _ _) ha rfl (gd_tt (gd_tt (gd_tt ?_))))
        refine ixS_rd h4 1 rfl (fun g hg => own_rd hg) (fun _ => rfl) hy fun a ha => ?_
        refine gd_tt (ldN_of h4 1 rfl ha rfl (gd_tt ?_))
        refine ahead_s (a := m) (b := y) h4 fun w5 h5 => ?_
        refine pk_t ?_
        have hol : out.length ≤ n := by
          have := congrArg List.length heq
          rw [insM_len, List.length_append, insM_len, List.length_cons, List.length_drop] at this
          omega
        refine J2.cut (fun t6 t7 w => ∃ (d2 : Bool) (out2 : List Msg), t7 = .bool d2 ∧ out2.length ≤ n + 1 ∧ (out2 ++ [y]) ++ (if d2 = true then p.drop (n + 1) else insM m (p.drop (n + 1))) = insM m p ∧ Sat e w (ownS 37 6 Msg.cs t6 out2 :: ownS 37 6 Msg.cs t0 p :: L)) (fun k3 hcut => ?_) ?_
        · have hins : insM m (y :: p.drop (n + 1)) = if cmpM m y < 0 then m :: y :: p.drop (n + 1) else y :: insM m (p.drop (n + 1)) := rfl
          rw [hins] at heq
          by_cases hc : cmpM m y < 0
          · rw [if_pos hc] at heq
            rw [decide_eq_true hc]
            refine iff_t ?_
            refine ixS_rd h5 (i + 2) (hi2 _ _) hr (fun _ => rfl) hm fun a ha => ?_
            refine ldN_of h5 (i + 2) (hi2 _ _) ha rfl ?_
            refine push1 te_58 (f := Msg.cs) (fun _ => rfl) (fun _ => ints_flat _) h5 (x := m) rfl (by omega) fun v2 w6 h6 => ?_
            refine hcut _ _ _ ⟨true, out ++ [m], rfl, by rw [List.length_append, List.length_singleton]; omega, ?_, h6⟩
            rw [if_pos rfl, ← heq]
            simp
          · rw [if_neg hc] at heq
            rw [decide_eq_false hc]
            refine iff_f (hcut _ _ _ ⟨false, out, rfl, ho, ?_, h5⟩)
            rw [if_neg (by simp), ← heq]
            simp
        · rintro t6 _ w6 ⟨d2, out2, rfl, ho2, he2, h6⟩
          exact hcont _ d2 out2 _ ho2 he2 h6
    · have en : n = p.length := by omega
      rw [en, List.drop_length] at heq
      have htail : ∀ t6 w6, Sat e w6 (ownS 37 6 Msg.cs t6 (insM m p) :: ownS 37 6 Msg.cs t0 p :: L) → bi .add .i64 (.int .i64 j) (.int .i64 1) w6 fun t14 w => g [t6, t14] w := by
        intro t6 w6 h6
        refine inc_s (by omega) ?_
        refine hg _ _ _ _ (by omega) ⟨j + 1, by omega, rfl, rfl, ?_⟩
        rw [hsn]
        exact h6.selR [_, _] [_] [0] (by decide) rfl
      cases d with
      | true =>
        refine not_t (J1.cut (fun t6 w => Sat e w (ownS 37 6 Msg.cs t6 (insM m p) :: ownS 37 6 Msg.cs t0 p :: L)) (fun k4 hcut => iff_f (hcut _ _ ?_)) fun t6 w6 h6 => htail _ _ h6)
        rw [if_pos rfl, List.append_nil] at heq
        rw [← heq]
        exact h3
      | false =>
        refine not_f (J1.cut (fun t6 w => Sat e w (ownS 37 6 Msg.cs t6 (insM m p) :: ownS 37 6 Msg.cs t0 p :: L)) (fun k4 hcut => iff_t ?_) fun t6 w6 h6 => htail _ _ h6)
        refine ixS_rd h3 (i + 2) (hi2 _ _) hr (fun _ => rfl) hm fun a ha => ?_
        refine ldN_of h3 (i + 2) (hi2 _ _) ha rfl ?_
        refine push1 te_58 (f := Msg.cs) (fun _ => rfl) (fun _ => ints_flat _) h3 (x := m) rfl (by omega) fun v2 w6 h6 => ?_
        refine hcut _ _ ?_
        rw [if_neg (by simp)] at heq
        have h7 : out ++ [m] = insM m p := heq
        rw [← h7]
        exact h6
  · have ej : j = ms.length := by omega
    rw [ej, List.take_length] at h1
    exact hk _ _ h1
end Go.Proofs.Ytfcnjbannejchaa
