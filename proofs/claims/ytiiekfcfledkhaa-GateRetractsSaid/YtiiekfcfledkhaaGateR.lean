/- GateRetracts: the law's walk. Conditions: none. -/
import Derived.Test.YtiiekfcfledkhaaGateA
namespace Go.Proofs.Ytiiekfcfledkhaa
open Go Go.E
set_option maxRecDepth 100000

theorem holdL_le (l : List Kept) (c : Key) (m : Msg) : (holdL 0 l c m).length ≤ l.length + 1 := by
  unfold holdL
  split
  · omega
  · split
    · omega
    · simp

theorem gateRetracts_s {e w : World} {R : List HP} {K : KV} {S : HP} {t0 : Value} {st : List GateStep} {k : Key} (hS : Sat e w (S :: R)) (hr : ∀ g, S g → rdS 10 GateStep.cs t0 st g)
    (hk : ∀ w', Sat e w' (S :: R) → K (.bool true) w') : Cl prog 3 #[t0, .agg k.cs.toArray] w K := by
  refine pacelinelaw14_GateRetracts_calls ?_
  unfold pacelinelaw14_GateRetracts
  refine al_s (cs := k.cs) hS rfl fun b3 w1 h1 => ?_
  refine lnS_rd h1 1 rfl hr ?_
  refine gt_c (fun c => iff_t (hk _ h1.drop)) (fun c => iff_f ?_)
  refine gate_New_s h1 fun g w2 h2 => ?_
  refine lp1 (fun t6 w => ∃ (j : Nat) (l : List Kept), j ≤ st.length ∧ l.length ≤ j ∧ t6 = .int .i64 j ∧ Sat e w (IsGate g 0 l :: blk b3 24 k.cs :: S :: R)) (fun t6 _ => st.length - nOf t6)
    ⟨0, [], Nat.zero_le _, Nat.le_refl _, rfl, h2⟩ ?_
  rintro _ w g1 ⟨j, l, hj, hl, rfl, h3⟩ hg
  refine lnS_rd h3 2 rfl hr ?_
  refine lt_c (fun c => iff_t ?_) (fun c => iff_f ?_)
  · refine J0.cut (fun w => ∃ l : List Kept, l.length ≤ j + 1 ∧ Sat e w (IsGate g 0 l :: blk b3 24 k.cs :: S :: R)) (fun kk hkk => ?_) (fun w ⟨l, hl, h4⟩ => ?_)
    · obtain ⟨x, hx⟩ := get_of_lt (l := st) (j := j) (by omega)
      refine ixS_rd h3 2 rfl hr (fun _ => rfl) hx fun a ha => ?_
      refine fld_of ha fun a1 ha1 => ?_
      refine ld1_of h3 2 rfl ha1 (by rfl) ?_
      refine eq_c (fun c => iff_t ?_) (fun c => iff_f ?_)
      · refine dr_s h3 fun w4 h4 => ?_
        refine ixS_rd h4 2 rfl hr (fun _ => rfl) hx fun a ha => ?_
        refine fld_of ha fun a1 ha1 => ?_
        refine ldN_sub (us := x.K.cs) h4 2 rfl ha1 (by rfl) rfl ?_
        refine ixS_rd h4 2 rfl hr (fun _ => rfl) hx fun a ha => ?_
        refine fld_of ha fun a1 ha1 => ?_
        refine ldN_sub (us := x.M.cs) h4 2 rfl ha1 (by rfl) rfl ?_
        refine gate_Hold_s x.K x.M h4 (by omega) fun w5 h5 => ?_
        exact hkk _ ⟨_, by have := holdL_le l x.K x.M; omega, h5⟩
      · exact hkk _ ⟨l, by omega, h3⟩
    · refine inc_s (by omega) ?_
      exact hg _ _ ⟨j + 1, l, by omega, hl, rfl, h4⟩ (by simp [nOf]; omega)
  · refine gate_Held_s h3 (by omega) fun t43 w4 h4 => ?_
    refine ldN_at h4 2 (vs := k.cs) rfl (by rfl) rfl ?_
    refine gate_Retract_s k (h4.selR [_, _, _, _] [_, _, _, _] [1, 0, 2, 3] (by decide) rfl) (by omega) fun w5 h5 => ?_
    refine xt_s rfl ?_
    refine xt_s rfl ?_
    refine ldN_at h5 2 (vs := k.cs) rfl (by rfl) rfl ?_
    have hl2 : (retL l k).length ≤ l.length := List.length_filter_le _ _
    refine gate_Retract_s k h5 (by omega) fun w6 h6 => ?_
    refine xt_s rfl ?_
    refine xt_s rfl ?_
    have e1 : retN (retL l k) k = 0 := by
      unfold retN retL
      rw [List.filter_filter]
      simp
    have e2 : retL (retL l k) k = retL l k := by
      unfold retL
      rw [List.filter_filter]
      congr 1
      funext x
      simp
    rw [e2] at h6
    have e3 : retN l k + (retL l k).length = l.length := by
      unfold retN retL
      have := List.length_eq_countP_add_countP (fun x : Kept => decide (x.m.key = k)) (l := l)
      rw [List.countP_eq_length_filter, List.countP_eq_length_filter] at this
      simp only [decide_not] at this ⊢
      simpa using this.symm
    rw [e1]
    refine bsl0 h6 Msg.cs fun t56 w7 h7 => ?_
    rw [zero_28]
    refine lp2 (fun t12 t13 w => ∃ j : Nat, j ≤ l.length ∧ t13 = .int .i64 j ∧ Sat e w (ownS 28 6 Msg.cs t12 (((l.take j).map Kept.m).filter fun m => !decide (m.key = k)) :: IsGate g 0 (retL l k) :: ownS 28 6 Msg.cs t43 (l.map Kept.m) :: blk b3 24 k.cs :: S :: R))
      (fun _ t13 _ => l.length - nOf t13) ⟨0, Nat.zero_le _, rfl, by simpa using h7⟩ ?_
    rintro t12 _ w g3 ⟨j, hj, rfl, h8⟩ hg3
    refine lnS_rd h8 2 rfl (fun g hg => own_rd hg) ?_
    rw [List.length_map]
    refine lt_c (fun c => iff_t ?_) (fun c => iff_f ?_)
    · obtain ⟨x, hx⟩ := get_of_lt (l := l) (j := j) (by omega)
      have hx' : (l.map Kept.m)[j]? = some x.m := by simp [hx]
      have hf : ((l.take (j + 1)).map Kept.m).filter (fun m => !decide (m.key = k)) = ((l.take j).map Kept.m).filter (fun m => !decide (m.key = k)) ++ if x.m.key = k then [] else [x.m] := by
        rw [take_snoc hx, List.map_append, List.filter_append]
        by_cases h : x.m.key = k <;> simp [h]
      have hn := List.length_filter_le (fun m : Msg => !decide (m.key = k)) ((l.take j).map Kept.m)
      have hn2 : ((l.take j).map Kept.m).length ≤ 200 := by simp; omega
      refine J1.cut (fun t12 w => Sat e w (ownS 28 6 Msg.cs t12 (((l.take (j + 1)).map Kept.m).filter fun m => !decide (m.key = k)) :: IsGate g 0 (retL l k) :: ownS 28 6 Msg.cs t43 (l.map Kept.m) :: blk b3 24 k.cs :: S :: R))
        (fun kk hkk => ?_) (fun t12 w h9 => ?_)
      · refine dr_s h8 fun w9 h9 => ?_
        refine ixS_rd h9 2 rfl (fun g hg => own_rd hg) (fun _ => rfl) hx' fun a ha => ?_
        refine fld_of ha fun a1 ha1 => ?_
        refine ldN_sub (us := x.m.key.cs) h9 2 rfl ha1 (by rfl) rfl ?_
        refine ldN_at h9 3 (vs := k.cs) rfl (by rfl) rfl ?_
        refine bO_ne (ns := x.m.key.ns) (ms := k.ns) eqT_24 agg_24 egt_24 (by decide) rfl ?_
        rw [Key.eq_ns]
        by_cases hxk : x.m.key = k
        · rw [decide_eq_true hxk]
          refine iff_f ?_
          refine hkk _ _ ?_
          rw [hf, if_pos hxk, List.append_nil]
          exact h9
        · rw [decide_eq_false hxk]
          refine iff_t ?_
          refine ixS_rd h9 2 rfl (fun g hg => own_rd hg) (fun _ => rfl) hx' fun a ha => ?_
          refine ldN_of h9 2 rfl ha rfl ?_
          refine push1 te_33 (f := Msg.cs) (fun _ => rfl) (fun _ => ints_flat _) h9 (x := x.m) rfl (by omega) fun v' w10 h10 => ?_
          refine hkk _ _ ?_
          rw [hf, if_neg hxk]
          exact h10
      · refine inc_s (by omega) ?_
        exact hg3 _ _ _ ⟨j + 1, by omega, rfl, h9⟩ (by simp [nOf]; omega)
    · obtain rfl : j = l.length := by omega
      rw [List.take_length] at h8
      have e4 : (l.map Kept.m).filter (fun m => !decide (m.key = k)) = (retL l k).map Kept.m := by
        unfold retL
        rw [List.filter_map]
        rfl
      rw [e4] at h8
      refine lnS_rd h8 2 rfl (fun g hg => own_rd hg) ?_
      refine lnS_rd h8 0 rfl (fun g hg => own_rd hg) ?_
      rw [List.length_map, List.length_map]
      refine sub_s (by omega) (by omega) ?_
      refine eq_t (by omega) ?_
      refine gd_tt ?_
      refine gd_tt ?_
      have fin : Cl prog 17 #[.pointer (some ⟨g, 0, none⟩)] w (fun t109 w => gd (.bool true) true (fun k => k t12 w) w fun t110 w => gd (.bool true) true (fun k => Cl prog 19 #[t109, t110] w k) w fun t111 w => pk (.bool true) t111 (.bool false) w fun t112 w => K t112 w) := by
        refine gate_Held_s (h8.selR [_, _, _, _, _] [_, _, _] [1, 0, 4] (by decide) rfl) (by omega) fun t109 w9 h9 => ?_
        refine gd_tt (gd_tt ?_)
        refine same_s (h9.selR [_, _, _, _] [_, _, _] [0, 2, 3] (by decide) rfl) (fun g hg => own_rd hg) (fun g hg => own_rd hg) (by simp; omega) fun w10 h10 => ?_
        rw [decide_eq_true rfl]
        refine pk_t ?_
        exact hk _ (h10.selR [_, _, _] [_] [2] (by decide) rfl)
      by_cases hn : retN l k = 0
      · rw [if_pos hn]
        repeat (first | refine gd_tt ?_ | refine gd_ff ?_ | refine gd_tf ?_ | refine gd_ft ?_ | refine pk_t ?_ | refine pk_f ?_ | refine iff_t ?_ | refine iff_f ?_ | refine not_t ?_ | refine not_f ?_ | refine beq_s ?_ | refine bne_s ?_ | refine ncP_p ?_ | refine fld_at ?_ | refine xt_s rfl ?_ | refine eq_t (by omega) ?_ | refine eq_f (by omega) ?_ | refine ne_t (by omega) ?_ | refine ne_f (by omega) ?_ | refine lt_t (by omega) ?_ | refine lt_f (by omega) ?_ | refine gt_t (by omega) ?_ | refine gt_f (by omega) ?_ | refine ge_t (by omega) ?_ | refine ge_f (by omega) ?_ | refine le_t (by omega) ?_ | refine le_f (by omega) ?_)
        exact fin
      · rw [if_neg hn]
        repeat (first | refine gd_tt ?_ | refine gd_ff ?_ | refine gd_tf ?_ | refine gd_ft ?_ | refine pk_t ?_ | refine pk_f ?_ | refine iff_t ?_ | refine iff_f ?_ | refine not_t ?_ | refine not_f ?_ | refine beq_s ?_ | refine bne_s ?_ | refine ncP_p ?_ | refine fld_at ?_ | refine xt_s rfl ?_ | refine eq_t (by omega) ?_ | refine eq_f (by omega) ?_ | refine ne_t (by omega) ?_ | refine ne_f (by omega) ?_ | refine lt_t (by omega) ?_ | refine lt_f (by omega) ?_ | refine gt_t (by omega) ?_ | refine gt_f (by omega) ?_ | refine ge_t (by omega) ?_ | refine ge_f (by omega) ?_ | refine le_t (by omega) ?_ | refine le_f (by omega) ?_)
        exact fin

end Go.Proofs.Ytiiekfcfledkhaa
