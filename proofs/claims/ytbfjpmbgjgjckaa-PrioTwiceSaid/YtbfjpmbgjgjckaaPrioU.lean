/- The law PrioTwice. Conditions: none. -/
import Derived.Test.YtbfjpmbgjgjckaaPrioD
namespace Go.Proofs.Ytbfjpmbgjgjckaa
open Go Go.E
set_option maxRecDepth 100000
variable {e w : World} {R : List HP} {K : KV}

theorem pushE_in {room : Int} {l : List Msg} {x : Msg} (h : ∃ y ∈ l, y.key = x.key) : pushE room l x = 3 := by
  obtain ⟨y, hy, hk⟩ := h
  exact if_pos (List.any_eq_true.2 ⟨y, hy, by simpa using hk⟩)
theorem prioTwice_s {v : Value} {l : List Msg} {S : HP} (hS : Sat e w (S :: R)) (hr : ∀ g, S g → rdS 6 Msg.cs v l g) {room : Int} (hrw : (Lit.int .u8 room).wf = true)
    (hk : ∀ w', Sat e w' (S :: R) → K (.bool true) w') : Cl prog 3 #[v, .int .u8 room] w K := by
  have hrd := wfU8 hrw
  refine pacelinelaw03_PrioTwice_calls ?_
  unfold pacelinelaw03_PrioTwice
  rw [zero_30]
  refine lnS_rd hS 0 rfl hr ?_
  refine gt_c (fun c1 => iff_t (hk _ hS)) (fun c1 => iff_f ?_)
  refine cv_s ?_
  rw [wrap_i64 (by omega) (by omega)]
  refine rem_s (by decide) ?_
  rw [Int.tmod_eq_emod_of_nonneg (by omega)]
  obtain ⟨k, hkk⟩ : ∃ k : Nat, room % 65 = (k : Int) := ⟨(room % 65).toNat, by omega⟩
  rw [hkk]
  refine prio_New_s hS fun q w1 h1 => ?_
  rw [show max (0 : Int) (min k 64) = k from by omega] at h1
  refine lpi1 (fun z t7 w => ∃ (j : Nat) (lh : List Msg), t7 = .int .i64 j ∧ z = l.length - j ∧ j ≤ l.length ∧ lh.length ≤ k ∧ Sat e w (IsPrio q k lh :: S :: R)) l.length
    ⟨0, [], rfl, rfl, Nat.zero_le _, Nat.zero_le _, h1⟩ ?_
  rintro z _ w g1 ⟨j, lh, rfl, rfl, hj, hlk, h2⟩ hg
  refine lnS_rd h2 1 rfl hr ?_
  refine lt_c (fun c2 => iff_t ?_) (fun c2 => iff_f ?_)
  · obtain ⟨x, hx⟩ := get_of_lt (l := l) (j := j) (by omega)
    refine ixS_rd h2 1 rfl hr (fun _ => rfl) hx fun p hpx => ?_
    refine ldN_of h2 1 rfl hpx rfl ?_
    -- what is left behind the two pushes
    have hrest : ∀ l' w', l'.length ≤ k → Sat e w' (IsPrio q k l' :: S :: R) → Cl prog 11 #[.pointer (some ⟨q, 0, none⟩)] w' fun t56 w => xt 0 t56 w fun t57 w => xt 1 t56 w fun t58 w =>
        al (ints [0, 0, 0, 0, 0, 0]).toArray 30 w fun t10 w => stN 6 t10 t57 w fun _ w => Cl prog 10 #[.pointer (some ⟨q, 0, none⟩)] w fun t61 w => bi .gtr .i64 t61 (Value.int IntKind.i64 0) w fun t62 w =>
        bb .neq t58 t62 w fun t63 w => iff' t63 (K (Value.bool false) w) (bi .add .i64 (.int .i64 (j : Int)) (Value.int IntKind.i64 1) w fun t25 w => g1 [t25] w) := by
      intro l' w' hl' h3
      cases l' with
      | nil =>
        refine prio_First_none h3 fun w4 h4 => ?_
        refine xt_02 (xt_12 ?_)
        refine al_s (cs := ints [0, 0, 0, 0, 0, 0]) h4 rfl fun d w5 h5 => ?_
        refine stN_at h5 0 rfl (vs := Msg.zero.cs) rfl rfl (Nat.le_of_ble_eq_true rfl) (ints_flat _) (cs' := Msg.zero.cs) (by kernel_rfl) fun w6 h6 => ?_
        refine prio_Len_s (h6.drop) ?_
        refine gt_f (by decide) (bne_s (iff_f (inc_s (by omega) ?_)))
        exact hg _ _ _ (by omega) ⟨j + 1, _, rfl, rfl, by omega, hl', h6.drop⟩
      | cons y l' =>
        refine prio_First_s (x := y) rfl h3 fun w4 h4 => ?_
        refine xt_02 (xt_12 ?_)
        refine al_s (cs := ints [0, 0, 0, 0, 0, 0]) h4 rfl fun d w5 h5 => ?_
        refine stN_at h5 0 rfl (vs := y.cs) rfl rfl (Nat.le_of_ble_eq_true rfl) (ints_flat _) (cs' := y.cs) (by kernel_rfl) fun w6 h6 => ?_
        refine prio_Len_s (h6.drop) ?_
        refine gt_t (by simp) (bne_s (iff_f (inc_s (by omega) ?_)))
        exact hg _ _ _ (by omega) ⟨j + 1, _, rfl, rfl, by omega, hl', h6.drop⟩
    refine prio_Push_s (by omega) h2 (fun hbad w3 h3 => ?_) (fun _ _ hlt l' w3 hp _ h3 => ?_)
    · refine ixS_rd h3 1 rfl hr (fun _ => rfl) hx fun p hpx => ?_
      refine ldN_of h3 1 rfl hpx rfl ?_
      refine prio_Push_s (by omega) h3 (fun _ w4 h4 => ?_) (fun h0 => absurd h0 hbad)
      refine eq_f hbad (gd_ft (gd_ft (pk_f (gd_ff (gd_ff (eq_f hbad (pk_f (gd_ff (gd_ff ?_)))))))))
      refine prio_Len_s h4 ?_
      refine gd_ff (gd_ff (gt_f (by omega) (pk_f (iff_f ?_))))
      exact hrest lh _ hlk h4
    · refine ixS_rd h3 1 rfl hr (fun _ => rfl) hx fun p hpx => ?_
      refine ldN_of h3 1 rfl hpx rfl ?_
      have hl' : l'.length = lh.length + 1 := by rw [hp.length_eq]; simp
      have e3 : pushE k l' x = 3 := pushE_in ⟨x, hp.mem_iff.2 (by simp), rfl⟩
      refine prio_Push_s (by omega) h3 (fun _ w4 h4 => ?_) (fun h0 => by rw [e3] at h0; cases h0)
      rw [e3]
      refine eq_t rfl (gd_tt (gd_tt (ne_f rfl (pk_t (gd_ff (gd_ff (eq_f (by decide) (pk_f (gd_ff (gd_ff ?_))))))))))
      refine prio_Len_s h4 ?_
      refine gd_ff (gd_ff (gt_f (by omega) (pk_f (iff_f ?_))))
      exact hrest l' _ (by omega) h4
  · refine prio_New_s h2 fun q1 w3 h3 => ?_
    rw [show max (0 : Int) (min 1 64) = 1 from by decide] at h3
    refine bld_s Msg.zero.cs (by kernel_rfl) ?_
    refine prio_Push_s (x := Msg.zero) (by simp) h3 (fun h => absurd rfl h) (fun _ _ _ l' w4 _ _ h4 => ?_)
    refine eq_t rfl (gd_tt ?_)
    refine prio_New_s h4 fun q2 w5 h5 => ?_
    rw [show max (0 : Int) (min 0 64) = 0 from by decide] at h5
    refine gd_tt (bld_s Msg.zero.cs (by kernel_rfl) ?_)
    refine gd_tt (prio_Push_s (x := Msg.zero) (by simp) h5 (fun _ w6 h6 => ?_) (fun h => by cases h))
    rw [show pushE 0 [] Msg.zero = 2 from rfl]
    exact gd_tt (eq_t rfl (pk_t (hk _ (h6.selR [_, _, _, _] [_] [3] (by decide) rfl))))
end Go.Proofs.Ytbfjpmbgjgjckaa
