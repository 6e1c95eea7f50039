/- The law PrioGone. Conditions: none. -/
import Derived.Test.YtbfjpmbgjgjckaaPrioV
namespace Go.Proofs.Ytbfjpmbgjgjckaa
open Go Go.E
set_option maxRecDepth 100000
variable {e w : World} {R : List HP} {K : KV}

theorem ltlen_s {a b : Int} {v : Value} {n : Nat} (hl : ∀ K : KV, K (.int .i64 (n : Int)) w → lnS v w K) (hk : K (.bool (decide (a < b ∧ 0 < n))) w) : bi .lss .i64 (.int .i64 a) (.int .i64 b) w fun t1 w => gd t1 true (fun k => k v w) w fun t2 w =>
    gd t1 true (fun k => lnS t2 w k) w fun t3 w => gd t1 true (fun k => bi .gtr .i64 t3 (.int .i64 0) w k) w fun t4 w => pk t1 t4 (.bool false) w K := by
  refine lt_c (fun c => gd_tt (gd_tt (hl _ (gd_tt (gt_d (pk_t ?_)))))) (fun c => gd_ft (gd_ft (gd_ft (pk_f ?_))))
  · rw [show decide (a < b ∧ 0 < n) = decide ((0 : Int) < n) from by simp [c]] at hk
    exact hk
  · rw [show decide (a < b ∧ 0 < n) = false from by simp [c]] at hk
    exact hk
theorem without_self {l : List Msg} {x : Msg} (hn : ((l ++ [x]).map Msg.key).Nodup) : without (l ++ [x]) x.key = l := by
  unfold without
  rw [List.map_append, List.nodup_append] at hn
  rw [List.filter_append, List.filter_eq_self.2 (fun y hy => by
    have := hn.2.2 y.key (List.mem_map.2 ⟨y, hy, rfl⟩) x.key (by simp)
    simpa using this)]
  simp
theorem without_perm {a l : List Msg} {x : Msg} {b : List Msg} (hb : (b.map Msg.key).Nodup) (hp : (l ++ [x]).Perm b) (ha : a.Perm b) : (without a x.key).Perm l := by
  have hn : ((l ++ [x]).map Msg.key).Nodup := (hp.map Msg.key).nodup_iff.2 hb
  have h1 : (without a x.key).Perm (without (l ++ [x]) x.key) := (ha.trans hp.symm).filter _
  rwa [without_self hn] at h1
theorem without_up {l : List Msg} (h : Upk l) (k : Key) : Upk (without l k) := h.sublist List.filter_sublist

theorem prioGone_s {v u : Value} {l : List Msg} {gone : List Int} {S : HP} (hS : Sat e w (S :: R)) (hr : ∀ g, S g → rdS 6 Msg.cs v l g) (hr2 : ∀ g, S g → rdS 1 (intsK .u8) u gone g) (hgw : ∀ m ∈ gone, (Lit.int .u8 m).wf = true)
    (hk : ∀ w', Sat e w' (S :: R) → K (.bool true) w') : Cl prog 6 #[v, u] w K := by
  refine pacelinelaw03_PrioGone_calls ?_
  unfold pacelinelaw03_PrioGone
  rw [zero_30]
  refine lnS_rd hS 0 rfl hr ?_
  refine gt_c (fun c1 => gd_tf (gd_tf (gd_tf (pk_t (iff_t (hk _ hS)))))) (fun c1 => gd_ff (gd_ff (lnS_rd hS 0 rfl hr2 (gd_ff ?_))))
  refine gt_c (fun c2 => pk_f (iff_t (hk _ hS))) (fun c2 => pk_f (iff_f ?_))
  refine prio_New_s hS fun q w1 h1 => ?_
  rw [show max (0 : Int) (min 64 64) = 64 from by decide] at h1
  refine bsl0 h1 Msg.cs fun v1 w2 h2 => ?_
  refine lpi2 (fun z t6 t7 w => ∃ (j : Nat) (lh wl : List Msg), t7 = .int .i64 j ∧ z = l.length - j ∧ j ≤ l.length ∧ lh.length ≤ j ∧ wl.Perm lh ∧ Up wl ∧ Sat e w (ownS 30 6 Msg.cs t6 wl :: IsPrio q 64 lh :: S :: R)) l.length
    ⟨0, [], [], rfl, rfl, Nat.zero_le _, Nat.le_refl _, .refl _, List.Pairwise.nil, h2⟩ ?_
  rintro z t6 _ w g1 ⟨j, lh, wl, rfl, rfl, hj, hlj, hpw, huw, h3⟩ hg
  have hwl := hpw.length_eq
  refine lnS_rd h3 2 rfl hr ?_
  refine lt_c (fun c3 => iff_t ?_) (fun c3 => iff_f ?_)
  · obtain ⟨x, hx⟩ := get_of_lt (l := l) (j := j) (by omega)
    refine J1.cut (fun t6 w => ∃ (lh wl : List Msg), lh.length ≤ j + 1 ∧ wl.Perm lh ∧ Up wl ∧ Sat e w (ownS 30 6 Msg.cs t6 wl :: IsPrio q 64 lh :: S :: R)) (fun k2 hcut => ?_) ?_
    · refine ixS_rd h3 2 rfl hr (fun _ => rfl) hx fun p hpx => ?_
      refine ldN_of h3 2 rfl hpx rfl ?_
      refine prio_Push_s (by omega) h3.swap (fun hbad w4 h4 => ?_) (fun _ hne _ l' w4 hp _ h4 => ?_)
      · refine eq_f hbad (iff_f (hcut _ _ ⟨lh, wl, by omega, hpw, huw, h4.swap⟩))
      · refine eq_t rfl (iff_t ?_)
        refine ixS_rd h4 2 rfl hr (fun _ => rfl) hx fun p hpx => ?_
        refine ldN_of h4 2 rfl hpx rfl ?_
        refine ref03_Insert_s (by omega) (h4.pick 1 rfl) (fun g hg => own_rd hg) fun v' p w5 hpl h5 => ?_
        have hne' : ∀ y ∈ wl, y.key ≠ x.key := fun y hy => hne y (hpw.mem_iff.1 hy)
        refine hcut _ _ ⟨l', insAt wl x p, by rw [hp.length_eq]; simp; omega, (insAt_perm wl x p).trans ((hpw.append_right [x]).trans hp.symm), hpl.up huw hne', h5.selR [_, _, _] [_, _] [0, 2] (by decide) rfl⟩
    · rintro t6' w ⟨lh', wl', hl', hp', hu', h4⟩
      refine inc_s (by omega) ?_
      exact hg _ _ _ _ (by omega) ⟨j + 1, lh', wl', rfl, rfl, by omega, hl', hp', hu', h4⟩
  refine prio_Len_s (h3.pick 1 rfl) ?_
  refine lnS_rd h3 0 rfl (fun g hg => own_rd hg) ?_
  refine ne_f (by omega) (iff_f ?_)
  have hl64 : lh.length ≤ 64 := by omega
  have h3' := h3
  clear h3
  refine lpi2 (fun z t6 t8 w => ∃ (i : Nat) (lh wl : List Msg), t8 = .int .i64 i ∧ z = gone.length - i ∧ i ≤ gone.length ∧ lh.length ≤ 64 ∧ wl.Perm lh ∧ Upk wl ∧ Sat e w (ownS 30 6 Msg.cs t6 wl :: IsPrio q 64 lh :: S :: R)) gone.length
    ⟨0, lh, wl, rfl, rfl, Nat.zero_le _, hl64, hpw, huw, h3'⟩ ?_
  clear hpw huw h3' hl64 hlj hwl
  rintro z t6 _ w g3 ⟨i, lh, wl, rfl, rfl, hi, hl64, hpw, huw, h3⟩ hg3
  have hwl := hpw.length_eq
  refine lnS_rd h3 2 rfl hr2 ?_
  refine ltlen_s (n := wl.length) (fun K hK => lnS_rd h3 0 rfl (fun g hg => own_rd hg) hK) ?_
  refine iff_d (fun c => ?_) (fun c => ?_)
  · obtain ⟨gi, hgi⟩ := get_of_lt (l := gone) (j := i) (by omega)
    have hgb := wfU8 (hgw gi (List.mem_of_getElem? hgi))
    refine ixS_rd h3 2 rfl hr2 (fun _ => rfl) hgi fun p hp => ?_
    refine ld1_of h3 2 rfl hp rfl ?_
    refine cv_s ?_
    rw [wrap_i64 (by omega) (by omega)]
    refine lnS_rd h3 0 rfl (fun g hg => own_rd hg) ?_
    refine rem_s (by omega) ?_
    rw [Int.tmod_eq_emod_of_nonneg (by omega)]
    have me1 : 0 ≤ gi % (wl.length : Int) := Int.emod_nonneg _ (by omega)
    have me2 : gi % (wl.length : Int) < wl.length := Int.emod_lt_of_pos _ (by omega)
    obtain ⟨p, hpp⟩ : ∃ p : Nat, gi % (wl.length : Int) = p := ⟨(gi % (wl.length : Int)).toNat, by omega⟩
    rw [hpp]
    obtain ⟨x, hx⟩ := get_of_lt (l := wl) (j := p) (by omega)
    have hxl : x ∈ lh := hpw.mem_iff.1 (List.mem_of_getElem? hx)
    refine ixS_rd h3 0 rfl (fun g hg => own_rd hg) (fun _ => rfl) hx fun a ha => ?_
    refine ldN_of h3 0 rfl ha rfl ?_
    refine al_s (cs := ints [0, 0, 0, 0, 0, 0]) h3 rfl fun d w5 h5 => ?_
    refine stN_at h5 0 rfl (vs := x.cs) rfl rfl (Nat.le_of_ble_eq_true rfl) (ints_flat _) (cs' := x.cs) (by kernel_rfl) fun w6 h6 => ?_
    refine fld_at (ldN_at h6 0 (vs := x.key.cs) rfl (by rfl) rfl ?_)
    have h7 := h6.pick 2 rfl
    have hnd := prio_keys h7
    refine prio_Remove_s hxl (by omega) h7 fun l2 w8 hp2 _ h8 => ?_
    have hl2 : l2.length + 1 = lh.length := by rw [← hp2.length_eq]; simp
    have hno2 : ∀ y ∈ l2, y.key ≠ x.key := by
      have hn : ((l2 ++ [x]).map Msg.key).Nodup := (hp2.map Msg.key).nodup_iff.2 hnd
      rw [List.map_append, List.nodup_append] at hn
      exact fun y hy => hn.2.2 y.key (List.mem_map.2 ⟨y, hy, rfl⟩) x.key (by simp)
    refine xt_02 (xt_12 ?_)
    refine al_s (cs := ints [0, 0, 0, 0, 0, 0]) h8 rfl fun d2 w9 h9 => ?_
    refine stN_at h9 0 rfl (vs := x.cs) rfl rfl (Nat.le_of_ble_eq_true rfl) (ints_flat _) (cs' := x.cs) (by kernel_rfl) fun w10 h10 => ?_
    refine fld_at (ldN_at h10 2 (vs := x.key.cs) rfl (by rfl) rfl ?_)
    refine prio_Remove_none hno2 (h10.pick 1 rfl) fun w11 h11 => ?_
    refine xt_02 (xt_12 ?_)
    refine al_s (cs := ints [0, 0, 0, 0, 0, 0]) h11 rfl fun d3 w12 h12 => ?_
    refine stN_at h12 0 rfl (vs := Msg.zero.cs) rfl rfl (Nat.le_of_ble_eq_true rfl) (ints_flat _) (cs' := Msg.zero.cs) (by kernel_rfl) fun w13 h13 => ?_
    replace h13 : Sat e w13 (ownS 30 6 Msg.cs t6 wl :: IsPrio q 64 l2 :: blk d 30 x.cs :: blk d2 30 x.cs :: S :: R) := h13.selR [_, _, _, _, _] [_, _, _, _] [4, 1, 3, 2] (by decide) rfl
    refine ldN_at h13 3 (vs := x.cs) rfl (by rfl) rfl ?_
    refine ldN_at h13 2 (vs := x.cs) rfl (by rfl) rfl ?_
    refine bO_ne (ns := x.ns) (ms := x.ns) eqT_30 agg_30 egt_30 (by decide) rfl ?_
    rw [Msg.eq_ns, decide_eq_true rfl]
    refine gd_ff (gd_ff (not_t (pk_f (gd_ff (pk_f (iff_f ?_))))))
    refine fld_at (ldN_at h13 2 (vs := x.key.cs) rfl (by rfl) rfl ?_)
    refine ref03_Without_s (by omega) h13 (fun g hg => own_rd hg) fun v' w14 h14 => ?_
    refine inc_s (by omega) ?_
    exact hg3 _ _ _ _ (by omega) ⟨i + 1, l2, without wl x.key, rfl, rfl, by omega, by omega, without_perm hnd hp2 hpw, without_up huw _, h14.selR [_, _, _, _, _] [_, _] [0, 2] (by decide) rfl⟩
  · refine prio_List_s (by omega) h3.swap fun v' l' w5 hp hu h5 => ?_
    have hl' : l' = wl := up_unique hu huw (hp.trans hpw.symm)
    subst hl'
    refine same03_s (h5.selR [_, _, _] [_, _, _] [0, 2, 1] (by decide) rfl) (fun g hg => own_rd hg) (fun g hg => own_rd hg) (by omega) fun w6 h6 => ?_
    rw [decide_eq_true rfl]
    refine gd_tt (gd_tt ?_)
    rw [zero_28]
    refine bld_s (Key.cs ⟨-3, -3, 0⟩) (by kernel_rfl) (gd_tt ?_)
    refine bld_s (Msg.cs ⟨⟨-3, -3, 0⟩, 0, 0, 0⟩) (by kernel_rfl) (gd_tt ?_)
    refine prio_Push_s (x := ⟨⟨-3, -3, 0⟩, 0, 0, 0⟩) (by omega) (h6.pick 2 rfl) (fun hbad w7 h7 => ?_) (fun _ _ _ l2 w7 hp2 _ h7 => ?_)
    · have hcase : (pushE 64 lh ⟨⟨-3, -3, 0⟩, 0, 0, 0⟩ = 3 ∨ pushE 64 lh ⟨⟨-3, -3, 0⟩, 0, 0, 0⟩ = 2) ∧ 0 < lh.length := by
        by_cases hin : ∃ y ∈ lh, y.key = (⟨⟨-3, -3, 0⟩, 0, 0, 0⟩ : Msg).key
        · refine ⟨.inl (pushE_in' hin), ?_⟩
          obtain ⟨y, hy, _⟩ := hin
          exact List.length_pos_of_mem hy
        · have hne : ∀ y ∈ lh, y.key ≠ (⟨⟨-3, -3, 0⟩, 0, 0, 0⟩ : Msg).key := fun y hy hk => hin ⟨y, hy, hk⟩
          have e1 := pushE_out (room := 64) hne
          by_cases hf : (64 : Int) ≤ lh.length
          · rw [if_pos hf] at e1
            exact ⟨.inr e1, by omega⟩
          · rw [if_neg hf] at e1
            exact absurd e1 hbad
      refine gd_tt (ne_t (by rcases hcase.1 with h | h <;> rw [h] <;> decide) (pk_t (gd_tt (gd_tt (prio_Len_s h7 ?_)))))
      exact gd_tt (gt_t (by have := hcase.2; omega) (pk_t (hk _ (h7.selR [_, _, _, _] [_] [3] (by decide) rfl))))
    · have hl2 : l2.length = lh.length + 1 := by rw [hp2.length_eq]; simp
      refine gd_tt (ne_t (by decide) (pk_t (gd_tt (gd_tt (prio_Len_s h7 ?_)))))
      exact gd_tt (gt_t (by omega) (pk_t (hk _ (h7.selR [_, _, _, _] [_] [3] (by decide) rfl))))
end Go.Proofs.Ytbfjpmbgjgjckaa
