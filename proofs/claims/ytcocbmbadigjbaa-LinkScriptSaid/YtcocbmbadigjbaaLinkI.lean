/- The document's links: New, Send, All, Carried, Least. Conditions: the net is one that New made. -/
import Derived.Test.YtcocbmbadigjbaaLinkH
namespace Go.Proofs.Ytcocbmbadigjbaa
open Go Go.E
set_option maxRecDepth 100000
variable {e w : World} {R : List HP} {K : KV}

theorem flat_take_le {α : Type} (l : List (List α)) (i : Nat) : (l.take i).flatten.length ≤ l.flatten.length := by
  have h : l.flatten = (l.take i).flatten ++ (l.drop i).flatten := by rw [← List.flatten_append, List.take_append_drop]
  rw [h, List.length_append]
  omega
theorem rnet_any {r n : Nat} {room : Int} {Q : Nat → Nat → List Item} {i : Nat} {q : List Item} (h : Sat e w (IsRNet r n room Q :: R)) (hq : (tabQ n Q)[i]? = some q) : i < n * n ∧ q.length ≤ 16 := by
  obtain ⟨V, vs, hok, _⟩ := rnet_of h
  have hi := (List.getElem?_eq_some_iff.1 hq).1
  rw [tab_len] at hi
  refine ⟨hi, ?_⟩
  unfold tabQ at hq
  rw [List.getElem?_map, List.getElem?_range hi] at hq
  simp only [Option.map_some, Option.some.injEq] at hq
  have hn := hok.2.1
  have h1 := hok.2.2.2.2.2 (i / n) (i % n) (by rw [Nat.div_lt_iff_lt_mul (by omega)]; exact hi) (Nat.mod_lt _ (by omega))
  rw [hq] at h1
  have := hok.2.2.2.2.1
  omega
theorem ref10_All_s {r n : Nat} {room : Int} {Q : Nat → Nat → List Item} (hS : Sat e w (IsRNet r n room Q :: R)) (hk : ∀ w', Sat e w' (IsRNet r n room Q :: R) → K (.int .i64 (allQ n Q).length) w') :
    Cl prog 21 #[.pointer (some ⟨r, 0, none⟩)] w K := by
  refine pacelineref10_Net_All_calls ?_
  unfold pacelineref10_Net_All
  obtain ⟨_, _, hok0, _⟩ := rnet_of hS
  have hall := hok0.all
  have hn8 := hok0.2.2.1
  have hnn : n * n ≤ 8 * 8 := Nat.mul_le_mul hn8 hn8
  refine lpi2 (fun q t3 t4 w => ∃ i : Nat, i ≤ n * n ∧ t4 = .int .i64 i ∧ t3 = .int .i64 (((tabQ n Q).take i).flatten.length) ∧ q = n * n - i ∧ Sat e w (IsRNet r n room Q :: R)) (n * n) ⟨0, Nat.zero_le _, rfl, rfl, rfl, hS⟩ ?_
  rintro q _ _ w g1 ⟨i, hi, rfl, rfl, rfl, h1⟩ hg
  obtain ⟨V, vs, hok, h2⟩ := rnet_of h1
  repeat (first | refine gd_tt ?_ | refine gd_ff ?_ | refine gd_tf ?_ | refine gd_ft ?_ | refine gd_u ?_ | refine pk_t ?_ | refine pk_f ?_ | refine iff_t ?_ | refine iff_f ?_ | refine not_t ?_ | refine not_f ?_ | refine beq_s ?_ | refine bne_s ?_ | refine ncP_p ?_ | refine nc_p ?_ | refine fld_at ?_ | refine xt_02 ?_ | refine xt_12 ?_ | refine xt_03 ?_ | refine xt_13 ?_ | refine xt_23 ?_ | refine eq_t (by omega) ?_ | refine eq_f (by omega) ?_ | refine ne_t (by omega) ?_ | refine ne_f (by omega) ?_ | refine lt_t (by omega) ?_ | refine lt_f (by omega) ?_ | refine gt_t (by omega) ?_ | refine gt_f (by omega) ?_ | refine ge_t (by omega) ?_ | refine ge_f (by omega) ?_ | refine le_t (by omega) ?_ | refine le_f (by omega) ?_)
  refine ld1_at h2 0 rfl rfl ?_
  refine lnS_rd h2 1 rfl (fun g hg => own_rd hg) ?_
  rw [hok.1]
  refine lt_c (fun c1 => iff_t ?_) (fun c1 => iff_f ?_)
  · obtain ⟨q, hq⟩ := get_of_lt (l := tabQ n Q) (j := i) (by rw [tab_len]; omega)
    obtain ⟨V, vs, v, hok, hv, h3⟩ := rnet_row h1 hq
    obtain ⟨_, hq16⟩ := rnet_any h1 hq
    repeat (first | refine gd_tt ?_ | refine gd_ff ?_ | refine gd_tf ?_ | refine gd_ft ?_ | refine gd_u ?_ | refine pk_t ?_ | refine pk_f ?_ | refine iff_t ?_ | refine iff_f ?_ | refine not_t ?_ | refine not_f ?_ | refine beq_s ?_ | refine bne_s ?_ | refine ncP_p ?_ | refine nc_p ?_ | refine fld_at ?_ | refine xt_02 ?_ | refine xt_12 ?_ | refine xt_03 ?_ | refine xt_13 ?_ | refine xt_23 ?_ | refine eq_t (by omega) ?_ | refine eq_f (by omega) ?_ | refine ne_t (by omega) ?_ | refine ne_f (by omega) ?_ | refine lt_t (by omega) ?_ | refine lt_f (by omega) ?_ | refine gt_t (by omega) ?_ | refine gt_f (by omega) ?_ | refine ge_t (by omega) ?_ | refine ge_f (by omega) ?_ | refine le_t (by omega) ?_ | refine le_f (by omega) ?_)
    refine ld1_at h3 0 rfl rfl ?_
    refine ixS_rd h3 1 rfl (fun g hg => own_rd hg) (fun _ => rfl) hv fun p hp => ?_
    refine ld1_of h3 1 rfl hp (v := v) rfl ?_
    refine lnS_rd h3 2 rfl (fun g hg => own_rd hg) ?_
    have hb : ((tabQ n Q).take i).flatten.length ≤ 1024 := by
      refine Nat.le_trans ?_ hall
      rw [← tab_flat]
      exact flat_take_le _ _
    refine add_s (by omega) (by omega) ?_
    refine inc_s (by omega) ?_
    refine hg _ _ _ _ (by omega) ⟨i + 1, by omega, rfl, ?_, rfl, h1⟩
    rw [take_snoc hq, List.flatten_append, List.length_append]
    simp
  · have ei : i = n * n := by omega
    subst ei
    rw [List.take_of_length_le (by rw [tab_len]; omega), tab_flat]
    exact hk _ h1
theorem ref10_Carried_s {r n : Nat} {room colour : Int} {Q : Nat → Nat → List Item} (hS : Sat e w (IsRNet r n room Q :: R)) (hk : ∀ w', Sat e w' (IsRNet r n room Q :: R) → K (.int .i64 (cntC colour (allQ n Q))) w') :
    Cl prog 22 #[.pointer (some ⟨r, 0, none⟩), .int .i64 colour] w K := by
  refine pacelineref10_Net_Carried_calls ?_
  unfold pacelineref10_Net_Carried
  obtain ⟨_, _, hok0, _⟩ := rnet_of hS
  have hall := hok0.all
  have hn8 := hok0.2.2.1
  have hnn : n * n ≤ 8 * 8 := Nat.mul_le_mul hn8 hn8
  refine lpi2 (fun q t5 t6 w => ∃ i : Nat, i ≤ n * n ∧ t6 = .int .i64 i ∧ t5 = .int .i64 (cntC colour ((tabQ n Q).take i).flatten) ∧ q = n * n - i ∧ Sat e w (IsRNet r n room Q :: R)) (n * n) ⟨0, Nat.zero_le _, rfl, rfl, rfl, hS⟩ ?_
  rintro q _ _ w g1 ⟨i, hi, rfl, rfl, rfl, h1⟩ hg
  obtain ⟨V, vs, hok, h2⟩ := rnet_of h1
  repeat (first | refine gd_tt ?_ | refine gd_ff ?_ | refine gd_tf ?_ | refine gd_ft ?_ | refine gd_u ?_ | refine pk_t ?_ | refine pk_f ?_ | refine iff_t ?_ | refine iff_f ?_ | refine not_t ?_ | refine not_f ?_ | refine beq_s ?_ | refine bne_s ?_ | refine ncP_p ?_ | refine nc_p ?_ | refine fld_at ?_ | refine xt_02 ?_ | refine xt_12 ?_ | refine xt_03 ?_ | refine xt_13 ?_ | refine xt_23 ?_ | refine eq_t (by omega) ?_ | refine eq_f (by omega) ?_ | refine ne_t (by omega) ?_ | refine ne_f (by omega) ?_ | refine lt_t (by omega) ?_ | refine lt_f (by omega) ?_ | refine gt_t (by omega) ?_ | refine gt_f (by omega) ?_ | refine ge_t (by omega) ?_ | refine ge_f (by omega) ?_ | refine le_t (by omega) ?_ | refine le_f (by omega) ?_)
  refine ld1_at h2 0 rfl rfl ?_
  refine lnS_rd h2 1 rfl (fun g hg => own_rd hg) ?_
  rw [hok.1]
  refine lt_c (fun c1 => iff_t ?_) (fun c1 => iff_f ?_)
  · obtain ⟨q, hq⟩ := get_of_lt (l := tabQ n Q) (j := i) (by rw [tab_len]; omega)
    obtain ⟨_, hq16⟩ := rnet_any h1 hq
    have hb : ∀ k, cntC colour (((tabQ n Q).take i).flatten ++ q.take k) ≤ 2048 := by
      intro k
      refine Nat.le_trans (cntC_le _ _) ?_
      rw [List.length_append, List.length_take]
      have : ((tabQ n Q).take i).flatten.length ≤ 1024 := by
        refine Nat.le_trans ?_ hall
        rw [← tab_flat]
        exact flat_take_le _ _
      omega
    refine lpi2 (fun m t5 t7 w => ∃ k : Nat, k ≤ q.length ∧ t7 = .int .i64 k ∧ t5 = .int .i64 (cntC colour (((tabQ n Q).take i).flatten ++ q.take k)) ∧ m = q.length - k ∧ Sat e w (IsRNet r n room Q :: R)) q.length ⟨0, Nat.zero_le _, rfl, by simp, rfl, h1⟩ ?_
    rintro m _ _ w g2 ⟨k, hk', rfl, rfl, rfl, h3⟩ hg2
    obtain ⟨V, vs, v, hok, hv, h4⟩ := rnet_row h3 hq
    repeat (first | refine gd_tt ?_ | refine gd_ff ?_ | refine gd_tf ?_ | refine gd_ft ?_ | refine gd_u ?_ | refine pk_t ?_ | refine pk_f ?_ | refine iff_t ?_ | refine iff_f ?_ | refine not_t ?_ | refine not_f ?_ | refine beq_s ?_ | refine bne_s ?_ | refine ncP_p ?_ | refine nc_p ?_ | refine fld_at ?_ | refine xt_02 ?_ | refine xt_12 ?_ | refine xt_03 ?_ | refine xt_13 ?_ | refine xt_23 ?_ | refine eq_t (by omega) ?_ | refine eq_f (by omega) ?_ | refine ne_t (by omega) ?_ | refine ne_f (by omega) ?_ | refine lt_t (by omega) ?_ | refine lt_f (by omega) ?_ | refine gt_t (by omega) ?_ | refine gt_f (by omega) ?_ | refine ge_t (by omega) ?_ | refine ge_f (by omega) ?_ | refine le_t (by omega) ?_ | refine le_f (by omega) ?_)
    refine ld1_at h4 0 rfl rfl ?_
    refine ixS_rd h4 1 rfl (fun g hg => own_rd hg) (fun _ => rfl) hv fun p hp => ?_
    refine ld1_of h4 1 rfl hp (v := v) rfl ?_
    refine lnS_rd h4 2 rfl (fun g hg => own_rd hg) ?_
    refine lt_c (fun c2 => iff_t ?_) (fun c2 => iff_f ?_)
    · obtain ⟨x, hx⟩ := get_of_lt (l := q) (j := k) (by omega)
      have hbk := hb k
      refine J1.cut (fun t5 w => t5 = .int .i64 (cntC colour (((tabQ n Q).take i).flatten ++ q.take (k + 1))) ∧ Sat e w (IsRNet r n room Q :: R)) (fun k3 hcut => ?_) ?_
      · rw [take_snoc hx, ← List.append_assoc, cntC_snoc] at hcut
        repeat (first | refine gd_tt ?_ | refine gd_ff ?_ | refine gd_tf ?_ | refine gd_ft ?_ | refine gd_u ?_ | refine pk_t ?_ | refine pk_f ?_ | refine iff_t ?_ | refine iff_f ?_ | refine not_t ?_ | refine not_f ?_ | refine beq_s ?_ | refine bne_s ?_ | refine ncP_p ?_ | refine nc_p ?_ | refine fld_at ?_ | refine xt_02 ?_ | refine xt_12 ?_ | refine xt_03 ?_ | refine xt_13 ?_ | refine xt_23 ?_ | refine eq_t (by omega) ?_ | refine eq_f (by omega) ?_ | refine ne_t (by omega) ?_ | refine ne_f (by omega) ?_ | refine lt_t (by omega) ?_ | refine lt_f (by omega) ?_ | refine gt_t (by omega) ?_ | refine gt_f (by omega) ?_ | refine ge_t (by omega) ?_ | refine ge_f (by omega) ?_ | refine le_t (by omega) ?_ | refine le_f (by omega) ?_)
        refine ld1_at h4 0 rfl rfl ?_
        refine ixS_rd h4 1 rfl (fun g hg => own_rd hg) (fun _ => rfl) hv fun p hp => ?_
        refine ld1_of h4 1 rfl hp (v := v) rfl ?_
        refine ixS_rd h4 2 rfl (fun g hg => own_rd hg) (fun _ => rfl) hx fun p hp => ?_
        refine fld_of hp fun p1 hp1 => ?_
        refine ld1_of h4 2 rfl hp1 (v := .int .i64 x.Kind) rfl ?_
        refine ne_c (fun c3 => ?_) (fun c3 => ?_)
        · refine gd_tt (gd_tt (nc_p ?_))
          repeat (first | refine gd_tt ?_ | refine gd_ff ?_ | refine gd_tf ?_ | refine gd_ft ?_ | refine gd_u ?_ | refine pk_t ?_ | refine pk_f ?_ | refine iff_t ?_ | refine iff_f ?_ | refine not_t ?_ | refine not_f ?_ | refine beq_s ?_ | refine bne_s ?_ | refine ncP_p ?_ | refine nc_p ?_ | refine fld_at ?_ | refine xt_02 ?_ | refine xt_12 ?_ | refine xt_03 ?_ | refine xt_13 ?_ | refine xt_23 ?_ | refine eq_t (by omega) ?_ | refine eq_f (by omega) ?_ | refine ne_t (by omega) ?_ | refine ne_f (by omega) ?_ | refine lt_t (by omega) ?_ | refine lt_f (by omega) ?_ | refine gt_t (by omega) ?_ | refine gt_f (by omega) ?_ | refine ge_t (by omega) ?_ | refine ge_f (by omega) ?_ | refine le_t (by omega) ?_ | refine le_f (by omega) ?_)
          refine ld1_at h4 0 rfl rfl ?_
          refine gd_tt (gd_tt (ixS_rd h4 1 rfl (fun g hg => own_rd hg) (fun _ => rfl) hv fun p hp => ?_))
          refine gd_tt (ld1_of h4 1 rfl hp (v := v) rfl ?_)
          refine gd_tt (gd_tt (ixS_rd h4 2 rfl (fun g hg => own_rd hg) (fun _ => rfl) hx fun p hp => ?_))
          refine gd_tt (fld_of hp fun p1 hp1 => ?_)
          refine gd_tt (ld1_of h4 2 rfl hp1 (v := .int .i64 x.Colour) rfl ?_)
          refine gd_tt (gd_tt (eq_c (fun c4 => ?_) (fun c4 => ?_)))
          · refine pk_t (iff_t (inc_s (by omega) ?_))
            refine hcut _ _ ⟨?_, h3⟩
            rw [if_pos ⟨c3, c4⟩]
          · refine pk_t (iff_f (hcut _ _ ⟨?_, h3⟩))
            rw [if_neg fun h => c4 h.2]; rfl
        · repeat (first | refine gd_tt ?_ | refine gd_ff ?_ | refine gd_tf ?_ | refine gd_ft ?_ | refine gd_u ?_ | refine pk_t ?_ | refine pk_f ?_ | refine iff_t ?_ | refine iff_f ?_ | refine not_t ?_ | refine not_f ?_ | refine beq_s ?_ | refine bne_s ?_ | refine ncP_p ?_ | refine nc_p ?_ | refine fld_at ?_ | refine xt_02 ?_ | refine xt_12 ?_ | refine xt_03 ?_ | refine xt_13 ?_ | refine xt_23 ?_ | refine eq_t (by omega) ?_ | refine eq_f (by omega) ?_ | refine ne_t (by omega) ?_ | refine ne_f (by omega) ?_ | refine lt_t (by omega) ?_ | refine lt_f (by omega) ?_ | refine gt_t (by omega) ?_ | refine gt_f (by omega) ?_ | refine ge_t (by omega) ?_ | refine ge_f (by omega) ?_ | refine le_t (by omega) ?_ | refine le_f (by omega) ?_)
          refine hcut _ _ ⟨?_, h3⟩
          rw [if_neg fun h => h.1 c3]; rfl
      · rintro _ w ⟨rfl, h5⟩
        refine inc_s (by omega) ?_
        exact hg2 _ _ _ _ (by omega) ⟨k + 1, by omega, rfl, rfl, rfl, h5⟩
    · have ek : k = q.length := by omega
      subst ek
      refine inc_s (by omega) ?_
      refine hg _ _ _ _ (by omega) ⟨i + 1, by omega, rfl, ?_, rfl, h3⟩
      rw [take_snoc hq, List.flatten_append, List.take_length]
      simp
  · have ei : i = n * n := by omega
    subst ei
    rw [List.take_of_length_le (by rw [tab_len]; omega), tab_flat]
    exact hk _ h1
theorem ref10_Least_s {r n : Nat} {room : Int} {Q : Nat → Nat → List Item} (hS : Sat e w (IsRNet r n room Q :: R)) (hk : ∀ w', Sat e w' (IsRNet r n room Q :: R) → K (.int .i64 (leastT (timesC (allQ n Q)))) w') :
    Cl prog 23 #[.pointer (some ⟨r, 0, none⟩)] w K := by
  refine pacelineref10_Net_Least_calls ?_
  unfold pacelineref10_Net_Least
  obtain ⟨_, _, hok0, _⟩ := rnet_of hS
  have hall := hok0.all
  have hn8 := hok0.2.2.1
  have hnn : n * n ≤ 8 * 8 := Nat.mul_le_mul hn8 hn8
  refine bsl0 hS (intsK .i64) fun t0 w0 h0 => ?_
  refine lpi2 (fun q t3 t4 w => ∃ i : Nat, i ≤ n * n ∧ t4 = .int .i64 i ∧ q = n * n - i ∧ Sat e w (ownS 3 1 (intsK .i64) t3 (timesC ((tabQ n Q).take i).flatten) :: IsRNet r n room Q :: R)) (n * n) ⟨0, Nat.zero_le _, rfl, rfl, h0⟩ ?_
  rintro q t3 _ w g1 ⟨i, hi, rfl, rfl, h1⟩ hg
  obtain ⟨V, vs, hok, h2⟩ := rnet_of h1.swap
  repeat (first | refine gd_tt ?_ | refine gd_ff ?_ | refine gd_tf ?_ | refine gd_ft ?_ | refine gd_u ?_ | refine pk_t ?_ | refine pk_f ?_ | refine iff_t ?_ | refine iff_f ?_ | refine not_t ?_ | refine not_f ?_ | refine beq_s ?_ | refine bne_s ?_ | refine ncP_p ?_ | refine nc_p ?_ | refine fld_at ?_ | refine xt_02 ?_ | refine xt_12 ?_ | refine xt_03 ?_ | refine xt_13 ?_ | refine xt_23 ?_ | refine eq_t (by omega) ?_ | refine eq_f (by omega) ?_ | refine ne_t (by omega) ?_ | refine ne_f (by omega) ?_ | refine lt_t (by omega) ?_ | refine lt_f (by omega) ?_ | refine gt_t (by omega) ?_ | refine gt_f (by omega) ?_ | refine ge_t (by omega) ?_ | refine ge_f (by omega) ?_ | refine le_t (by omega) ?_ | refine le_f (by omega) ?_)
  refine ld1_at h2 0 rfl rfl ?_
  refine lnS_rd h2 1 rfl (fun g hg => own_rd hg) ?_
  rw [hok.1]
  refine lt_c (fun c1 => iff_t ?_) (fun c1 => iff_f ?_)
  · obtain ⟨q, hq⟩ := get_of_lt (l := tabQ n Q) (j := i) (by rw [tab_len]; omega)
    obtain ⟨_, hq16⟩ := rnet_any h1.swap hq
    have hb : ∀ k, (timesC (((tabQ n Q).take i).flatten ++ q.take k)).length ≤ 2048 := by
      intro k
      refine Nat.le_trans (timesC_le _) ?_
      rw [List.length_append, List.length_take]
      have : ((tabQ n Q).take i).flatten.length ≤ 1024 := by
        refine Nat.le_trans ?_ hall
        rw [← tab_flat]
        exact flat_take_le _ _
      omega
    refine lpi2 (fun m t3 t5 w => ∃ k : Nat, k ≤ q.length ∧ t5 = .int .i64 k ∧ m = q.length - k ∧ Sat e w (ownS 3 1 (intsK .i64) t3 (timesC (((tabQ n Q).take i).flatten ++ q.take k)) :: IsRNet r n room Q :: R)) q.length ⟨0, Nat.zero_le _, rfl, rfl, by simpa using h1⟩ ?_
    rintro m t3 _ w g2 ⟨k, hk', rfl, rfl, h3⟩ hg2
    obtain ⟨V, vs, v, hok, hv, h4⟩ := rnet_row h3.swap hq
    repeat (first | refine gd_tt ?_ | refine gd_ff ?_ | refine gd_tf ?_ | refine gd_ft ?_ | refine gd_u ?_ | refine pk_t ?_ | refine pk_f ?_ | refine iff_t ?_ | refine iff_f ?_ | refine not_t ?_ | refine not_f ?_ | refine beq_s ?_ | refine bne_s ?_ | refine ncP_p ?_ | refine nc_p ?_ | refine fld_at ?_ | refine xt_02 ?_ | refine xt_12 ?_ | refine xt_03 ?_ | refine xt_13 ?_ | refine xt_23 ?_ | refine eq_t (by omega) ?_ | refine eq_f (by omega) ?_ | refine ne_t (by omega) ?_ | refine ne_f (by omega) ?_ | refine lt_t (by omega) ?_ | refine lt_f (by omega) ?_ | refine gt_t (by omega) ?_ | refine gt_f (by omega) ?_ | refine ge_t (by omega) ?_ | refine ge_f (by omega) ?_ | refine le_t (by omega) ?_ | refine le_f (by omega) ?_)
    refine ld1_at h4 0 rfl rfl ?_
    refine ixS_rd h4 1 rfl (fun g hg => own_rd hg) (fun _ => rfl) hv fun p hp => ?_
    refine ld1_of h4 1 rfl hp (v := v) rfl ?_
    refine lnS_rd h4 2 rfl (fun g hg => own_rd hg) ?_
    refine lt_c (fun c2 => iff_t ?_) (fun c2 => iff_f ?_)
    · obtain ⟨x, hx⟩ := get_of_lt (l := q) (j := k) (by omega)
      have hbk := hb k
      refine J1.cut (fun t3 w => Sat e w (ownS 3 1 (intsK .i64) t3 (timesC (((tabQ n Q).take i).flatten ++ q.take (k + 1))) :: IsRNet r n room Q :: R)) (fun k3 hcut => ?_) (fun t3 w h5 => ?_)
      · rw [take_snoc hx, ← List.append_assoc, timesC_snoc] at hcut
        repeat (first | refine gd_tt ?_ | refine gd_ff ?_ | refine gd_tf ?_ | refine gd_ft ?_ | refine gd_u ?_ | refine pk_t ?_ | refine pk_f ?_ | refine iff_t ?_ | refine iff_f ?_ | refine not_t ?_ | refine not_f ?_ | refine beq_s ?_ | refine bne_s ?_ | refine ncP_p ?_ | refine nc_p ?_ | refine fld_at ?_ | refine xt_02 ?_ | refine xt_12 ?_ | refine xt_03 ?_ | refine xt_13 ?_ | refine xt_23 ?_ | refine eq_t (by omega) ?_ | refine eq_f (by omega) ?_ | refine ne_t (by omega) ?_ | refine ne_f (by omega) ?_ | refine lt_t (by omega) ?_ | refine lt_f (by omega) ?_ | refine gt_t (by omega) ?_ | refine gt_f (by omega) ?_ | refine ge_t (by omega) ?_ | refine ge_f (by omega) ?_ | refine le_t (by omega) ?_ | refine le_f (by omega) ?_)
        refine ld1_at h4 0 rfl rfl ?_
        refine ixS_rd h4 1 rfl (fun g hg => own_rd hg) (fun _ => rfl) hv fun p hp => ?_
        refine ld1_of h4 1 rfl hp (v := v) rfl ?_
        refine ixS_rd h4 2 rfl (fun g hg => own_rd hg) (fun _ => rfl) hx fun p hp => ?_
        refine fld_of hp fun p1 hp1 => ?_
        refine ld1_of h4 2 rfl hp1 (v := .int .i64 x.Kind) rfl ?_
        refine ne_c (fun c3 => iff_t ?_) (fun c3 => iff_f ?_)
        · rw [if_pos c3] at hcut
          repeat (first | refine gd_tt ?_ | refine gd_ff ?_ | refine gd_tf ?_ | refine gd_ft ?_ | refine gd_u ?_ | refine pk_t ?_ | refine pk_f ?_ | refine iff_t ?_ | refine iff_f ?_ | refine not_t ?_ | refine not_f ?_ | refine beq_s ?_ | refine bne_s ?_ | refine ncP_p ?_ | refine nc_p ?_ | refine fld_at ?_ | refine xt_02 ?_ | refine xt_12 ?_ | refine xt_03 ?_ | refine xt_13 ?_ | refine xt_23 ?_ | refine eq_t (by omega) ?_ | refine eq_f (by omega) ?_ | refine ne_t (by omega) ?_ | refine ne_f (by omega) ?_ | refine lt_t (by omega) ?_ | refine lt_f (by omega) ?_ | refine gt_t (by omega) ?_ | refine gt_f (by omega) ?_ | refine ge_t (by omega) ?_ | refine ge_f (by omega) ?_ | refine le_t (by omega) ?_ | refine le_f (by omega) ?_)
          refine ld1_at h4 0 rfl rfl ?_
          refine ixS_rd h4 1 rfl (fun g hg => own_rd hg) (fun _ => rfl) hv fun p hp => ?_
          refine ld1_of h4 1 rfl hp (v := v) rfl ?_
          refine ixS_rd h4 2 rfl (fun g hg => own_rd hg) (fun _ => rfl) hx fun p hp => ?_
          refine fld_of hp fun p1 hp1 => ?_
          refine fld_of hp1 fun p2 hp2 => ?_
          refine fld_of hp2 fun p3 hp3 => ?_
          refine ld1_of h4 2 rfl hp3 (v := .int .i64 x.m.key.T) rfl ?_
          exact push1 te_61 (f := intsK .i64) (fun _ => rfl) (fun _ _ h => by simp [intsK] at h; subst h; rfl) h3 (x := x.m.key.T) rfl (by omega) fun v' w8 h9 => hcut _ _ h9
        · rw [if_neg (fun h => h c3), List.append_nil] at hcut
          exact hcut _ _ h3
      · refine inc_s (by omega) ?_
        exact hg2 _ _ _ _ (by omega) ⟨k + 1, by omega, rfl, rfl, h5⟩
    · have ek : k = q.length := by omega
      subst ek
      refine inc_s (by omega) ?_
      refine hg _ _ _ _ (by omega) ⟨i + 1, by omega, rfl, rfl, ?_⟩
      rw [take_snoc hq, List.flatten_append]
      rw [List.take_length] at h3
      simpa using h3
  · have ei : i = n * n := by omega
    subst ei
    rw [List.take_of_length_le (by rw [tab_len]; omega), tab_flat] at h1
    refine ref01_Least_s h1 (fun g hg => own_rd hg) (Nat.le_trans (timesC_le _) (by omega)) fun w8 h8 => ?_
    exact hk _ h8.drop

theorem fill_rnet {a b : Int} {A : Option Addr} {m c : Nat} : Instr.fill ((#[(0, 1), (1, 1), (2, 1)] : Array (Nat × Nat))[·]?) (zeroD prog 65) [(0, .int .i64 a), (1, .int .i64 b), (2, .slice A m c)] = some [.int .i64 a, .int .i64 b, .slice A m c].toArray := by kernel_rfl
theorem ref10_New_s {n : Nat} {room : Int} (h1 : 1 ≤ n) (h2 : n ≤ 8) (h3 : 1 ≤ room) (h4 : room ≤ 16) (hS : Sat e w R)
    (hk : ∀ r w', Sat e w' (IsRNet r n room (fun _ _ => []) :: R) → K (.tuple #[.pointer (some ⟨r, 0, none⟩), .int .i64 0]) w') : Cl prog 13 #[.int .i64 n, .int .i64 room] w K := by
  refine pacelineref10_New_calls ?_
  unfold pacelineref10_New
  have hnn : n * n ≤ 8 * 8 := Nat.mul_le_mul h2 h2
  have hc : ((n * n : Nat) : Int) = (n : Int) * n := Int.natCast_mul n n
  repeat (first | refine gd_tt ?_ | refine gd_ff ?_ | refine gd_tf ?_ | refine gd_ft ?_ | refine gd_u ?_ | refine pk_t ?_ | refine pk_f ?_ | refine iff_t ?_ | refine iff_f ?_ | refine not_t ?_ | refine not_f ?_ | refine beq_s ?_ | refine bne_s ?_ | refine ncP_p ?_ | refine nc_p ?_ | refine fld_at ?_ | refine xt_02 ?_ | refine xt_12 ?_ | refine xt_03 ?_ | refine xt_13 ?_ | refine xt_23 ?_ | refine eq_t (by omega) ?_ | refine eq_f (by omega) ?_ | refine ne_t (by omega) ?_ | refine ne_f (by omega) ?_ | refine lt_t (by omega) ?_ | refine lt_f (by omega) ?_ | refine gt_t (by omega) ?_ | refine gt_f (by omega) ?_ | refine ge_t (by omega) ?_ | refine ge_f (by omega) ?_ | refine le_t (by omega) ?_ | refine le_f (by omega) ?_)
  refine mul_s (by omega) (by omega) ?_
  rw [← hc]
  refine mkS_own te_63 (n := n * n) (by omega) hS one1 (fun _ => rfl) (.slice none 0 0) (by rw [zero_27]) fun V w1 h5 => ?_
  refine bld_s [.int .i64 n, .int .i64 room, V] ?_ ?_
  · obtain ⟨A, c, rfl, _⟩ := h5.shape 0 rfl (fun g hg => own_rd hg)
    exact fill_rnet
  refine al_s (cs := [.int .i64 n, .int .i64 room, V]) h5 rfl fun r w2 h6 => ?_
  refine hk _ _ (rnet_mk ⟨by simp, h1, h2, h3, h4, fun a b _ _ => by simp; omega⟩ (?_ : Sat e w2 (blk r 65 [.int .i64 n, .int .i64 room, V] :: ownS 27 1 one1 V (List.replicate (n * n) (.slice none 0 0)) :: sepL (rowsI (List.replicate (n * n) (.slice none 0 0)) (tabQ n (fun _ _ => []))) :: R)))
  have hrow : tabQ n (fun _ _ => []) = List.replicate (n * n) [] := by
    unfold tabQ
    apply List.ext_getElem
    · simp
    · intro i h1 h2; simp
  rw [hrow]
  have key : ∀ m, Sat e w2 (blk r 65 [.int .i64 n, .int .i64 room, V] :: ownS 27 1 one1 V (List.replicate (n * n) (.slice none 0 0)) :: R) → Sat e w2 (rowsI (List.replicate m (.slice none 0 0)) (List.replicate m []) ++ (blk r 65 [.int .i64 n, .int .i64 room, V] :: ownS 27 1 one1 V (List.replicate (n * n) (.slice none 0 0)) :: R)) := by
    intro m
    induction m with
    | zero => exact fun h => h
    | succ m ih => exact fun h => (ih h).own_nil 33 8 Item.cs
  exact (Sat.join (key (n * n) h6)).selR [_, _, _] [_, _, _] [1, 2, 0] (by decide) rfl
def badN (n room : Int) : Prop := n < 1 ∨ 8 < n ∨ room < 1 ∨ 16 < room
theorem ref10_New_bad {n room : Int} (h : badN n room) (hk : K (.tuple #[.pointer none, .int .i64 1]) w) : Cl prog 13 #[.int .i64 n, .int .i64 room] w K := by
  refine pacelineref10_New_calls ?_
  unfold pacelineref10_New
  unfold badN at h
  by_cases c1 : n < 1
  · repeat (first | refine gd_tt ?_ | refine gd_ff ?_ | refine gd_tf ?_ | refine gd_ft ?_ | refine gd_u ?_ | refine pk_t ?_ | refine pk_f ?_ | refine iff_t ?_ | refine iff_f ?_ | refine not_t ?_ | refine not_f ?_ | refine beq_s ?_ | refine bne_s ?_ | refine ncP_p ?_ | refine nc_p ?_ | refine fld_at ?_ | refine xt_02 ?_ | refine xt_12 ?_ | refine xt_03 ?_ | refine xt_13 ?_ | refine xt_23 ?_ | refine eq_t (by omega) ?_ | refine eq_f (by omega) ?_ | refine ne_t (by omega) ?_ | refine ne_f (by omega) ?_ | refine lt_t (by omega) ?_ | refine lt_f (by omega) ?_ | refine gt_t (by omega) ?_ | refine gt_f (by omega) ?_ | refine ge_t (by omega) ?_ | refine ge_f (by omega) ?_ | refine le_t (by omega) ?_ | refine le_f (by omega) ?_)
    exact hk
  · by_cases c2 : 8 < n
    · repeat (first | refine gd_tt ?_ | refine gd_ff ?_ | refine gd_tf ?_ | refine gd_ft ?_ | refine gd_u ?_ | refine pk_t ?_ | refine pk_f ?_ | refine iff_t ?_ | refine iff_f ?_ | refine not_t ?_ | refine not_f ?_ | refine beq_s ?_ | refine bne_s ?_ | refine ncP_p ?_ | refine nc_p ?_ | refine fld_at ?_ | refine xt_02 ?_ | refine xt_12 ?_ | refine xt_03 ?_ | refine xt_13 ?_ | refine xt_23 ?_ | refine eq_t (by omega) ?_ | refine eq_f (by omega) ?_ | refine ne_t (by omega) ?_ | refine ne_f (by omega) ?_ | refine lt_t (by omega) ?_ | refine lt_f (by omega) ?_ | refine gt_t (by omega) ?_ | refine gt_f (by omega) ?_ | refine ge_t (by omega) ?_ | refine ge_f (by omega) ?_ | refine le_t (by omega) ?_ | refine le_f (by omega) ?_)
      exact hk
    · by_cases c3 : room < 1
      · repeat (first | refine gd_tt ?_ | refine gd_ff ?_ | refine gd_tf ?_ | refine gd_ft ?_ | refine gd_u ?_ | refine pk_t ?_ | refine pk_f ?_ | refine iff_t ?_ | refine iff_f ?_ | refine not_t ?_ | refine not_f ?_ | refine beq_s ?_ | refine bne_s ?_ | refine ncP_p ?_ | refine nc_p ?_ | refine fld_at ?_ | refine xt_02 ?_ | refine xt_12 ?_ | refine xt_03 ?_ | refine xt_13 ?_ | refine xt_23 ?_ | refine eq_t (by omega) ?_ | refine eq_f (by omega) ?_ | refine ne_t (by omega) ?_ | refine ne_f (by omega) ?_ | refine lt_t (by omega) ?_ | refine lt_f (by omega) ?_ | refine gt_t (by omega) ?_ | refine gt_f (by omega) ?_ | refine ge_t (by omega) ?_ | refine ge_f (by omega) ?_ | refine le_t (by omega) ?_ | refine le_f (by omega) ?_)
        exact hk
      · repeat (first | refine gd_tt ?_ | refine gd_ff ?_ | refine gd_tf ?_ | refine gd_ft ?_ | refine gd_u ?_ | refine pk_t ?_ | refine pk_f ?_ | refine iff_t ?_ | refine iff_f ?_ | refine not_t ?_ | refine not_f ?_ | refine beq_s ?_ | refine bne_s ?_ | refine ncP_p ?_ | refine nc_p ?_ | refine fld_at ?_ | refine xt_02 ?_ | refine xt_12 ?_ | refine xt_03 ?_ | refine xt_13 ?_ | refine xt_23 ?_ | refine eq_t (by omega) ?_ | refine eq_f (by omega) ?_ | refine ne_t (by omega) ?_ | refine ne_f (by omega) ?_ | refine lt_t (by omega) ?_ | refine lt_f (by omega) ?_ | refine gt_t (by omega) ?_ | refine gt_f (by omega) ?_ | refine ge_t (by omega) ?_ | refine ge_f (by omega) ?_ | refine le_t (by omega) ?_ | refine le_f (by omega) ?_)
        exact hk
theorem link_New_bad {n room : Int} (h : badN n room) (hk : K (.tuple #[.pointer none, .int .i64 1]) w) : Cl prog 6 #[.int .i64 n, .int .i64 room] w K := by
  refine link_New_calls ?_
  unfold link_New
  unfold badN at h
  by_cases c1 : n < 1
  · repeat (first | refine gd_tt ?_ | refine gd_ff ?_ | refine gd_tf ?_ | refine gd_ft ?_ | refine gd_u ?_ | refine pk_t ?_ | refine pk_f ?_ | refine iff_t ?_ | refine iff_f ?_ | refine not_t ?_ | refine not_f ?_ | refine beq_s ?_ | refine bne_s ?_ | refine ncP_p ?_ | refine nc_p ?_ | refine fld_at ?_ | refine xt_02 ?_ | refine xt_12 ?_ | refine xt_03 ?_ | refine xt_13 ?_ | refine xt_23 ?_ | refine eq_t (by omega) ?_ | refine eq_f (by omega) ?_ | refine ne_t (by omega) ?_ | refine ne_f (by omega) ?_ | refine lt_t (by omega) ?_ | refine lt_f (by omega) ?_ | refine gt_t (by omega) ?_ | refine gt_f (by omega) ?_ | refine ge_t (by omega) ?_ | refine ge_f (by omega) ?_ | refine le_t (by omega) ?_ | refine le_f (by omega) ?_)
    exact hk
  · by_cases c2 : 8 < n
    · repeat (first | refine gd_tt ?_ | refine gd_ff ?_ | refine gd_tf ?_ | refine gd_ft ?_ | refine gd_u ?_ | refine pk_t ?_ | refine pk_f ?_ | refine iff_t ?_ | refine iff_f ?_ | refine not_t ?_ | refine not_f ?_ | refine beq_s ?_ | refine bne_s ?_ | refine ncP_p ?_ | refine nc_p ?_ | refine fld_at ?_ | refine xt_02 ?_ | refine xt_12 ?_ | refine xt_03 ?_ | refine xt_13 ?_ | refine xt_23 ?_ | refine eq_t (by omega) ?_ | refine eq_f (by omega) ?_ | refine ne_t (by omega) ?_ | refine ne_f (by omega) ?_ | refine lt_t (by omega) ?_ | refine lt_f (by omega) ?_ | refine gt_t (by omega) ?_ | refine gt_f (by omega) ?_ | refine ge_t (by omega) ?_ | refine ge_f (by omega) ?_ | refine le_t (by omega) ?_ | refine le_f (by omega) ?_)
      exact hk
    · by_cases c3 : room < 1
      · repeat (first | refine gd_tt ?_ | refine gd_ff ?_ | refine gd_tf ?_ | refine gd_ft ?_ | refine gd_u ?_ | refine pk_t ?_ | refine pk_f ?_ | refine iff_t ?_ | refine iff_f ?_ | refine not_t ?_ | refine not_f ?_ | refine beq_s ?_ | refine bne_s ?_ | refine ncP_p ?_ | refine nc_p ?_ | refine fld_at ?_ | refine xt_02 ?_ | refine xt_12 ?_ | refine xt_03 ?_ | refine xt_13 ?_ | refine xt_23 ?_ | refine eq_t (by omega) ?_ | refine eq_f (by omega) ?_ | refine ne_t (by omega) ?_ | refine ne_f (by omega) ?_ | refine lt_t (by omega) ?_ | refine lt_f (by omega) ?_ | refine gt_t (by omega) ?_ | refine gt_f (by omega) ?_ | refine ge_t (by omega) ?_ | refine ge_f (by omega) ?_ | refine le_t (by omega) ?_ | refine le_f (by omega) ?_)
        exact hk
      · repeat (first | refine gd_tt ?_ | refine gd_ff ?_ | refine gd_tf ?_ | refine gd_ft ?_ | refine gd_u ?_ | refine pk_t ?_ | refine pk_f ?_ | refine iff_t ?_ | refine iff_f ?_ | refine not_t ?_ | refine not_f ?_ | refine beq_s ?_ | refine bne_s ?_ | refine ncP_p ?_ | refine nc_p ?_ | refine fld_at ?_ | refine xt_02 ?_ | refine xt_12 ?_ | refine xt_03 ?_ | refine xt_13 ?_ | refine xt_23 ?_ | refine eq_t (by omega) ?_ | refine eq_f (by omega) ?_ | refine ne_t (by omega) ?_ | refine ne_f (by omega) ?_ | refine lt_t (by omega) ?_ | refine lt_f (by omega) ?_ | refine gt_t (by omega) ?_ | refine gt_f (by omega) ?_ | refine ge_t (by omega) ?_ | refine ge_f (by omega) ?_ | refine le_t (by omega) ?_ | refine le_f (by omega) ?_)
        exact hk
theorem ref10_Send_s {r n : Nat} {room a b : Int} {Q : Nat → Nat → List Item} {x : Item} (hS : Sat e w (IsRNet r n room Q :: R)) (hk : ∀ w', Sat e w' (IsRNet r n room (sendQ n room Q a b x) :: R) → K (.int .i64 (sendE n room Q a b x)) w') :
    Cl prog 14 #[.pointer (some ⟨r, 0, none⟩), .int .i64 a, .int .i64 b, .agg x.cs.toArray] w K := by
  refine pacelineref10_Net_Send_calls ?_
  unfold pacelineref10_Net_Send
  refine al_s (cs := x.cs) hS rfl fun t w1 h1 => ?_
  obtain ⟨V, vs, hok, h2⟩ := rnet_of h1.swap
  refine ref10_is_s h2 ?_
  have hbad : sendBad n a b x → K (.int .i64 1) w1 := by
    intro hb
    have e1 : sendE n room Q a b x = 1 := if_pos hb
    have := hk w1
    rw [e1, sendQ_bad (by rw [e1]; decide)] at this
    exact this h1.drop
  by_cases ho : okL n a b
  · rw [decide_eq_true ho]
    refine not_t ?_
    repeat (first | refine gd_tt ?_ | refine gd_ff ?_ | refine gd_tf ?_ | refine gd_ft ?_ | refine gd_u ?_ | refine pk_t ?_ | refine pk_f ?_ | refine iff_t ?_ | refine iff_f ?_ | refine not_t ?_ | refine not_f ?_ | refine beq_s ?_ | refine bne_s ?_ | refine ncP_p ?_ | refine nc_p ?_ | refine fld_at ?_ | refine xt_02 ?_ | refine xt_12 ?_ | refine xt_03 ?_ | refine xt_13 ?_ | refine xt_23 ?_ | refine eq_t (by omega) ?_ | refine eq_f (by omega) ?_ | refine ne_t (by omega) ?_ | refine ne_f (by omega) ?_ | refine lt_t (by omega) ?_ | refine lt_f (by omega) ?_ | refine gt_t (by omega) ?_ | refine gt_f (by omega) ?_ | refine ge_t (by omega) ?_ | refine ge_f (by omega) ?_ | refine le_t (by omega) ?_ | refine le_f (by omega) ?_)
    refine ld1_at h1 0 rfl (v := .int .i64 x.Kind) rfl ?_
    by_cases c1 : x.Kind < 0
    · repeat (first | refine gd_tt ?_ | refine gd_ff ?_ | refine gd_tf ?_ | refine gd_ft ?_ | refine gd_u ?_ | refine pk_t ?_ | refine pk_f ?_ | refine iff_t ?_ | refine iff_f ?_ | refine not_t ?_ | refine not_f ?_ | refine beq_s ?_ | refine bne_s ?_ | refine ncP_p ?_ | refine nc_p ?_ | refine fld_at ?_ | refine xt_02 ?_ | refine xt_12 ?_ | refine xt_03 ?_ | refine xt_13 ?_ | refine xt_23 ?_ | refine eq_t (by omega) ?_ | refine eq_f (by omega) ?_ | refine ne_t (by omega) ?_ | refine ne_f (by omega) ?_ | refine lt_t (by omega) ?_ | refine lt_f (by omega) ?_ | refine gt_t (by omega) ?_ | refine gt_f (by omega) ?_ | refine ge_t (by omega) ?_ | refine ge_f (by omega) ?_ | refine le_t (by omega) ?_ | refine le_f (by omega) ?_)
      exact hbad (.inr (.inl c1))
    refine gd_ff (lt_f c1 ?_)
    repeat (first | refine gd_tt ?_ | refine gd_ff ?_ | refine gd_tf ?_ | refine gd_ft ?_ | refine gd_u ?_ | refine pk_t ?_ | refine pk_f ?_ | refine iff_t ?_ | refine iff_f ?_ | refine not_t ?_ | refine not_f ?_ | refine beq_s ?_ | refine bne_s ?_ | refine ncP_p ?_ | refine nc_p ?_ | refine fld_at ?_ | refine xt_02 ?_ | refine xt_12 ?_ | refine xt_03 ?_ | refine xt_13 ?_ | refine xt_23 ?_ | refine eq_t (by omega) ?_ | refine eq_f (by omega) ?_ | refine ne_t (by omega) ?_ | refine ne_f (by omega) ?_ | refine lt_t (by omega) ?_ | refine lt_f (by omega) ?_ | refine gt_t (by omega) ?_ | refine gt_f (by omega) ?_ | refine ge_t (by omega) ?_ | refine ge_f (by omega) ?_ | refine le_t (by omega) ?_ | refine le_f (by omega) ?_)
    refine ld1_at h1 0 rfl (v := .int .i64 x.Kind) rfl ?_
    by_cases c2 : 2 < x.Kind
    · repeat (first | refine gd_tt ?_ | refine gd_ff ?_ | refine gd_tf ?_ | refine gd_ft ?_ | refine gd_u ?_ | refine pk_t ?_ | refine pk_f ?_ | refine iff_t ?_ | refine iff_f ?_ | refine not_t ?_ | refine not_f ?_ | refine beq_s ?_ | refine bne_s ?_ | refine ncP_p ?_ | refine nc_p ?_ | refine fld_at ?_ | refine xt_02 ?_ | refine xt_12 ?_ | refine xt_03 ?_ | refine xt_13 ?_ | refine xt_23 ?_ | refine eq_t (by omega) ?_ | refine eq_f (by omega) ?_ | refine ne_t (by omega) ?_ | refine ne_f (by omega) ?_ | refine lt_t (by omega) ?_ | refine lt_f (by omega) ?_ | refine gt_t (by omega) ?_ | refine gt_f (by omega) ?_ | refine ge_t (by omega) ?_ | refine ge_f (by omega) ?_ | refine le_t (by omega) ?_ | refine le_f (by omega) ?_)
      exact hbad (.inr (.inr (.inl c2)))
    refine gd_ff (gt_f c2 ?_)
    repeat (first | refine gd_tt ?_ | refine gd_ff ?_ | refine gd_tf ?_ | refine gd_ft ?_ | refine gd_u ?_ | refine pk_t ?_ | refine pk_f ?_ | refine iff_t ?_ | refine iff_f ?_ | refine not_t ?_ | refine not_f ?_ | refine beq_s ?_ | refine bne_s ?_ | refine ncP_p ?_ | refine nc_p ?_ | refine fld_at ?_ | refine xt_02 ?_ | refine xt_12 ?_ | refine xt_03 ?_ | refine xt_13 ?_ | refine xt_23 ?_ | refine eq_t (by omega) ?_ | refine eq_f (by omega) ?_ | refine ne_t (by omega) ?_ | refine ne_f (by omega) ?_ | refine lt_t (by omega) ?_ | refine lt_f (by omega) ?_ | refine gt_t (by omega) ?_ | refine gt_f (by omega) ?_ | refine ge_t (by omega) ?_ | refine ge_f (by omega) ?_ | refine le_t (by omega) ?_ | refine le_f (by omega) ?_)
    refine ld1_at h1 0 rfl (v := .int .i64 x.Colour) rfl ?_
    by_cases c3 : x.Colour < 0
    · repeat (first | refine gd_tt ?_ | refine gd_ff ?_ | refine gd_tf ?_ | refine gd_ft ?_ | refine gd_u ?_ | refine pk_t ?_ | refine pk_f ?_ | refine iff_t ?_ | refine iff_f ?_ | refine not_t ?_ | refine not_f ?_ | refine beq_s ?_ | refine bne_s ?_ | refine ncP_p ?_ | refine nc_p ?_ | refine fld_at ?_ | refine xt_02 ?_ | refine xt_12 ?_ | refine xt_03 ?_ | refine xt_13 ?_ | refine xt_23 ?_ | refine eq_t (by omega) ?_ | refine eq_f (by omega) ?_ | refine ne_t (by omega) ?_ | refine ne_f (by omega) ?_ | refine lt_t (by omega) ?_ | refine lt_f (by omega) ?_ | refine gt_t (by omega) ?_ | refine gt_f (by omega) ?_ | refine ge_t (by omega) ?_ | refine ge_f (by omega) ?_ | refine le_t (by omega) ?_ | refine le_f (by omega) ?_)
      exact hbad (.inr (.inr (.inr (by omega))))
    refine gd_ff (lt_f c3 ?_)
    repeat (first | refine gd_tt ?_ | refine gd_ff ?_ | refine gd_tf ?_ | refine gd_ft ?_ | refine gd_u ?_ | refine pk_t ?_ | refine pk_f ?_ | refine iff_t ?_ | refine iff_f ?_ | refine not_t ?_ | refine not_f ?_ | refine beq_s ?_ | refine bne_s ?_ | refine ncP_p ?_ | refine nc_p ?_ | refine fld_at ?_ | refine xt_02 ?_ | refine xt_12 ?_ | refine xt_03 ?_ | refine xt_13 ?_ | refine xt_23 ?_ | refine eq_t (by omega) ?_ | refine eq_f (by omega) ?_ | refine ne_t (by omega) ?_ | refine ne_f (by omega) ?_ | refine lt_t (by omega) ?_ | refine lt_f (by omega) ?_ | refine gt_t (by omega) ?_ | refine gt_f (by omega) ?_ | refine ge_t (by omega) ?_ | refine ge_f (by omega) ?_ | refine le_t (by omega) ?_ | refine le_f (by omega) ?_)
    refine ld1_at h1 0 rfl (v := .int .i64 x.Colour) rfl ?_
    by_cases c4 : 1 < x.Colour
    · repeat (first | refine gd_tt ?_ | refine gd_ff ?_ | refine gd_tf ?_ | refine gd_ft ?_ | refine gd_u ?_ | refine pk_t ?_ | refine pk_f ?_ | refine iff_t ?_ | refine iff_f ?_ | refine not_t ?_ | refine not_f ?_ | refine beq_s ?_ | refine bne_s ?_ | refine ncP_p ?_ | refine nc_p ?_ | refine fld_at ?_ | refine xt_02 ?_ | refine xt_12 ?_ | refine xt_03 ?_ | refine xt_13 ?_ | refine xt_23 ?_ | refine eq_t (by omega) ?_ | refine eq_f (by omega) ?_ | refine ne_t (by omega) ?_ | refine ne_f (by omega) ?_ | refine lt_t (by omega) ?_ | refine lt_f (by omega) ?_ | refine gt_t (by omega) ?_ | refine gt_f (by omega) ?_ | refine ge_t (by omega) ?_ | refine ge_f (by omega) ?_ | refine le_t (by omega) ?_ | refine le_f (by omega) ?_)
      exact hbad (.inr (.inr (.inr (by omega))))
    refine gd_ff (gt_f c4 ?_)
    repeat (first | refine gd_tt ?_ | refine gd_ff ?_ | refine gd_tf ?_ | refine gd_ft ?_ | refine gd_u ?_ | refine pk_t ?_ | refine pk_f ?_ | refine iff_t ?_ | refine iff_f ?_ | refine not_t ?_ | refine not_f ?_ | refine beq_s ?_ | refine bne_s ?_ | refine ncP_p ?_ | refine nc_p ?_ | refine fld_at ?_ | refine xt_02 ?_ | refine xt_12 ?_ | refine xt_03 ?_ | refine xt_13 ?_ | refine xt_23 ?_ | refine eq_t (by omega) ?_ | refine eq_f (by omega) ?_ | refine ne_t (by omega) ?_ | refine ne_f (by omega) ?_ | refine lt_t (by omega) ?_ | refine lt_f (by omega) ?_ | refine gt_t (by omega) ?_ | refine gt_f (by omega) ?_ | refine ge_t (by omega) ?_ | refine ge_f (by omega) ?_ | refine le_t (by omega) ?_ | refine le_f (by omega) ?_)
    have hb : ¬ sendBad n a b x := by
      rintro (h | h | h | h)
      · exact h ho
      · exact c1 h
      · exact c2 h
      · omega
    obtain ⟨c, d, rfl, rfl⟩ := okL_nat ho
    have ho' := ho
    obtain ⟨o1, o2, o3, o4, o5⟩ := ho
    have hc : c < n := by omega
    have hd : d < n := by omega
    refine ref10_Room_s h1.swap fun w2 h2 => ?_
    rw [if_pos ho', Int.toNat_natCast, Int.toNat_natCast]
    have hl := hok.2.2.2.2.2 c d hc hd
    by_cases hfull : ((Q c d).length : Int) = room
    · refine eq_t (by omega) ?_
      have e1 : sendE n room Q c d x = 2 := by unfold sendE; rw [if_neg hb, Int.toNat_natCast, Int.toNat_natCast, if_pos hfull]
      have := hk w2
      rw [e1, sendQ_bad (by rw [e1]; decide)] at this
      exact iff_t (this h2.swap.drop)
    · refine eq_f (by omega) (iff_f ?_)
      have e1 : sendE n room Q c d x = 0 := by unfold sendE; rw [if_neg hb, Int.toNat_natCast, Int.toNat_natCast, if_neg hfull]
      have e2 : sendQ n room Q c d x = updQ Q c d (Q c d ++ [x]) := by unfold sendQ; rw [if_pos e1, Int.toNat_natCast, Int.toNat_natCast]
      rw [e1, e2] at hk
      generalize hq0 : Q c d = q at hk hl hfull
      refine bsl0 h2 Item.cs fun nv w5 h5 => ?_
      refine dr_s h5 fun w6 h6 => ?_
      obtain ⟨V, vs, hok, h7⟩ := rnet_of h6.swap
      obtain ⟨v, hv⟩ := get_of_lt (l := vs) (j := c * n + d) (by rw [hok.1]; exact ix_lt hc hd)
      have h8 := (h7.pick 2 rfl).focus _ (rowsI_get hv (tab_get Q hc hd))
      obtain ⟨x1, x2, x3, x4, x5⟩ := ixb hc hd hok.2.2.1
      have hr16 := hok.2.2.2.2.1
      rw [hq0] at h8
      repeat (first | refine gd_tt ?_ | refine gd_ff ?_ | refine gd_tf ?_ | refine gd_ft ?_ | refine gd_u ?_ | refine pk_t ?_ | refine pk_f ?_ | refine iff_t ?_ | refine iff_f ?_ | refine not_t ?_ | refine not_f ?_ | refine beq_s ?_ | refine bne_s ?_ | refine ncP_p ?_ | refine nc_p ?_ | refine fld_at ?_ | refine xt_02 ?_ | refine xt_12 ?_ | refine xt_03 ?_ | refine xt_13 ?_ | refine xt_23 ?_ | refine eq_t (by omega) ?_ | refine eq_f (by omega) ?_ | refine ne_t (by omega) ?_ | refine ne_f (by omega) ?_ | refine lt_t (by omega) ?_ | refine lt_f (by omega) ?_ | refine gt_t (by omega) ?_ | refine gt_f (by omega) ?_ | refine ge_t (by omega) ?_ | refine ge_f (by omega) ?_ | refine le_t (by omega) ?_ | refine le_f (by omega) ?_)
      refine ld1_at h8 2 rfl rfl ?_
      repeat (first | refine gd_tt ?_ | refine gd_ff ?_ | refine gd_tf ?_ | refine gd_ft ?_ | refine gd_u ?_ | refine pk_t ?_ | refine pk_f ?_ | refine iff_t ?_ | refine iff_f ?_ | refine not_t ?_ | refine not_f ?_ | refine beq_s ?_ | refine bne_s ?_ | refine ncP_p ?_ | refine nc_p ?_ | refine fld_at ?_ | refine xt_02 ?_ | refine xt_12 ?_ | refine xt_03 ?_ | refine xt_13 ?_ | refine xt_23 ?_ | refine eq_t (by omega) ?_ | refine eq_f (by omega) ?_ | refine ne_t (by omega) ?_ | refine ne_f (by omega) ?_ | refine lt_t (by omega) ?_ | refine lt_f (by omega) ?_ | refine gt_t (by omega) ?_ | refine gt_f (by omega) ?_ | refine ge_t (by omega) ?_ | refine ge_f (by omega) ?_ | refine le_t (by omega) ?_ | refine le_f (by omega) ?_)
      refine ld1_at h8 2 rfl rfl ?_
      refine mul_s x1 x2 (add_s x3 x4 ?_)
      rw [x5]
      refine ixS_rd h8 3 rfl (fun g hg => own_rd hg) (fun _ => rfl) hv fun p hp => ?_
      refine ld1_of h8 3 rfl hp (v := v) rfl ?_
      have h9 := h8.selR [_, _, _, _, _, _] [_, _, _, _, _, _] [4, 0, 1, 2, 3, 5] (by decide) rfl
      refine apS_own te_27 te_27.und (fun _ => rfl) (fun _ => ints_flat _) h9 (fun g hg => own_rd hg) (by simp only [List.length_nil]; omega) fun nv' w10 h10 => ?_
      rw [List.nil_append] at h10
      refine dr_s h10 fun w11 h11 => ?_
      repeat (first | refine gd_tt ?_ | refine gd_ff ?_ | refine gd_tf ?_ | refine gd_ft ?_ | refine gd_u ?_ | refine pk_t ?_ | refine pk_f ?_ | refine iff_t ?_ | refine iff_f ?_ | refine not_t ?_ | refine not_f ?_ | refine beq_s ?_ | refine bne_s ?_ | refine ncP_p ?_ | refine nc_p ?_ | refine fld_at ?_ | refine xt_02 ?_ | refine xt_12 ?_ | refine xt_03 ?_ | refine xt_13 ?_ | refine xt_23 ?_ | refine eq_t (by omega) ?_ | refine eq_f (by omega) ?_ | refine ne_t (by omega) ?_ | refine ne_f (by omega) ?_ | refine lt_t (by omega) ?_ | refine lt_f (by omega) ?_ | refine gt_t (by omega) ?_ | refine gt_f (by omega) ?_ | refine ge_t (by omega) ?_ | refine ge_f (by omega) ?_ | refine le_t (by omega) ?_ | refine le_f (by omega) ?_)
      refine ld1_at h11 3 rfl rfl ?_
      repeat (first | refine gd_tt ?_ | refine gd_ff ?_ | refine gd_tf ?_ | refine gd_ft ?_ | refine gd_u ?_ | refine pk_t ?_ | refine pk_f ?_ | refine iff_t ?_ | refine iff_f ?_ | refine not_t ?_ | refine not_f ?_ | refine beq_s ?_ | refine bne_s ?_ | refine ncP_p ?_ | refine nc_p ?_ | refine fld_at ?_ | refine xt_02 ?_ | refine xt_12 ?_ | refine xt_03 ?_ | refine xt_13 ?_ | refine xt_23 ?_ | refine eq_t (by omega) ?_ | refine eq_f (by omega) ?_ | refine ne_t (by omega) ?_ | refine ne_f (by omega) ?_ | refine lt_t (by omega) ?_ | refine lt_f (by omega) ?_ | refine gt_t (by omega) ?_ | refine gt_f (by omega) ?_ | refine ge_t (by omega) ?_ | refine ge_f (by omega) ?_ | refine le_t (by omega) ?_ | refine le_f (by omega) ?_)
      refine ld1_at h11 3 rfl rfl ?_
      refine mul_s x1 x2 (add_s x3 x4 ?_)
      rw [x5]
      refine ldN_at h11 5 (vs := x.cs) rfl (by rfl) rfl ?_
      refine bsl1 (vs := x.cs) rfl rfl h11 fun bb w12 h12 => ?_
      refine ⟨ld1_at h12 4 rfl rfl ⟨rfl, rfl⟩, ld1_at h12 4 rfl rfl ⟨rfl, rfl⟩, ?_⟩
      refine apS_own te_27 te_27.und (fun _ => rfl) (fun _ => ints_flat _) h12.swap (blk_rd1 (Nat.le_refl _)) (by simp only [List.length_singleton]; omega) fun nv2 w13 h13 => ?_
      have hfl := h13.own_cells 0 rfl
      refine ⟨ld1_at h13 4 rfl rfl ⟨rfl, rfl⟩, ld1_at h13 4 rfl rfl ⟨rfl, rfl⟩, ?_⟩
      refine st_own' h13 5 rfl (fun _ => rfl) (by rw [hok.1]; exact ix_lt hc hd) (x := nv2) hfl.1 (own1_flat _ hfl.2) fun w14 h14 => ?_
      refine hk _ ?_
      exact rnet_write (v' := nv2) (q := q ++ [x]) hc hd hok (by simp; omega) hv (h14.selR [_, _, _, _, _, _, _] [_, _, _, _] [4, 5, 0, 3] (by decide) rfl)
  · rw [decide_eq_false ho]
    refine not_f ?_
    repeat (first | refine gd_tt ?_ | refine gd_ff ?_ | refine gd_tf ?_ | refine gd_ft ?_ | refine gd_u ?_ | refine pk_t ?_ | refine pk_f ?_ | refine iff_t ?_ | refine iff_f ?_ | refine not_t ?_ | refine not_f ?_ | refine beq_s ?_ | refine bne_s ?_ | refine ncP_p ?_ | refine nc_p ?_ | refine fld_at ?_ | refine xt_02 ?_ | refine xt_12 ?_ | refine xt_03 ?_ | refine xt_13 ?_ | refine xt_23 ?_ | refine eq_t (by omega) ?_ | refine eq_f (by omega) ?_ | refine ne_t (by omega) ?_ | refine ne_f (by omega) ?_ | refine lt_t (by omega) ?_ | refine lt_f (by omega) ?_ | refine gt_t (by omega) ?_ | refine gt_f (by omega) ?_ | refine ge_t (by omega) ?_ | refine ge_f (by omega) ?_ | refine le_t (by omega) ?_ | refine le_f (by omega) ?_)
    exact hbad (.inl ho)
end Go.Proofs.Ytcocbmbadigjbaa
