/- Links: Least; the law LinkFull. Conditions: none. -/
import Derived.Test.YtcocbmbadigjbaaLinkE
namespace Go.Proofs.Ytcocbmbadigjbaa
open Go Go.E
set_option maxRecDepth 100000
variable {e w : World} {R : List HP} {K : KV}

theorem link_Least_s {g : Nat} {n : Nat} {room : Int} {Q : Nat → Nat → List Item} (hS : Sat e w (IsNet g n room Q :: R)) (hk : ∀ w', Sat e w' (IsNet g n room Q :: R) → K (.int .i64 (leastT (timesC (allQ n Q)))) w') :
    Cl prog 11 #[.pointer (some ⟨g, 0, none⟩)] w K := by
  refine link_Net_Least_calls ?_
  unfold link_Net_Least
  obtain ⟨D, hD, _⟩ := IsNet.open hS
  have hall := hD.all_len
  rw [zero_61]
  refine al_s (cs := [.slice none 0 0]) hS rfl fun c w1 h1 => ?_
  have h1 := cellL.close (Sat.swap (h1.own_nil 3 1 (intsK .i64)))
  refine link_items_s h1 fun d w3 h3 => ?_
  refine rf_s rfl (by kernel_rfl) h3 fun l E LR w4 Kf rule fin h4 => ?_
  refine link_items1_s (I := fun pre => lpC LR l .ready :: dfC E :: cellL c (timesC pre) :: R) (fun pre x post W K heq hW hK => ?_) (h4.selR [_, _, _, _, _] [_, _, _, _, _] [4, 2, 0, 1, 3] (by decide) rfl) fun w5 h5 => ?_
  · refine rule (hW.pick 2 rfl) rfl ?_
    have hl : (timesC pre).length ≤ 1024 := by
      refine Nat.le_trans (timesC_le _) (Nat.le_trans ?_ hall)
      rw [heq]
      simp
    simp only [getD1]
    rw [zero_33]
    refine al_s (cs := Item.zero.cs) hW rfl fun t w5 h5 => ?_
    refine stN_at h5 0 rfl (vs := x.cs) rfl rfl (by decide) (ints_flat _) (cs' := x.cs) (by kernel_rfl) fun w6 h6 => ?_
    refine bgn_s (h6.pick 3 rfl) fun w7 h7 => ?_
    repeat (first | refine gd_tt ?_ | refine gd_ff ?_ | refine gd_tf ?_ | refine gd_ft ?_ | refine gd_u ?_ | refine pk_t ?_ | refine pk_f ?_ | refine iff_t ?_ | refine iff_f ?_ | refine not_t ?_ | refine not_f ?_ | refine beq_s ?_ | refine bne_s ?_ | refine ncP_p ?_ | refine nc_p ?_ | refine fld_at ?_ | refine xt_02 ?_ | refine xt_12 ?_ | refine xt_03 ?_ | refine xt_13 ?_ | refine xt_23 ?_ | refine eq_t (by omega) ?_ | refine eq_f (by omega) ?_ | refine ne_t (by omega) ?_ | refine ne_f (by omega) ?_ | refine lt_t (by omega) ?_ | refine lt_f (by omega) ?_ | refine gt_t (by omega) ?_ | refine gt_f (by omega) ?_ | refine ge_t (by omega) ?_ | refine ge_f (by omega) ?_ | refine le_t (by omega) ?_ | refine le_f (by omega) ?_)
    refine ld1_at h7 1 rfl (v := .int .i64 x.Kind) rfl ?_
    refine ne_c (fun c1 => iff_t ?_) (fun c1 => iff_f ?_)
    · obtain ⟨v, h8⟩ := cellL.open (h7.pick 5 rfl)
      refine ld1_at h8 0 rfl rfl ?_
      repeat (first | refine gd_tt ?_ | refine gd_ff ?_ | refine gd_tf ?_ | refine gd_ft ?_ | refine gd_u ?_ | refine pk_t ?_ | refine pk_f ?_ | refine iff_t ?_ | refine iff_f ?_ | refine not_t ?_ | refine not_f ?_ | refine beq_s ?_ | refine bne_s ?_ | refine ncP_p ?_ | refine nc_p ?_ | refine fld_at ?_ | refine xt_02 ?_ | refine xt_12 ?_ | refine xt_03 ?_ | refine xt_13 ?_ | refine xt_23 ?_ | refine eq_t (by omega) ?_ | refine eq_f (by omega) ?_ | refine ne_t (by omega) ?_ | refine ne_f (by omega) ?_ | refine lt_t (by omega) ?_ | refine lt_f (by omega) ?_ | refine gt_t (by omega) ?_ | refine gt_f (by omega) ?_ | refine ge_t (by omega) ?_ | refine ge_f (by omega) ?_ | refine le_t (by omega) ?_ | refine le_f (by omega) ?_)
      refine ld1_at h8 3 rfl (v := .int .i64 x.m.key.T) rfl ?_
      refine push1 te_61 (f := intsK .i64) (fun _ => rfl) (fun _ _ h => by simp [intsK] at h; subst h; rfl) (h8.pick 1 rfl) (x := x.m.key.T) rfl (by omega) fun v' w8 h9 => ?_
      refine stN_at h9 1 rfl (vs := [v']) (h9.own_cells 0 rfl).1 rfl (by simp) (fun c hc => by rw [List.mem_singleton.1 hc]; exact (h9.own_cells 0 rfl).2) (cs' := [v']) (by rfl) fun w9 h10 => ?_
      refine edn_s (h10.pick 2 rfl) fun w11 h11 => ?_
      refine hK _ ?_
      rw [timesC_snoc, if_pos c1]
      have h12 := cellL.close (c := c) (h11.selR [_, _, _, _, _, _, _] [_, _, _, _, _, _] [2, 1, 0, 4, 5, 6] (by decide) rfl)
      exact h12.selR [_, _, _, _, _] [_, _, _, _, _] [2, 3, 1, 4, 0] (by decide) rfl
    · refine edn_s h7 fun w9 h9 => ?_
      refine hK _ ?_
      rw [timesC_snoc, if_neg (fun h => h c1), List.append_nil]
      exact h9.selR [_, _, _, _, _, _] [_, _, _, _, _] [2, 3, 0, 4, 5] (by decide) rfl
  · refine fin (h5.pick 2 rfl) fun w6 h6 => ?_
    obtain ⟨v, h7⟩ := cellL.open (h6.pick 3 rfl)
    refine ld1_at h7 0 rfl rfl ?_
    have hl : (timesC (allQ n Q)).length ≤ 1024 := Nat.le_trans (timesC_le _) hall
    refine vtime_Least_s (h7.pick 1 rfl) (fun g hg => own_rd hg) (by omega) fun w8 h8 => ?_
    refine rdef_s (h8.pick 4 rfl) fun w9 h9 => ?_
    exact hk _ (h9.selR [_, _, _, _] [_] [2] (by decide) rfl)

/-! ### A net of two, with items from 0 to 1 alone -/
def oneQ (l : List Item) : Nat → Nat → List Item := updQ (fun _ _ => []) 0 1 l
theorem oneQ_nil : (fun _ _ => []) = oneQ [] := by
  funext c d
  unfold oneQ updQ
  split <;> rfl
theorem oneQ_at (l : List Item) : oneQ l (Int.toNat 0) (Int.toNat 1) = l := rfl
theorem oneQ_upd (l m : List Item) : updQ (oneQ l) (Int.toNat 0) (Int.toNat 1) m = oneQ m := by
  funext c d
  show updQ (oneQ l) 0 1 m c d = _
  unfold oneQ updQ
  split <;> rfl
theorem oneQ_all (l : List Item) : allQ 2 (oneQ l) = l := by
  simp [allQ, rowQ, fl, List.range_succ, oneQ, updQ]
def itm (i : Nat) : Item := ⟨0, ⟨⟨0, 0, 0⟩, 0, 0, i⟩, 0⟩
theorem itm_bad (i : Nat) : ¬ sendBad 2 0 1 (itm i) := by
  unfold sendBad okL itm
  simp
theorem sendE_one {n i : Nat} {l : List Item} : sendE 2 n (oneQ l) 0 1 (itm i) = if l.length = n then 2 else 0 := by
  unfold sendE
  rw [if_neg (itm_bad i), oneQ_at]
  by_cases h : l.length = n
  · rw [if_pos h, if_pos (by omega)]
  · rw [if_neg h, if_neg (by omega)]
theorem sendQ_one {n i : Nat} {l : List Item} (h : l.length < n) : sendQ 2 n (oneQ l) 0 1 (itm i) = oneQ (l ++ [itm i]) := by
  unfold sendQ
  rw [sendE_one]
  rw [if_neg (show ¬ l.length = n by omega), if_pos rfl, oneQ_at, oneQ_upd]
theorem sendQ_oneF {n i : Nat} {l : List Item} (h : l.length = n) : sendQ 2 n (oneQ l) 0 1 (itm i) = oneQ l := by
  unfold sendQ
  rw [sendE_one, if_pos h, if_neg (by decide)]
theorem recv_one {x : Item} {l : List Item} : recvB 2 (oneQ (x :: l)) 0 1 = true ∧ recvV 2 (oneQ (x :: l)) 0 1 = x ∧ recvQ 2 (oneQ (x :: l)) 0 1 = oneQ l := by
  have h : recvB 2 (oneQ (x :: l)) 0 1 = true := by unfold recvB; rw [oneQ_at]; simp [okL]
  refine ⟨h, ?_, ?_⟩
  · unfold recvV
    rw [if_pos h, oneQ_at]
    rfl
  · unfold recvQ
    rw [if_pos h, oneQ_at, oneQ_upd]
    rfl
theorem recv_one0 : recvB 2 (oneQ []) 0 1 = false ∧ recvQ 2 (oneQ []) 0 1 = oneQ [] := ⟨rfl, rfl⟩
def itms (n : Nat) : List Item := (List.range n).map itm
theorem itms_len (n : Nat) : (itms n).length = n := by simp [itms]
theorem itms_succ (n : Nat) : itms (n + 1) = itms n ++ [itm n] := by simp [itms, List.range_succ]
theorem itms_drop {n i : Nat} (h : i < n) : (itms n).drop i = itm i :: (itms n).drop (i + 1) := by
  rw [List.drop_eq_getElem_cons (by rw [itms_len]; exact h)]
  simp [itms]
theorem itms_cnt (n : Nat) : cntC 0 (itms n) = n := by
  unfold cntC
  rw [List.countP_eq_length.2 (fun x hx => ?_), itms_len]
  obtain ⟨i, _, rfl⟩ := List.mem_map.1 hx
  rfl

theorem linkFull_s {a b : Int} (hS : Sat e w R) (ha : (Lit.int .u8 a).wf = true) (hb : (Lit.int .u8 b).wf = true) (hk : ∀ w', Sat e w' R → K (.bool true) w') : Cl prog 4 #[.int .u8 a, .int .u8 b] w K := by
  have ha' := wf8l ha
  have hb' := wf8l hb
  refine pacelinelaw10_LinkFull_calls ?_
  unfold pacelinelaw10_LinkFull
  refine cv_s ?_
  rw [wrap_i64 (by omega) (by omega)]
  refine rem_s (by decide) ?_
  rw [Int.tmod_eq_emod_of_nonneg (by omega)]
  refine add_s (by omega) (by omega) ?_
  obtain ⟨n, hn⟩ : ∃ n : Nat, 1 + a % 16 = n := ⟨(1 + a % 16).toNat, by omega⟩
  have hn1 : 1 ≤ n ∧ n ≤ 16 := by omega
  rw [hn]
  refine link_New_s (by omega) (by omega) (by omega) (by omega) hS fun x w1 h1 => ?_
  repeat (first | refine gd_tt ?_ | refine gd_ff ?_ | refine gd_tf ?_ | refine gd_ft ?_ | refine gd_u ?_ | refine pk_t ?_ | refine pk_f ?_ | refine iff_t ?_ | refine iff_f ?_ | refine not_t ?_ | refine not_f ?_ | refine beq_s ?_ | refine bne_s ?_ | refine ncP_p ?_ | refine nc_p ?_ | refine fld_at ?_ | refine xt_02 ?_ | refine xt_12 ?_ | refine xt_03 ?_ | refine xt_13 ?_ | refine xt_23 ?_ | refine eq_t (by omega) ?_ | refine eq_f (by omega) ?_ | refine ne_t (by omega) ?_ | refine ne_f (by omega) ?_ | refine lt_t (by omega) ?_ | refine lt_f (by omega) ?_ | refine gt_t (by omega) ?_ | refine gt_f (by omega) ?_ | refine ge_t (by omega) ?_ | refine ge_f (by omega) ?_ | refine le_t (by omega) ?_ | refine le_f (by omega) ?_)
  refine bnp_s _ ?_
  repeat (first | refine gd_tt ?_ | refine gd_ff ?_ | refine gd_tf ?_ | refine gd_ft ?_ | refine gd_u ?_ | refine pk_t ?_ | refine pk_f ?_ | refine iff_t ?_ | refine iff_f ?_ | refine not_t ?_ | refine not_f ?_ | refine beq_s ?_ | refine bne_s ?_ | refine ncP_p ?_ | refine nc_p ?_ | refine fld_at ?_ | refine xt_02 ?_ | refine xt_12 ?_ | refine xt_03 ?_ | refine xt_13 ?_ | refine xt_23 ?_ | refine eq_t (by omega) ?_ | refine eq_f (by omega) ?_ | refine ne_t (by omega) ?_ | refine ne_f (by omega) ?_ | refine lt_t (by omega) ?_ | refine lt_f (by omega) ?_ | refine gt_t (by omega) ?_ | refine gt_f (by omega) ?_ | refine ge_t (by omega) ?_ | refine ge_f (by omega) ?_ | refine le_t (by omega) ?_ | refine le_f (by omega) ?_)
  rw [oneQ_nil] at h1
  obtain ⟨m, hm⟩ : ∃ m : Nat, 1 + b % 6 = m := ⟨(1 + b % 6).toNat, by omega⟩
  have hm1 : m ≤ 6 := by omega
  refine lpi1 (fun q t8 w => ∃ k : Nat, k ≤ m ∧ t8 = .int .i64 k ∧ q = m - k ∧ Sat e w (IsNet x 2 n (oneQ []) :: R)) m ⟨0, Nat.zero_le _, rfl, rfl, h1⟩ ?_
  rintro q _ w g1 ⟨k, hkm, rfl, rfl, h2⟩ hg1
  refine cv_s ?_
  rw [wrap_i64 (by omega) (by omega)]
  refine rem_s (by decide) ?_
  rw [Int.tmod_eq_emod_of_nonneg (by omega)]
  refine add_s (by omega) (by omega) ?_
  rw [hm]
  refine lt_c (fun c1 => iff_t ?_) (fun c1 => iff_f (hk _ h2.drop))
  have hrm : ((0 : Int).toNat) = 0 := rfl
  refine lpi1 (fun q t9 w => ∃ i : Nat, i ≤ n ∧ t9 = .int .i64 i ∧ q = n - i ∧ Sat e w (IsNet x 2 n (oneQ (itms i)) :: R)) n ⟨0, Nat.zero_le _, rfl, rfl, h2⟩ ?_
  rintro q _ w g2 ⟨i, hi, rfl, rfl, h3⟩ hg2
  refine lt_c (fun c2 => iff_t ?_) (fun c2 => iff_f ?_)
  · have c2 : i < n := by omega
    refine link_Room_s h3 fun w4 h4 => ?_
    rw [if_pos (by decide), oneQ_at, itms_len]
    refine sub_s (by omega) (by omega) ?_
    refine ne_f rfl ?_
    repeat (first | refine gd_tt ?_ | refine gd_ff ?_ | refine gd_tf ?_ | refine gd_ft ?_ | refine gd_u ?_ | refine pk_t ?_ | refine pk_f ?_ | refine iff_t ?_ | refine iff_f ?_ | refine not_t ?_ | refine not_f ?_ | refine beq_s ?_ | refine bne_s ?_ | refine ncP_p ?_ | refine nc_p ?_ | refine fld_at ?_ | refine xt_02 ?_ | refine xt_12 ?_ | refine xt_03 ?_ | refine xt_13 ?_ | refine xt_23 ?_ | refine eq_t (by omega) ?_ | refine eq_f (by omega) ?_ | refine ne_t (by omega) ?_ | refine ne_f (by omega) ?_ | refine lt_t (by omega) ?_ | refine lt_f (by omega) ?_ | refine gt_t (by omega) ?_ | refine gt_f (by omega) ?_ | refine ge_t (by omega) ?_ | refine ge_f (by omega) ?_ | refine le_t (by omega) ?_ | refine le_f (by omega) ?_)
    refine bld_s [.int .i64 0, .int .i64 0, .int .i64 0, .int .i64 0, .int .i64 0, .int .i64 i] (by kernel_rfl) ?_
    refine gd_ff (bld_s (itm i).cs (by kernel_rfl) ?_)
    refine gd_ff (link_Send_a h4 fun w5 h5 => ?_)
    rw [sendQ_one (by rw [itms_len]; exact c2), ← itms_succ] at h5
    rw [sendE_one, itms_len, if_neg (by omega)]
    repeat (first | refine gd_tt ?_ | refine gd_ff ?_ | refine gd_tf ?_ | refine gd_ft ?_ | refine gd_u ?_ | refine pk_t ?_ | refine pk_f ?_ | refine iff_t ?_ | refine iff_f ?_ | refine not_t ?_ | refine not_f ?_ | refine beq_s ?_ | refine bne_s ?_ | refine ncP_p ?_ | refine nc_p ?_ | refine fld_at ?_ | refine xt_02 ?_ | refine xt_12 ?_ | refine xt_03 ?_ | refine xt_13 ?_ | refine xt_23 ?_ | refine eq_t (by omega) ?_ | refine eq_f (by omega) ?_ | refine ne_t (by omega) ?_ | refine ne_f (by omega) ?_ | refine lt_t (by omega) ?_ | refine lt_f (by omega) ?_ | refine gt_t (by omega) ?_ | refine gt_f (by omega) ?_ | refine ge_t (by omega) ?_ | refine ge_f (by omega) ?_ | refine le_t (by omega) ?_ | refine le_f (by omega) ?_)
    refine inc_s (by omega) ?_
    exact hg2 _ _ _ (by omega) ⟨i + 1, by omega, rfl, rfl, h5⟩
  · have e1 : i = n := by omega
    subst e1
    refine bld_s Item.zero.cs (by kernel_rfl) ?_
    refine link_Send_a h3 fun w4 h4 => ?_
    rw [show Item.zero = itm 0 from rfl] at h4 ⊢
    rw [sendQ_oneF (itms_len _)] at h4
    rw [sendE_one, itms_len, if_pos rfl]
    repeat (first | refine gd_tt ?_ | refine gd_ff ?_ | refine gd_tf ?_ | refine gd_ft ?_ | refine gd_u ?_ | refine pk_t ?_ | refine pk_f ?_ | refine iff_t ?_ | refine iff_f ?_ | refine not_t ?_ | refine not_f ?_ | refine beq_s ?_ | refine bne_s ?_ | refine ncP_p ?_ | refine nc_p ?_ | refine fld_at ?_ | refine xt_02 ?_ | refine xt_12 ?_ | refine xt_03 ?_ | refine xt_13 ?_ | refine xt_23 ?_ | refine eq_t (by omega) ?_ | refine eq_f (by omega) ?_ | refine ne_t (by omega) ?_ | refine ne_f (by omega) ?_ | refine lt_t (by omega) ?_ | refine lt_f (by omega) ?_ | refine gt_t (by omega) ?_ | refine gt_f (by omega) ?_ | refine ge_t (by omega) ?_ | refine ge_f (by omega) ?_ | refine le_t (by omega) ?_ | refine le_f (by omega) ?_)
    refine link_All_s (n := 2) h4 fun w5 h5 => ?_
    rw [oneQ_all, itms_len]
    repeat (first | refine gd_tt ?_ | refine gd_ff ?_ | refine gd_tf ?_ | refine gd_ft ?_ | refine gd_u ?_ | refine pk_t ?_ | refine pk_f ?_ | refine iff_t ?_ | refine iff_f ?_ | refine not_t ?_ | refine not_f ?_ | refine beq_s ?_ | refine bne_s ?_ | refine ncP_p ?_ | refine nc_p ?_ | refine fld_at ?_ | refine xt_02 ?_ | refine xt_12 ?_ | refine xt_03 ?_ | refine xt_13 ?_ | refine xt_23 ?_ | refine eq_t (by omega) ?_ | refine eq_f (by omega) ?_ | refine ne_t (by omega) ?_ | refine ne_f (by omega) ?_ | refine lt_t (by omega) ?_ | refine lt_f (by omega) ?_ | refine gt_t (by omega) ?_ | refine gt_f (by omega) ?_ | refine ge_t (by omega) ?_ | refine ge_f (by omega) ?_ | refine le_t (by omega) ?_ | refine le_f (by omega) ?_)
    refine link_Carried_s (n := 2) h5 fun w6 h6 => ?_
    rw [oneQ_all, itms_cnt]
    repeat (first | refine gd_tt ?_ | refine gd_ff ?_ | refine gd_tf ?_ | refine gd_ft ?_ | refine gd_u ?_ | refine pk_t ?_ | refine pk_f ?_ | refine iff_t ?_ | refine iff_f ?_ | refine not_t ?_ | refine not_f ?_ | refine beq_s ?_ | refine bne_s ?_ | refine ncP_p ?_ | refine nc_p ?_ | refine fld_at ?_ | refine xt_02 ?_ | refine xt_12 ?_ | refine xt_03 ?_ | refine xt_13 ?_ | refine xt_23 ?_ | refine eq_t (by omega) ?_ | refine eq_f (by omega) ?_ | refine ne_t (by omega) ?_ | refine ne_f (by omega) ?_ | refine lt_t (by omega) ?_ | refine lt_f (by omega) ?_ | refine gt_t (by omega) ?_ | refine gt_f (by omega) ?_ | refine ge_t (by omega) ?_ | refine ge_f (by omega) ?_ | refine le_t (by omega) ?_ | refine le_f (by omega) ?_)
    refine lpi1 (fun q t10 w => ∃ j : Nat, j ≤ i ∧ t10 = .int .i64 j ∧ q = i - j ∧ Sat e w (IsNet x 2 i (oneQ ((itms i).drop j)) :: R)) i ⟨0, Nat.zero_le _, rfl, rfl, h6⟩ ?_
    rintro q _ w g3 ⟨j, hj, rfl, rfl, h7⟩ hg3
    refine lt_c (fun c3 => iff_t ?_) (fun c3 => iff_f ?_)
    · have c3 : j < i := by omega
      rw [itms_drop c3] at h7
      refine link_Recv_a h7 fun w8 h8 => ?_
      rw [recv_one.2.2] at h8
      rw [recv_one.1, recv_one.2.1]
      repeat (first | refine gd_tt ?_ | refine gd_ff ?_ | refine gd_tf ?_ | refine gd_ft ?_ | refine gd_u ?_ | refine pk_t ?_ | refine pk_f ?_ | refine iff_t ?_ | refine iff_f ?_ | refine not_t ?_ | refine not_f ?_ | refine beq_s ?_ | refine bne_s ?_ | refine ncP_p ?_ | refine nc_p ?_ | refine fld_at ?_ | refine xt_02 ?_ | refine xt_12 ?_ | refine xt_03 ?_ | refine xt_13 ?_ | refine xt_23 ?_ | refine eq_t (by omega) ?_ | refine eq_f (by omega) ?_ | refine ne_t (by omega) ?_ | refine ne_f (by omega) ?_ | refine lt_t (by omega) ?_ | refine lt_f (by omega) ?_ | refine gt_t (by omega) ?_ | refine gt_f (by omega) ?_ | refine ge_t (by omega) ?_ | refine ge_f (by omega) ?_ | refine le_t (by omega) ?_ | refine le_f (by omega) ?_)
      rw [zero_33]
      refine al_s (cs := Item.zero.cs) h8 rfl fun u w9 h9 => ?_
      refine stN_at h9 0 rfl (vs := (itm j).cs) rfl rfl (by decide) (ints_flat _) (cs' := (itm j).cs) (by rfl) fun w10 h10 => ?_
      repeat (first | refine gd_tt ?_ | refine gd_ff ?_ | refine gd_tf ?_ | refine gd_ft ?_ | refine gd_u ?_ | refine pk_t ?_ | refine pk_f ?_ | refine iff_t ?_ | refine iff_f ?_ | refine not_t ?_ | refine not_f ?_ | refine beq_s ?_ | refine bne_s ?_ | refine ncP_p ?_ | refine nc_p ?_ | refine fld_at ?_ | refine xt_02 ?_ | refine xt_12 ?_ | refine xt_03 ?_ | refine xt_13 ?_ | refine xt_23 ?_ | refine eq_t (by omega) ?_ | refine eq_f (by omega) ?_ | refine ne_t (by omega) ?_ | refine ne_f (by omega) ?_ | refine lt_t (by omega) ?_ | refine lt_f (by omega) ?_ | refine gt_t (by omega) ?_ | refine gt_f (by omega) ?_ | refine ge_t (by omega) ?_ | refine ge_f (by omega) ?_ | refine le_t (by omega) ?_ | refine le_f (by omega) ?_)
      refine ld1_at h10 0 rfl (v := .int .i64 j) rfl ?_
      repeat (first | refine gd_tt ?_ | refine gd_ff ?_ | refine gd_tf ?_ | refine gd_ft ?_ | refine gd_u ?_ | refine pk_t ?_ | refine pk_f ?_ | refine iff_t ?_ | refine iff_f ?_ | refine not_t ?_ | refine not_f ?_ | refine beq_s ?_ | refine bne_s ?_ | refine ncP_p ?_ | refine nc_p ?_ | refine fld_at ?_ | refine xt_02 ?_ | refine xt_12 ?_ | refine xt_03 ?_ | refine xt_13 ?_ | refine xt_23 ?_ | refine eq_t (by omega) ?_ | refine eq_f (by omega) ?_ | refine ne_t (by omega) ?_ | refine ne_f (by omega) ?_ | refine lt_t (by omega) ?_ | refine lt_f (by omega) ?_ | refine gt_t (by omega) ?_ | refine gt_f (by omega) ?_ | refine ge_t (by omega) ?_ | refine ge_f (by omega) ?_ | refine le_t (by omega) ?_ | refine le_f (by omega) ?_)
      refine inc_s (by omega) ?_
      exact hg3 _ _ _ (by omega) ⟨j + 1, by omega, rfl, rfl, h10.drop⟩
    · rw [List.drop_of_length_le (by rw [itms_len]; omega)] at h7
      refine link_Recv_a h7 fun w8 h8 => ?_
      rw [recv_one0.2] at h8
      rw [recv_one0.1]
      repeat (first | refine gd_tt ?_ | refine gd_ff ?_ | refine gd_tf ?_ | refine gd_ft ?_ | refine gd_u ?_ | refine pk_t ?_ | refine pk_f ?_ | refine iff_t ?_ | refine iff_f ?_ | refine not_t ?_ | refine not_f ?_ | refine beq_s ?_ | refine bne_s ?_ | refine ncP_p ?_ | refine nc_p ?_ | refine fld_at ?_ | refine xt_02 ?_ | refine xt_12 ?_ | refine xt_03 ?_ | refine xt_13 ?_ | refine xt_23 ?_ | refine eq_t (by omega) ?_ | refine eq_f (by omega) ?_ | refine ne_t (by omega) ?_ | refine ne_f (by omega) ?_ | refine lt_t (by omega) ?_ | refine lt_f (by omega) ?_ | refine gt_t (by omega) ?_ | refine gt_f (by omega) ?_ | refine ge_t (by omega) ?_ | refine ge_f (by omega) ?_ | refine le_t (by omega) ?_ | refine le_f (by omega) ?_)
      rw [zero_33]
      refine al_s (cs := Item.zero.cs) h8 rfl fun u w9 h9 => ?_
      refine stN_at h9 0 rfl (vs := (recvV 2 (oneQ []) 0 1).cs) rfl rfl (by decide) (ints_flat _) (cs' := (recvV 2 (oneQ []) 0 1).cs) (by rfl) fun w10 h10 => ?_
      repeat (first | refine gd_tt ?_ | refine gd_ff ?_ | refine gd_tf ?_ | refine gd_ft ?_ | refine gd_u ?_ | refine pk_t ?_ | refine pk_f ?_ | refine iff_t ?_ | refine iff_f ?_ | refine not_t ?_ | refine not_f ?_ | refine beq_s ?_ | refine bne_s ?_ | refine ncP_p ?_ | refine nc_p ?_ | refine fld_at ?_ | refine xt_02 ?_ | refine xt_12 ?_ | refine xt_03 ?_ | refine xt_13 ?_ | refine xt_23 ?_ | refine eq_t (by omega) ?_ | refine eq_f (by omega) ?_ | refine ne_t (by omega) ?_ | refine ne_f (by omega) ?_ | refine lt_t (by omega) ?_ | refine lt_f (by omega) ?_ | refine gt_t (by omega) ?_ | refine gt_f (by omega) ?_ | refine ge_t (by omega) ?_ | refine ge_f (by omega) ?_ | refine le_t (by omega) ?_ | refine le_f (by omega) ?_)
      refine link_All_s (n := 2) h10.drop fun w11 h11 => ?_
      rw [oneQ_all, show (([] : List Item).length : Int) = 0 from rfl]
      repeat (first | refine gd_tt ?_ | refine gd_ff ?_ | refine gd_tf ?_ | refine gd_ft ?_ | refine gd_u ?_ | refine pk_t ?_ | refine pk_f ?_ | refine iff_t ?_ | refine iff_f ?_ | refine not_t ?_ | refine not_f ?_ | refine beq_s ?_ | refine bne_s ?_ | refine ncP_p ?_ | refine nc_p ?_ | refine fld_at ?_ | refine xt_02 ?_ | refine xt_12 ?_ | refine xt_03 ?_ | refine xt_13 ?_ | refine xt_23 ?_ | refine eq_t (by omega) ?_ | refine eq_f (by omega) ?_ | refine ne_t (by omega) ?_ | refine ne_f (by omega) ?_ | refine lt_t (by omega) ?_ | refine lt_f (by omega) ?_ | refine gt_t (by omega) ?_ | refine gt_f (by omega) ?_ | refine ge_t (by omega) ?_ | refine ge_f (by omega) ?_ | refine le_t (by omega) ?_ | refine le_f (by omega) ?_)
      refine link_Least_s (n := 2) h11 fun w12 h12 => ?_
      rw [oneQ_all, show leastT (timesC []) = 1125899906842624 from rfl]
      repeat (first | refine gd_tt ?_ | refine gd_ff ?_ | refine gd_tf ?_ | refine gd_ft ?_ | refine gd_u ?_ | refine pk_t ?_ | refine pk_f ?_ | refine iff_t ?_ | refine iff_f ?_ | refine not_t ?_ | refine not_f ?_ | refine beq_s ?_ | refine bne_s ?_ | refine ncP_p ?_ | refine nc_p ?_ | refine fld_at ?_ | refine xt_02 ?_ | refine xt_12 ?_ | refine xt_03 ?_ | refine xt_13 ?_ | refine xt_23 ?_ | refine eq_t (by omega) ?_ | refine eq_f (by omega) ?_ | refine ne_t (by omega) ?_ | refine ne_f (by omega) ?_ | refine lt_t (by omega) ?_ | refine lt_f (by omega) ?_ | refine gt_t (by omega) ?_ | refine gt_f (by omega) ?_ | refine ge_t (by omega) ?_ | refine ge_f (by omega) ?_ | refine le_t (by omega) ?_ | refine le_f (by omega) ?_)
      refine inc_s (by omega) ?_
      exact hg1 _ _ _ (by omega) ⟨k + 1, by omega, rfl, rfl, h12⟩
end Go.Proofs.Ytcocbmbadigjbaa
