/- The law CalendarScript. Conditions: none. -/
import Derived.Test.YtlmakkjbcmhaeaaCalH
namespace Go.Proofs.Ytlmakkjbcmhaeaa
open Go Go.E
set_option maxRecDepth 100000
variable {e w : World} {R : List HP} {K : KV}

theorem calendarScript_s {v : Value} {l : List PStep} {n dy : Int} {S : HP} (hS : Sat e w (S :: R)) (_hn : (Lit.int .i64 n).wf = true) (_hd : (Lit.int .i64 dy).wf = true) (hr : ∀ g, S g → rdS 7 PStep.cs v l g) (hw : ∀ x ∈ l, ∀ m ∈ x.ns, (Lit.int .i64 m).wf = true)
    (hk : ∀ w', Sat e w' (S :: R) → K (.bool true) w') : Cl prog 6 #[.int .i64 n, .int .i64 dy, v] w K := by
  refine pacelinelaw04_CalendarScript_calls ?_
  unfold pacelinelaw04_CalendarScript
  rw [zero_32, zero_49]
  refine lnS_rd hS 0 rfl hr ?_
  refine gt_c (fun c1 => iff_t (hk _ hS)) (fun c1 => iff_f ?_)
  refine c_New_s hS fun q w1 h1 => ?_
  refine r_New_s h1 fun rq r w2 h2 => ?_
  obtain ⟨day, hday⟩ : ∃ d, d = max 1 (min dy 1048576) := ⟨_, rfl⟩
  obtain ⟨room, hroom⟩ : ∃ d, d = max 0 (min n 64) := ⟨_, rfl⟩
  rw [← hday, ← hroom] at h2
  have hd1 : 1 ≤ day := by omega
  clear hday hroom h1
  replace h2 : Sat e w2 (IsC q room day [] :: IsR r room [] :: dB rq r day :: S :: R) := h2.selR [_, _, _] [_, _, _] [2, 0, 1] (by decide) rfl
  refine bnp_s _ (gd_ff (gd_ff ?_))
  refine c_Days_s h2 fun vd w3 h3 => ?_
  refine gd_ff (lnS_rd h3 0 rfl (fun g hg => own_rd hg) (gd_ff (ne_f (by rw [cntOf_length]; rfl) (pk_f (iff_f ?_)))))
  replace h3 : Sat e w3 (IsC q room day [] :: IsR r room [] :: dB rq r day :: S :: R) := h3.drop
  refine lpi1 (fun z t9 w => ∃ (j : Nat) (lr : List Msg), t9 = .int .i64 (j : Int) ∧ z = l.length - j ∧ j ≤ l.length ∧ Sat e w (IsC q room day lr :: IsR r room lr :: dB rq r day :: S :: R)) l.length
    ⟨0, [], rfl, rfl, Nat.zero_le _, h3⟩ ?_
  clear h2 h3
  rintro z _ w g1 ⟨j, lr, rfl, rfl, hj, h3⟩ hg
  refine lnS_rd h3 3 rfl hr ?_
  refine lt_c (fun c2 => iff_t ?_) (fun c2 => iff_f (hk _ (h3.selR [_, _, _, _] [_] [3] (by decide) rfl)))
  obtain ⟨s, hsx⟩ := get_of_lt (l := l) (j := j) (by omega)
  have ht := PStep.in64 (hw s (List.mem_of_getElem? hsx))
  refine ixS_rd h3 3 rfl hr (fun _ => rfl) hsx fun a ha => ?_
  refine ldN_of h3 3 rfl ha rfl ?_
  refine al_s (cs := ints [0, 0, 0, 0, 0, 0, 0]) h3 rfl fun d w4 h4 => ?_
  refine stN_at h4 0 rfl (vs := s.cs) rfl rfl (Nat.le_of_ble_eq_true rfl) (ints_flat _) (cs' := s.cs) (by kernel_rfl) fun w5 h5 => ?_
  replace h5 : Sat e w5 (IsC q room day lr :: IsR r room lr :: dB rq r day :: blk d 49 s.cs :: S :: R) := h5.selR [_, _, _, _] [_, _, _, _] [1, 2, 3, 0] (by decide) rfl
  clear h4 h3
  refine fld_at (ld1_at h5 3 rfl (v := .int .i64 s.Kind) rfl ?_)
  refine J0.cut (fun w' => ∃ lr, Sat e w' (IsC q room day lr :: IsR r room lr :: dB rq r day :: S :: R)) (fun k2 hcut => ?_) ?_
  · have hend : ∀ lr w', Sat e w' (IsC q room day lr :: IsR r room lr :: dB rq r day :: blk d 49 s.cs :: S :: R) → k2 w' := fun lr w' h' =>
      hcut w' ⟨lr, h'.selR [_, _, _, _] [_, _, _] [0, 1, 2] (by decide) rfl⟩
    refine eq_c (fun c3 => iff_t ?_) (fun c3 => iff_f ?_)
    · refine dr_s h5 fun w6 h6 => ?_
      refine fld_at (ldN_at h6 3 rfl (vs := s.M.cs) (by rfl) rfl ?_)
      refine fld_at (ldN_at h6 3 rfl (vs := s.M.cs) (by rfl) rfl ?_)
      refine c_Push_s hd1 ht h6 fun w7 h7 => ?_
      refine ⟨ldN_at h7 3 rfl (vs := s.M.cs) (by rfl) rfl ⟨rfl, rfl⟩, ?_⟩
      replace h7 := h7.selR [_, _, _] [IsR r room lr, dB rq r day, IsC q room day (pushL room lr s.M)] [1, 2, 0] (by decide) rfl
      refine r_Push_s h7 fun w8 h8 => ?_
      exact ne_f rfl (iff_f (hend _ _ (h8.selR [_, _, _] [_, _, _] [2, 0, 1] (by decide) rfl)))
    · refine eq_d ?_
      refine J1.cut (fun t w' => ∃ b, t = .bool b ∧ w' = w5) (fun k3 hcut3 => ?_) ?_
      · refine iff_d (fun _ => hcut3 _ _ ⟨_, rfl, rfl⟩) (fun _ => eq_d (iff_d (fun _ => hcut3 _ _ ⟨_, rfl, rfl⟩) (fun _ => eq_d (hcut3 _ _ ⟨_, rfl, rfl⟩))))
      · rintro _ _ ⟨b, rfl, rfl⟩
        refine iff_b b (fun _ => ?_) (fun _ => ?_)
        · refine c_First_s h5 fun w6 h6 => ?_
          refine xt_02 (xt_12 ?_)
          refine al_s (cs := Msg.zero.cs) h6 rfl fun d9 w7 h7 => ?_
          refine stN_at h7 0 rfl (vs := (hdM lr).cs) rfl rfl (Nat.le_of_ble_eq_true rfl) (ints_flat _) (cs' := (hdM lr).cs) (by kernel_rfl) fun w8 h8 => ?_
          refine ncP_p (fld_at (ld1_at h8 3 rfl (v := .pointer (some ⟨r, 0, none⟩)) rfl ?_))
          refine r_First_s (h8.pick 2 rfl) fun w9 h9 => ?_
          refine xt_02 (xt_12 ?_)
          refine al_s (cs := Msg.zero.cs) h9 rfl fun d11 w10 h10 => ?_
          refine stN_at h10 0 rfl (vs := (hdM lr).cs) rfl rfl (Nat.le_of_ble_eq_true rfl) (ints_flat _) (cs' := (hdM lr).cs) (by kernel_rfl) fun w11 h11 => ?_
          replace h11 : Sat e w11 (IsC q room day lr :: IsR r room lr :: dB rq r day :: blk d 49 s.cs :: blk d9 32 (hdM lr).cs :: blk d11 32 (hdM lr).cs :: S :: R) := h11.selR [_, _, _, _, _, _] [_, _, _, _, _, _] [3, 1, 4, 5, 2, 0] (by decide) rfl
          refine fld_at (ld1_at h11 3 rfl (v := .int .i64 s.Kind) rfl ?_)
          refine eq_d ?_
          refine J2.cut (fun t10 t12 w' => ∃ (x : Msg) (b : Bool) (lr : List Msg), t10 = .bool b ∧ t12 = .bool b ∧ Sat e w' (IsC q room day lr :: IsR r room lr :: dB rq r day :: blk d 49 s.cs :: blk d9 32 x.cs :: blk d11 32 x.cs :: S :: R)) (fun k4 hcut4 => ?_) ?_
          · refine iff_d (fun _ => ?_) (fun _ => hcut4 _ _ _ ⟨_, _, lr, rfl, rfl, h11⟩)
            refine c_Pop_s hd1 h11 fun w12 h12 => ?_
            refine xt_02 (xt_12 ?_)
            refine stN_at h12 4 rfl (vs := (hdM lr).cs) rfl rfl (Nat.le_of_ble_eq_true rfl) (ints_flat _) (cs' := (hdM lr).cs) (by kernel_rfl) fun w13 h13 => ?_
            refine ncP_p (fld_at (ld1_at h13 2 rfl (v := .pointer (some ⟨r, 0, none⟩)) rfl ?_))
            refine r_Pop_s (Sat.pick h13 1 rfl) fun w14 h14 => ?_
            refine xt_02 (xt_12 ?_)
            refine stN_at h14 5 rfl (vs := (hdM lr).cs) rfl rfl (Nat.le_of_ble_eq_true rfl) (ints_flat _) (cs' := (hdM lr).cs) (by kernel_rfl) fun w15 h15 => ?_
            exact hcut4 _ _ _ ⟨hdM lr, hasM lr, popL lr, rfl, rfl, h15.selR [_, _, _, _, _, _] [_, _, _, _, _, _] [1, 0, 2, 3, 4, 5] (by decide) rfl⟩
          · rintro _ _ w12 ⟨y, b2, lr1, rfl, rfl, h12⟩
            refine fld_at (ld1_at h12 3 rfl (v := .int .i64 s.Kind) rfl ?_)
            refine eq_d ?_
            refine J2.cut (fun t10 t12 w' => ∃ (x : Msg) (b : Bool) (lr : List Msg), t10 = .bool b ∧ t12 = .bool b ∧ Sat e w' (IsC q room day lr :: IsR r room lr :: dB rq r day :: blk d 49 s.cs :: blk d9 32 x.cs :: blk d11 32 x.cs :: S :: R)) (fun k5 hcut5 => ?_) ?_
            · refine iff_d (fun _ => ?_) (fun _ => hcut5 _ _ _ ⟨y, b2, lr1, rfl, rfl, h12⟩)
              refine fld_at (fld_at (ldN_at h12 3 rfl (vs := s.M.key.cs) (by rfl) rfl ?_))
              refine c_Remove_s hd1 ht h12 fun w13 h13 => ?_
              refine xt_02 (xt_12 ?_)
              refine stN_at h13 4 rfl (vs := (fdM lr1 s.M.key).cs) rfl rfl (Nat.le_of_ble_eq_true rfl) (ints_flat _) (cs' := (fdM lr1 s.M.key).cs) (by kernel_rfl) fun w14 h14 => ?_
              refine dr_s h14 fun w15 h15 => ?_
              refine ncP_p (fld_at (ld1_at h15 2 rfl (v := .pointer (some ⟨r, 0, none⟩)) rfl ?_))
              refine fld_at (fld_at (ldN_at h15 3 rfl (vs := s.M.key.cs) (by rfl) rfl ?_))
              refine r_Remove_s (Sat.pick h15 1 rfl) fun w16 h16 => ?_
              refine xt_02 (xt_12 ?_)
              refine stN_at h16 5 rfl (vs := (fdM lr1 s.M.key).cs) rfl rfl (Nat.le_of_ble_eq_true rfl) (ints_flat _) (cs' := (fdM lr1 s.M.key).cs) (by kernel_rfl) fun w17 h17 => ?_
              exact hcut5 _ _ _ ⟨fdM lr1 s.M.key, inM lr1 s.M.key, without lr1 s.M.key, rfl, rfl, h17.selR [_, _, _, _, _, _] [_, _, _, _, _, _] [1, 0, 2, 3, 4, 5] (by decide) rfl⟩
            · rintro _ _ w13 ⟨x, b3, lr2, rfl, rfl, h13⟩
              refine ldN_at h13 4 rfl (vs := x.cs) (by rfl) rfl ?_
              refine ldN_at h13 5 rfl (vs := x.cs) (by rfl) rfl ?_
              refine bO_ne (ns := x.ns) (ms := x.ns) eqT_32 agg_32 egt_32 (by decide) rfl ?_
              rw [Msg.eq_ns, decide_eq_true rfl]
              refine gd_ff (gd_ff (gd_ff (bne_s ?_)))
              rw [bne_self_eq_false]
              exact pk_f (iff_f (hend _ _ (h13.selR [_, _, _, _, _, _] [_, _, _, _] [0, 1, 2, 3] (by decide) rfl)))
        · refine eq_d (iff_d (fun _ => ?_) (fun _ => hend _ _ h5))
          refine dr_s h5 fun w6 h6 => ?_
          refine fld_at (fld_at (fld_at (ld1_at h6 3 rfl (v := .int .i64 s.M.key.T) rfl ?_)))
          refine ncP_p (fld_at (ld1_at h6 2 rfl (v := .pointer (some ⟨r, 0, none⟩)) rfl ?_))
          refine fld_at (fld_at (fld_at (ld1_at h6 3 rfl (v := .int .i64 s.M.key.T) rfl ?_)))
          refine c_Below_s h6 fun v1 w7 h7 => ?_
          refine ⟨ld1_at h7 4 rfl (v := .int .i64 s.M.key.T) rfl ⟨rfl, rfl⟩, ld1_at h7 3 rfl (v := .pointer (some ⟨r, 0, none⟩)) rfl ⟨rfl, rfl⟩, ?_⟩
          refine r_Below_s (h7.pick 2 rfl) fun v2 w8 h8 => ?_
          have h64 := (c_ok h6).l64
          have hfl := List.length_filter_le (fun x : Msg => decide (x.key.T < s.M.key.T)) lr
          refine same04_s (h8.selR [_, _, _, _] [_, _, _, _] [2, 0, 3, 1] (by decide) rfl) (fun g hg => own_rd hg) (fun g hg => own_rd hg) (by omega) fun w9 h9 => ?_
          rw [decide_eq_true rfl]
          exact not_t (iff_f (hend _ _ (h9.selR [_, _, _, _, _, _] [_, _, _, _] [2, 3, 4, 5] (by decide) rfl)))
  · rintro w6 ⟨lr1, h6⟩
    have h64 := (c_ok h6).l64
    refine c_Days_s h6 fun v1 w7 h7 => ?_
    replace h7 : Sat e w7 (IsR r room lr1 :: dB rq r day :: IsC q room day lr1 :: ownS 3 1 i1 v1 (cntOf day lr1) :: S :: R) := h7.selR [_, _, _, _] [_, _, _, _] [2, 3, 1, 0] (by decide) rfl
    refine r_Days_s hd1 h7 fun v2 w8 h8 => ?_
    refine dr_s h8 fun w9 h9 => ?_
    refine ncP_p (fld_at (ld1_at h9 2 rfl (v := .pointer (some ⟨r, 0, none⟩)) rfl ?_))
    refine c_Len_s (h9.pick 3 rfl) ?_
    refine ⟨ld1_at h9 2 rfl (v := .pointer (some ⟨r, 0, none⟩)) rfl ⟨rfl, rfl⟩, ?_⟩
    refine r_Len_s (h9.pick 1 rfl) ?_
    refine ne_f rfl (gd_ff (gd_ff (gd_ff (nc_p (gd_ff (fld_at (gd_ff (ld1_at h9 2 rfl (v := .pointer (some ⟨r, 0, none⟩)) rfl (gd_ff ?_)))))))))
    refine c_List_s (h9.pick 3 rfl) fun v3 w10 h10 => ?_
    refine ⟨gd_ff (ld1_at h10 4 rfl (v := .pointer (some ⟨r, 0, none⟩)) rfl ⟨rfl, rfl⟩), gd_ff ?_⟩
    refine r_List_s (h10.pick 3 rfl) fun v4 w11 h11 => gd_ff ?_
    replace h11 : Sat e w11 (ownS 32 6 Msg.cs v3 lr1 :: ownS 32 6 Msg.cs v4 lr1 :: ownS 3 1 i1 v1 (cntOf day lr1) :: ownS 3 1 i1 v2 (cntOf day lr1) :: IsC q room day lr1 :: IsR r room lr1 :: dB rq r day :: S :: R) := h11.selR [_, _, _, _, _, _, _] [_, _, _, _, _, _, _] [2, 0, 6, 4, 3, 1, 5] (by decide) rfl
    refine same04_s h11 (fun g hg => own_rd hg) (fun g hg => own_rd hg) (by omega) fun w12 h12 => ?_
    rw [decide_eq_true rfl]
    refine gd_ff (not_t (pk_f (gd_ff (gd_ff ?_))))
    refine lnS_rd h12 2 rfl (fun g hg => own_rd hg) (gd_ff (ne_f (by rw [cntOf_length]; rfl) (pk_f (iff_f ?_))))
    refine lpi1 (fun z t17 w => ∃ k : Nat, t17 = .int .i64 (k : Int) ∧ z = 8 - k ∧ k ≤ 8 ∧ Sat e w (ownS 3 1 i1 v1 (cntOf day lr1) :: ownS 3 1 i1 v2 (cntOf day lr1) :: IsC q room day lr1 :: IsR r room lr1 :: dB rq r day :: S :: R)) 8
      ⟨0, rfl, rfl, by decide, h12.drop.drop⟩ ?_
    clear h12 h11 h10 h9 h8 h7
    rintro z _ w g3 ⟨k, rfl, rfl, hk8, h13⟩ hg3
    refine lt_c (fun c4 => iff_t ?_) (fun c4 => iff_f ?_)
    · refine dr_s h13 fun w14 h14 => ?_
      refine ixS_rd h14 0 rfl (fun g hg => own_rd hg) (fun _ => rfl) (cntOf_get (p := k) (by omega)) fun p hp => ?_
      refine ld1_of h14 0 rfl hp rfl ?_
      refine ixS_rd h14 1 rfl (fun g hg => own_rd hg) (fun _ => rfl) (cntOf_get (p := k) (by omega)) fun p hp => ?_
      refine ld1_of h14 1 rfl hp rfl ?_
      exact ne_f rfl (iff_f (inc_s (by omega) (hg3 _ _ _ (by omega) ⟨k + 1, rfl, rfl, by omega, h14⟩)))
    · exact inc_s (by omega) (hg _ _ _ (by omega) ⟨j + 1, lr1, rfl, rfl, by omega, h13.drop.drop⟩)
end Go.Proofs.Ytlmakkjbcmhaeaa
