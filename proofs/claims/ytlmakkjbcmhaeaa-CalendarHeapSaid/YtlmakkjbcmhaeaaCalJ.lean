/- The law CalendarHeap. Conditions: none. -/
import Derived.Test.YtlmakkjbcmhaeaaCalH
namespace Go.Proofs.Ytlmakkjbcmhaeaa
open Go Go.E
set_option maxRecDepth 100000
variable {e w : World} {R : List HP} {K : KV}

theorem pushV_valid {room : Int} {l : List Msg} {x : Msg} (h : validT x.key.T = false) : pushV room l x = 1 := if_pos h

theorem inf_s {p : Bool} {n m : Int} (hk : K (.bool (p && decide (¬ n = m))) w) :
    gd (.bool p) true (fun k => k (.int .i64 n) w) w fun a w => gd (.bool p) true (fun k => bi .neq .i64 a (Value.int IntKind.i64 m) w k) w fun b w => gd (.bool false) false (fun k => pk (.bool p) b (Value.bool false) w k) w K := by
  cases p with
  | false => exact gd_ft (gd_ft (gd_ff (pk_f hk)))
  | true => exact gd_tt (gd_tt (ne_d (gd_ff (pk_t hk))))

theorem calendarHeap_s {v : Value} {l : List PStep} {dy : Int} {S : HP} (hS : Sat e w (S :: R)) (_hd : (Lit.int .i64 dy).wf = true) (hr : ∀ g, S g → rdS 7 PStep.cs v l g) (hw : ∀ x ∈ l, ∀ m ∈ x.ns, (Lit.int .i64 m).wf = true)
    (hk : ∀ w', Sat e w' (S :: R) → K (.bool true) w') : Cl prog 7 #[.int .i64 dy, v] w K := by
  refine pacelinelaw04_CalendarHeap_calls ?_
  unfold pacelinelaw04_CalendarHeap
  rw [zero_49, zero_30]
  refine lnS_rd hS 0 rfl hr ?_
  refine gt_c (fun c1 => iff_t (hk _ hS)) (fun c1 => iff_f ?_)
  refine c_New_s hS fun q w1 h1 => ?_
  refine h_New_s h1 fun p w2 h2 => ?_
  obtain ⟨day, hday⟩ : ∃ d, d = max 1 (min dy 1048576) := ⟨_, rfl⟩
  rw [show max (0 : Int) (min 64 64) = 64 from by decide, ← hday] at h2
  have hd1 : 1 ≤ day := by omega
  clear hday h1
  refine lpi1 (fun z t9 w => ∃ (j : Nat) (lr : List Msg), t9 = .int .i64 (j : Int) ∧ z = l.length - j ∧ j ≤ l.length ∧ Sat e w (IsC q 64 day lr :: IsH p 64 lr :: S :: R)) l.length
    ⟨0, [], rfl, rfl, Nat.zero_le _, h2.swap⟩ ?_
  clear h2
  rintro z _ w g1 ⟨j, lr, rfl, rfl, hj, h3⟩ hg
  refine lnS_rd h3 2 rfl hr ?_
  refine lt_c (fun c2 => iff_t ?_) (fun c2 => iff_f ?_)
  · refine J0.cut (fun w' => ∃ lr, Sat e w' (IsC q 64 day lr :: IsH p 64 lr :: S :: R)) (fun k2 hcut => ?_) ?_
    · obtain ⟨s, hsx⟩ := get_of_lt (l := l) (j := j) (by omega)
      have ht := PStep.in64 (hw s (List.mem_of_getElem? hsx))
      refine ixS_rd h3 2 rfl hr (fun _ => rfl) hsx fun a ha => ?_
      refine ldN_of h3 2 rfl ha rfl ?_
      refine al_s (cs := ints [0, 0, 0, 0, 0, 0, 0]) h3 rfl fun d w4 h4 => ?_
      refine stN_at h4 0 rfl (vs := s.cs) rfl rfl (Nat.le_of_ble_eq_true rfl) (ints_flat _) (cs' := s.cs) (by kernel_rfl) fun w5 h5 => ?_
      replace h5 : Sat e w5 (IsC q 64 day lr :: IsH p 64 lr :: blk d 49 s.cs :: S :: R) := h5.selR [_, _, _] [_, _, _] [1, 2, 0] (by decide) rfl
      clear h4 h3
      have hend : ∀ lr w', Sat e w' (IsC q 64 day lr :: IsH p 64 lr :: blk d 49 s.cs :: S :: R) → k2 w' := fun lr w' h' =>
        hcut w' ⟨lr, h'.selR [_, _, _] [_, _] [0, 1] (by decide) rfl⟩
      refine fld_at (fld_at (fld_at (ld1_at h5 2 rfl (v := .int .i64 s.M.key.T) rfl ?_)))
      refine lt_c (fun c3 => gd_tf (gd_tf (gd_tf ?_))) (fun c3 => gd_ff (gd_ff (gt_d (gd_ff ?_))))
      · refine gd_u (gd_u (gd_tf (pk_t (iff_t (hend _ _ h5)))))
      refine inf_s (pk_f (iff_b _ (fun _ => hend _ _ h5) fun c4 => ?_))
      have hv : validT s.M.key.T = true := by
        have hn : ¬ (1099511627776 < s.M.key.T ∧ ¬ s.M.key.T = 1125899906842624) := by
          rintro ⟨e1, e2⟩
          rw [decide_eq_true e1, decide_eq_true e2] at c4
          cases c4
        unfold validT Inf MaxT
        exact decide_eq_true (by omega)
      refine dr_s h5 fun w6 h6 => ?_
      refine fld_at (ld1_at h6 2 rfl (v := .int .i64 s.Kind) rfl ?_)
      refine eq_d ?_
      have htail : ∀ lr w', Sat e w' (IsC q 64 day lr :: IsH p 64 lr :: blk d 49 s.cs :: S :: R) → (fun w =>
        fld 0 (Value.pointer (some ⟨d, 0, none⟩)) w fun t62 w =>
        ld1 t62 w fun t63 w =>
        bi .eql .i64 t63 (Value.int IntKind.i64 1) w fun t64 w =>
        J0 (fun w =>
        fld 0 (Value.pointer (some ⟨d, 0, none⟩)) w fun t83 w =>
        ld1 t83 w fun t84 w =>
        bi .eql .i64 t84 (Value.int IntKind.i64 3) w fun t85 w =>
        J0 (fun w =>
        Cl prog 11 #[(Value.pointer (some ⟨q, 0, none⟩))] w fun t111 w =>
        Cl prog 31 #[(Value.pointer (some ⟨p, 0, none⟩))] w fun t113 w =>
        bi .neq .i64 t111 t113 w fun t114 w =>
        gd t114 false (fun k => k (Value.pointer (some ⟨q, 0, none⟩)) w) w fun t116 w =>
        gd t114 false (fun k => Cl prog 18 #[t116] w k) w fun t117 w =>
        gd t114 false (fun k => k (Value.pointer (some ⟨p, 0, none⟩)) w) w fun t118 w =>
        gd t114 false (fun k => Cl prog 32 #[t118] w k) w fun t119 w =>
        gd t114 false (fun k => Cl prog 17 #[t117, t119] w k) w fun t120 w =>
        gd t114 false (fun k => bnot t120 w k) w fun t121 w =>
        pk t114 (Value.bool true) t121 w fun t122 w =>
        iff' t122
        (K (Value.bool false) w)
        (k2 w)) fun k4 =>
        iff' t85
        (fld 1 (Value.pointer (some ⟨d, 0, none⟩)) w fun t88 w =>
        fld 0 t88 w fun t89 w =>
        ldN 3 t89 w fun t90 w =>
        Cl prog 14 #[(Value.pointer (some ⟨q, 0, none⟩)), t90] w fun t91 w =>
        xt 0 t91 w fun t92 w =>
        xt 1 t91 w fun t93 w =>
        al (zeroD prog 32) 32 w fun t14 w =>
        stN 6 t14 t92 w fun _ w =>
        fld 1 (Value.pointer (some ⟨d, 0, none⟩)) w fun t96 w =>
        fld 0 t96 w fun t97 w =>
        ldN 3 t97 w fun t98 w =>
        Cl prog 30 #[(Value.pointer (some ⟨p, 0, none⟩)), t98] w fun t99 w =>
        xt 0 t99 w fun t100 w =>
        xt 1 t99 w fun t101 w =>
        al (zeroD prog 32) 32 w fun t16 w =>
        stN 6 t16 t100 w fun _ w =>
        ldN 6 t14 w fun t102 w =>
        ldN 6 t16 w fun t103 w =>
        bO prog .neq 32 (Operand.tmp 102) (Operand.tmp 103) t102 t103 w fun t104 w =>
        gd t104 false (fun k => k t93 w) w fun t106 w =>
        gd t104 false (fun k => k t101 w) w fun t107 w =>
        gd t104 false (fun k => bb .neq t106 t107 w k) w fun t108 w =>
        pk t104 (Value.bool true) t108 w fun t109 w =>
        iff' t109
        (K (Value.bool false) w)
        (k4 w))
        (k4 w)) fun k3 =>
        iff' t64
        (Cl prog 20 #[(Value.pointer (some ⟨q, 0, none⟩))] w fun t67 w =>
        xt 0 t67 w fun t68 w =>
        xt 1 t67 w fun t69 w =>
        al (zeroD prog 32) 32 w fun t10 w =>
        stN 6 t10 t68 w fun _ w =>
        Cl prog 29 #[(Value.pointer (some ⟨p, 0, none⟩))] w fun t72 w =>
        xt 0 t72 w fun t73 w =>
        xt 1 t72 w fun t74 w =>
        al (zeroD prog 32) 32 w fun t12 w =>
        stN 6 t12 t73 w fun _ w =>
        ldN 6 t10 w fun t75 w =>
        ldN 6 t12 w fun t76 w =>
        bO prog .neq 32 (Operand.tmp 75) (Operand.tmp 76) t75 t76 w fun t77 w =>
        gd t77 false (fun k => k t69 w) w fun t79 w =>
        gd t77 false (fun k => k t74 w) w fun t80 w =>
        gd t77 false (fun k => bb .neq t79 t80 w k) w fun t81 w =>
        pk t77 (Value.bool true) t81 w fun t82 w =>
        iff' t82
        (K (Value.bool false) w)
        (k3 w))
        (k3 w)) w' := by
        intro lr w' h7
        refine fld_at (ld1_at h7 2 rfl (v := .int .i64 s.Kind) rfl ?_)
        refine eq_d ?_
        refine J0.cut (fun w' => ∃ lr, Sat e w' (IsC q 64 day lr :: IsH p 64 lr :: blk d 49 s.cs :: S :: R)) (fun k3 hcut3 => ?_) ?_
        · refine iff_d (fun _ => ?_) (fun _ => hcut3 _ ⟨lr, h7⟩)
          refine c_Pop_s hd1 h7 fun w8 h8 => ?_
          refine xt_02 (xt_12 ?_)
          refine al_s (cs := Msg.zero.cs) h8 (by rw [zero_32]; rfl) fun d1 w9 h9 => ?_
          refine stN_at h9 0 rfl (vs := (hdM lr).cs) rfl rfl (Nat.le_of_ble_eq_true rfl) (ints_flat _) (cs' := (hdM lr).cs) (by kernel_rfl) fun w10 h10 => ?_
          refine h_Pop_s (h10.pick 2 rfl) fun w11 h11 => ?_
          refine xt_02 (xt_12 ?_)
          refine al_s (cs := Msg.zero.cs) h11 (by rw [zero_32]; rfl) fun d2 w12 h12 => ?_
          refine stN_at h12 0 rfl (vs := (hdM lr).cs) rfl rfl (Nat.le_of_ble_eq_true rfl) (ints_flat _) (cs' := (hdM lr).cs) (by kernel_rfl) fun w13 h13 => ?_
          refine ldN_at h13 2 rfl (vs := (hdM lr).cs) (by rfl) rfl ?_
          refine ldN_at h13 0 rfl (vs := (hdM lr).cs) (by rfl) rfl ?_
          refine bO_ne (ns := (hdM lr).ns) (ms := (hdM lr).ns) eqT_32 agg_32 egt_32 (by decide) rfl ?_
          rw [Msg.eq_ns, decide_eq_true rfl]
          refine gd_ff (gd_ff (gd_ff (bne_s ?_)))
          rw [bne_self_eq_false]
          exact pk_f (iff_f (hcut3 _ ⟨popL lr, h13.selR [_, _, _, _, _] [_, _, _] [3, 1, 4] (by decide) rfl⟩))
        · rintro w8 ⟨lr, h8⟩
          refine fld_at (ld1_at h8 2 rfl (v := .int .i64 s.Kind) rfl ?_)
          refine eq_d ?_
          refine J0.cut (fun w' => ∃ lr, Sat e w' (IsC q 64 day lr :: IsH p 64 lr :: blk d 49 s.cs :: S :: R)) (fun k4 hcut4 => ?_) ?_
          · refine iff_d (fun _ => ?_) (fun _ => hcut4 _ ⟨lr, h8⟩)
            refine fld_at (fld_at (ldN_at h8 2 rfl (vs := s.M.key.cs) (by rfl) rfl ?_))
            refine c_Remove_s hd1 ht h8 fun w9 h9 => ?_
            refine xt_02 (xt_12 ?_)
            refine al_s (cs := Msg.zero.cs) h9 (by rw [zero_32]; rfl) fun d1 w10 h10 => ?_
            refine stN_at h10 0 rfl (vs := (fdM lr s.M.key).cs) rfl rfl (Nat.le_of_ble_eq_true rfl) (ints_flat _) (cs' := (fdM lr s.M.key).cs) (by kernel_rfl) fun w11 h11 => ?_
            refine fld_at (fld_at (ldN_at h11 3 rfl (vs := s.M.key.cs) (by rfl) rfl ?_))
            refine h_Remove_s (h11.pick 2 rfl) fun w12 h12 => ?_
            refine xt_02 (xt_12 ?_)
            refine al_s (cs := Msg.zero.cs) h12 (by rw [zero_32]; rfl) fun d2 w13 h13 => ?_
            refine stN_at h13 0 rfl (vs := (fdM lr s.M.key).cs) rfl rfl (Nat.le_of_ble_eq_true rfl) (ints_flat _) (cs' := (fdM lr s.M.key).cs) (by kernel_rfl) fun w14 h14 => ?_
            refine ldN_at h14 2 rfl (vs := (fdM lr s.M.key).cs) (by rfl) rfl ?_
            refine ldN_at h14 0 rfl (vs := (fdM lr s.M.key).cs) (by rfl) rfl ?_
            refine bO_ne (ns := (fdM lr s.M.key).ns) (ms := (fdM lr s.M.key).ns) eqT_32 agg_32 egt_32 (by decide) rfl ?_
            rw [Msg.eq_ns, decide_eq_true rfl]
            refine gd_ff (gd_ff (gd_ff (bne_s ?_)))
            rw [bne_self_eq_false]
            exact pk_f (iff_f (hcut4 _ ⟨without lr s.M.key, h14.selR [_, _, _, _, _] [_, _, _] [3, 1, 4] (by decide) rfl⟩))
          · rintro w9 ⟨lr, h9⟩
            refine c_Len_s h9 ?_
            refine h_Len_s h9.swap ?_
            refine ne_f rfl (gd_ff (gd_ff ?_))
            refine c_List_s h9 fun v1 w10 h10 => ?_
            refine gd_ff (gd_ff ?_)
            refine h_List_s (h10.pick 2 rfl) fun v2 w11 h11 => ?_
            have h64 := (c_ok h9).l64
            refine gd_ff ?_
            refine same04_s (h11.selR [_, _, _, _] [_, _, _, _] [2, 0, 3, 1] (by decide) rfl) (fun g hg => own_rd hg) (fun g hg => own_rd hg) (by omega) fun w12 h12 => ?_
            rw [decide_eq_true rfl]
            exact gd_ff (not_t (pk_f (iff_f (hend _ _ h12.drop.drop))))
      by_cases hk0 : s.Kind = 0
      · rw [decide_eq_true hk0]
        refine gd_tt (gd_tt (fld_at (gd_tt (ldN_at h6 2 rfl (vs := s.M.cs) (by rfl) rfl (gd_tt (gd_tt (fld_at (gd_tt (ldN_at h6 2 rfl (vs := s.M.cs) (by rfl) rfl (gd_tt ?_))))))))))
        refine c_Push_s hd1 ht h6 fun w7 h7 => ?_
        refine ⟨gd_tt (ldN_at h7 2 rfl (vs := s.M.cs) (by rfl) rfl ⟨rfl, rfl⟩), gd_tt ?_⟩
        refine h_Push_s hv h7.swap fun w8 h8 => ?_
        exact gd_tt (ne_f rfl (pk_t (iff_f (htail _ _ h8.swap))))
      · rw [decide_eq_false hk0]
        refine gd_ft (gd_ft (gd_ft (gd_ft (gd_ft (gd_ft (gd_ft ?_))))))
        exact ⟨gd_ft ⟨rfl, rfl⟩, gd_ft (gd_ft (pk_f (iff_f (htail _ _ h6))))⟩
    · rintro w4 ⟨lr1, h4⟩
      exact inc_s (by omega) (hg _ _ _ (by omega) ⟨j + 1, lr1, rfl, rfl, by omega, h4⟩)
  · refine bld_s (Key.cs ⟨-1, 0, 0⟩) (by kernel_rfl) ?_
    refine bld_s (Msg.cs ⟨⟨-1, 0, 0⟩, 0, 0, 0⟩) (by kernel_rfl) ?_
    refine c_Push_s (x := ⟨⟨-1, 0, 0⟩, 0, 0, 0⟩) hd1 (by unfold In64; decide) h3 fun w4 h4 => ?_
    rw [pushV_neg]
    exact eq_t rfl (hk _ (h4.selR [_, _, _] [_] [2] (by decide) rfl))
end Go.Proofs.Ytlmakkjbcmhaeaa
