/- The law CalendarGone. Conditions: none. -/
import Derived.Test.YtlmakkjbcmhaeaaCalK
namespace Go.Proofs.Ytlmakkjbcmhaeaa
open Go Go.E
set_option maxRecDepth 100000
variable {e w : World} {R : List HP} {K : KV}

theorem Key.of_ns {l : List Int} (h : l.length = 3) : (Key.of l).ns = l := by
  match l, h with
  | [_, _, _], _ => rfl
theorem cnt_sum (day : Int) (l : List Msg) : (cntOf day l).sum = l.length := by
  have h8 : ∀ l, cntOf day l = [(cntN day l 0 : Int), (cntN day l 1 : Int), (cntN day l 2 : Int), (cntN day l 3 : Int), (cntN day l 4 : Int), (cntN day l 5 : Int), (cntN day l 6 : Int), (cntN day l 7 : Int)] := fun _ => rfl
  have hc : ∀ (x : Msg) (l : List Msg) (p : Nat), cntN day (x :: l) p = cntN day l p + if pageN day x.key.T = p then 1 else 0 := fun x l p => by
    unfold cntN
    rw [List.countP_cons]
    simp
  induction l with
  | nil => rfl
  | cons x l ih =>
    rw [h8] at ih ⊢
    simp only [List.sum_cons, List.sum_nil, hc, List.length_cons] at ih ⊢
    have hp := pageN_lt (day := day) (t := x.key.T)
    generalize pageN day x.key.T = n at hp ⊢
    have : n = 0 ∨ n = 1 ∨ n = 2 ∨ n = 3 ∨ n = 4 ∨ n = 5 ∨ n = 6 ∨ n = 7 := by omega
    rcases this with rfl | rfl | rfl | rfl | rfl | rfl | rfl | rfl <;> simp <;> omega
theorem take_sum_le {l : List Int} (hn : ∀ x ∈ l, 0 ≤ x) (j : Nat) : 0 ≤ (l.take j).sum ∧ (l.take j).sum ≤ l.sum := by
  induction l generalizing j with
  | nil => simp
  | cons a l ih =>
    have ha := hn a List.mem_cons_self
    have hl : ∀ x ∈ l, 0 ≤ x := fun x hx => hn x (List.mem_cons_of_mem _ hx)
    have h0 := ih hl 0
    cases j with
    | zero => simp only [List.take_zero, List.sum_nil, List.sum_cons] at h0 ⊢; omega
    | succ j =>
      have := ih hl j
      simp only [List.take_succ_cons, List.sum_cons]
      omega
theorem inM_without {l : List Msg} {k : Key} : inM (without l k) k = false := by
  rw [inM_false]
  intro y hy
  have := (List.mem_filter.1 hy).2
  simpa using this
theorem without_two {l : List Msg} {k : Key} : without (without l k) k = without l k := without_no (inM_false.1 inM_without)

theorem calendarGone_s {v : Value} {l : List Msg} {dy : Int} {k : Key} {S : HP} (hS : Sat e w (S :: R)) (_hd : (Lit.int .i64 dy).wf = true) (hr : ∀ g, S g → rdS 6 Msg.cs v l g) (hw : ∀ x ∈ l, ∀ m ∈ x.ns, (Lit.int .i64 m).wf = true) (hkw : ∀ m ∈ k.ns, (Lit.int .i64 m).wf = true)
    (hk : ∀ w', Sat e w' (S :: R) → K (.bool true) w') : Cl prog 4 #[.int .i64 dy, v, .agg k.cs.toArray] w K := by
  refine pacelinelaw04_CalendarGone_calls ?_
  unfold pacelinelaw04_CalendarGone
  have hkt := Key.in64 hkw
  refine al_s (cs := k.cs) hS rfl fun kb w0 h0 => ?_
  refine lnS_rd h0 1 rfl hr ?_
  refine gt_c (fun c1 => iff_t (hk _ h0.drop)) (fun c1 => iff_f ?_)
  refine c_New_s h0 fun q w1 h1 => ?_
  refine r_New_s h1 fun rq r w2 h2 => ?_
  obtain ⟨day, hday⟩ : ∃ d, d = max 1 (min dy 1048576) := ⟨_, rfl⟩
  rw [show max (0 : Int) (min 64 64) = 64 from by decide, ← hday] at h2
  have hd1 : 1 ≤ day := by omega
  clear hday h1
  replace h2 : Sat e w2 (IsC q 64 day [] :: IsR r 64 [] :: dB rq r day :: blk kb 30 k.cs :: S :: R) := h2.selR [_, _, _] [_, _, _] [2, 0, 1] (by decide) rfl
  refine lpi1 (fun z t9 w => ∃ (j : Nat) (lr : List Msg), t9 = .int .i64 (j : Int) ∧ z = l.length - j ∧ j ≤ l.length ∧ Sat e w (IsC q 64 day lr :: IsR r 64 lr :: dB rq r day :: blk kb 30 k.cs :: S :: R)) l.length
    ⟨0, [], rfl, rfl, Nat.zero_le _, h2⟩ ?_
  clear h2
  rintro z _ w g1 ⟨j, lr, rfl, rfl, hj, h3⟩ hg
  refine lnS_rd h3 4 rfl hr ?_
  refine lt_c (fun c2 => iff_t ?_) (fun c2 => iff_f ?_)
  · obtain ⟨x, hx⟩ := get_of_lt (l := l) (j := j) (by omega)
    have ht := Msg.in64 (hw x (List.mem_of_getElem? hx))
    refine dr_s h3 fun w4 h4 => ?_
    refine ixS_rd h4 4 rfl hr (fun _ => rfl) hx fun a ha => ?_
    refine ldN_of h4 4 rfl ha rfl ?_
    refine ixS_rd h4 4 rfl hr (fun _ => rfl) hx fun a ha => ?_
    refine ldN_of h4 4 rfl ha rfl ?_
    refine c_Push_s hd1 ht h4 fun w5 h5 => ?_
    refine ⟨ldN_of h5 4 rfl ha rfl ⟨rfl, rfl⟩, ?_⟩
    replace h5 := h5.selR [_, _, _] [IsR r 64 lr, dB rq r day, IsC q 64 day (pushL 64 lr x)] [1, 2, 0] (by decide) rfl
    refine r_Push_s h5 fun w6 h6 => ?_
    exact ne_f rfl (iff_f (inc_s (by omega) (hg _ _ _ (by omega) ⟨j + 1, _, rfl, rfl, by omega, h6.selR [_, _, _] [_, _, _] [2, 0, 1] (by decide) rfl⟩)))
  · refine lnS_rd h3 4 rfl hr ?_
    refine gt_d ?_
    refine J0.cut (fun w' => ∃ lr, Sat e w' (IsC q 64 day lr :: IsR r 64 lr :: dB rq r day :: blk kb 30 k.cs :: S :: R)) (fun k2 hcut => ?_) ?_
    · refine iff_d (fun c3 => ?_) (fun _ => hcut _ ⟨lr, h3⟩)
      obtain ⟨x, hx⟩ := get_of_lt (l := l) (j := 0) (by omega)
      have ht := Msg.in64 (hw x (List.mem_of_getElem? hx))
      refine ixS_rd (j := 0) h3 4 rfl hr (fun _ => rfl) hx fun a ha => ?_
      refine fld_of ha fun a1 ha1 => ?_
      refine ldN_sub (us := x.key.cs) h3 4 rfl ha1 (by rfl) rfl ?_
      refine c_Remove_s hd1 ht h3 fun w4 h4 => ?_
      refine dr_s h4 fun w5 h5 => ?_
      refine ncP_p (fld_at (ld1_at h5 2 rfl (v := .pointer (some ⟨r, 0, none⟩)) rfl ?_))
      refine ixS_rd (j := 0) h5 4 rfl hr (fun _ => rfl) hx fun a ha => ?_
      refine fld_of ha fun a1 ha1 => ?_
      refine ldN_sub (us := x.key.cs) h5 4 rfl ha1 (by rfl) rfl ?_
      refine r_Remove_s (h5.pick 1 rfl) fun w6 h6 => ?_
      exact hcut _ ⟨_, h6.selR [_, _, _] [_, _, _] [1, 0, 2] (by decide) rfl⟩
    clear h3
    rintro w3 ⟨lr, h3⟩
    have htail : ∀ (bq : Bool) d10 d12 w', Sat e w' (IsC q 64 day (without lr k) :: IsR r 64 (without lr k) :: dB rq r day :: blk kb 30 k.cs :: blk d10 32 (fdM lr k).cs :: blk d12 32 (fdM lr k).cs :: S :: R) → (fun w =>
      ldN 3 (Value.pointer (some ⟨kb, 0, none⟩)) w fun t81 w =>
      Cl prog 14 #[(Value.pointer (some ⟨q, 0, none⟩)), t81] w fun t82 w =>
      xt 0 t82 w fun t83 w =>
      xt 1 t82 w fun t84 w =>
      al (zeroD prog 32) 32 w fun t14 w =>
      stN 6 t14 t83 w fun _ w =>
      Cl prog 10 #[(Value.pointer (some ⟨q, 0, none⟩))] w fun t86 w =>
      Cl prog 16 #[(Value.pointer (some ⟨rq, 0, none⟩))] w fun t88 w =>
      ldN 6 (Value.pointer (some ⟨d10, 0, none⟩)) w fun t89 w =>
      ldN 6 (Value.pointer (some ⟨d12, 0, none⟩)) w fun t90 w =>
      bO prog .neq 32 (Operand.tmp 89) (Operand.tmp 90) t89 t90 w fun t91 w =>
      gd t91 false (fun k => k (Value.bool bq) w) w fun t93 w =>
      gd t91 false (fun k => k (Value.bool bq) w) w fun t94 w =>
      gd t91 false (fun k => bb .neq t93 t94 w k) w fun t95 w =>
      pk t91 (Value.bool true) t95 w fun t96 w =>
      gd t96 false (fun k => k t84 w) w fun t98 w =>
      pk t96 (Value.bool true) t98 w fun t99 w =>
      gd t99 false (fun k => k t86 w) w fun t101 w =>
      gd t99 false (fun k => lnS t101 w k) w fun t102 w =>
      gd t99 false (fun k => bi .neq .i64 t102 (Value.int IntKind.i64 8) w k) w fun t103 w =>
      pk t99 (Value.bool true) t103 w fun t104 w =>
      iff' t104
      (K (Value.bool false) w)
      (lp [(Value.int IntKind.i64 0), (Value.int IntKind.i64 0)] w (b2 fun t18 t19 w g3 =>
      bi .lss .i64 t19 (Value.int IntKind.i64 8) w fun t106 w =>
      iff' t106
      (ixS 1 t86 t19 w fun t112 w =>
      ld1 t112 w fun t113 w =>
      bi .add .i64 t18 t113 w fun t114 w =>
      dr w fun w =>
      ixS 1 t86 t19 w fun t117 _ =>
      ld1 t117 w fun t118 _ =>
      ixS 1 t88 t19 w fun t121 _ =>
      ld1 t121 w fun t122 _ =>
      bi .neq .i64 t118 t122 w fun t123 _ =>
      iff' t123
      (K (Value.bool false) w)
      (bi .add .i64 t19 (Value.int IntKind.i64 1) w fun t108 w =>
      g3 [t114, t108] w))
      (dr w fun w =>
      Cl prog 11 #[(Value.pointer (some ⟨q, 0, none⟩))] w fun t126 w =>
      bi .eql .i64 t18 t126 w fun t127 _ =>
      gd t127 true (fun k => k (Value.pointer (some ⟨q, 0, none⟩)) w) w fun t129 _ =>
      gd t127 true (fun k => k (Value.pointer (some ⟨rq, 0, none⟩)) w) w fun t131 _ =>
      gd t127 true (fun k => nc t131 w k) w fun t132 _ =>
      gd t127 true (fun k => fld 0 t132 w k) w fun t133 _ =>
      gd t127 true (fun k => ld1 t133 w k) w fun t134 _ =>
      gd t127 true (fun k => Cl prog 18 #[t129] w k) w fun t130 w =>
      (gd t127 true (fun k => ld1 t133 w k) w (fun v' w'' => v' = t134 ∧ w'' = w)) ∧ (gd t127 true (fun k => Cl prog 19 #[t134] w k) w fun t135 w =>
      gd t127 true (fun k => Cl prog 17 #[t130, t135] w k) w fun t136 w =>
      pk t127 t136 (Value.bool false) w fun t137 _ =>
      K t137 w))))) w' := by
      intro bq d10 d12 w' h7
      refine ldN_at h7 3 rfl (vs := k.cs) (by rfl) rfl ?_
      refine c_Remove_s hd1 hkt h7 fun w8 h8 => ?_
      rw [without_two] at h8
      rw [inM_without]
      refine xt_02 (xt_12 ?_)
      refine al_s (cs := Msg.zero.cs) h8 (by rw [zero_32]; rfl) fun d14 w9 h9 => ?_
      refine stN_at h9 0 rfl (vs := (fdM (without lr k) k).cs) rfl rfl (Nat.le_of_ble_eq_true rfl) (ints_flat _) (cs' := (fdM (without lr k) k).cs) (by kernel_rfl) fun w10 h10 => ?_
      replace h10 : Sat e w10 (IsC q 64 day (without lr k) :: IsR r 64 (without lr k) :: dB rq r day :: blk kb 30 k.cs :: blk d10 32 (fdM lr k).cs :: blk d12 32 (fdM lr k).cs :: S :: R) := Sat.drop h10
      have h64 := (c_ok h10).l64
      refine c_Days_s h10 fun v1 w11 h11 => ?_
      replace h11 : Sat e w11 (IsR r 64 (without lr k) :: dB rq r day :: IsC q 64 day (without lr k) :: ownS 3 1 i1 v1 (cntOf day (without lr k)) :: blk kb 30 k.cs :: blk d10 32 (fdM lr k).cs :: blk d12 32 (fdM lr k).cs :: S :: R) := h11.selR [_, _, _, _] [_, _, _, _] [2, 3, 1, 0] (by decide) rfl
      refine r_Days_s hd1 h11 fun v2 w12 h12 => ?_
      refine ldN_at h12 6 rfl (vs := (fdM lr k).cs) (by rfl) rfl ?_
      refine ldN_at h12 7 rfl (vs := (fdM lr k).cs) (by rfl) rfl ?_
      refine bO_ne (ns := (fdM lr k).ns) (ms := (fdM lr k).ns) eqT_32 agg_32 egt_32 (by decide) rfl ?_
      rw [Msg.eq_ns, decide_eq_true rfl]
      refine gd_ff (gd_ff (gd_ff (bne_s ?_)))
      rw [bne_self_eq_false]
      refine pk_f (gd_ff (pk_f (gd_ff (gd_ff ?_))))
      refine lnS_rd h12 4 rfl (fun g hg => own_rd hg) (gd_ff (ne_f (by rw [cntOf_length]; rfl) (pk_f (iff_f ?_))))
      replace h12 : Sat e w12 (ownS 3 1 i1 v1 (cntOf day (without lr k)) :: ownS 3 1 i1 v2 (cntOf day (without lr k)) :: IsC q 64 day (without lr k) :: IsR r 64 (without lr k) :: dB rq r day :: S :: R) := h12.selR [_, _, _, _, _, _, _, _, _] [_, _, _, _, _, _] [4, 0, 3, 1, 2, 8] (by decide) rfl
      have hsum := cnt_sum day (without lr k)
      have hpos : ∀ x ∈ cntOf day (without lr k), 0 ≤ x := fun x hx => by
        unfold cntOf at hx
        obtain ⟨p, _, rfl⟩ := List.mem_map.1 hx
        omega
      refine lpi2 (fun z t18 t19 w => ∃ n : Nat, t18 = .int .i64 ((cntOf day (without lr k)).take n).sum ∧ t19 = .int .i64 (n : Int) ∧ z = 8 - n ∧ n ≤ 8 ∧ Sat e w (ownS 3 1 i1 v1 (cntOf day (without lr k)) :: ownS 3 1 i1 v2 (cntOf day (without lr k)) :: IsC q 64 day (without lr k) :: IsR r 64 (without lr k) :: dB rq r day :: S :: R)) 8
        ⟨0, rfl, rfl, rfl, by decide, h12⟩ ?_
      clear h12 h11 h10 h9 h8 h7
      rintro z _ _ w g3 ⟨n, rfl, rfl, rfl, hn8, h13⟩ hg3
      refine lt_c (fun c4 => iff_t ?_) (fun c4 => iff_f ?_)
      · have hget := cntOf_get (day := day) (l := without lr k) (p := n) (by omega)
        have htk := take_sum_le hpos n
        have htk1 := take_sum_le hpos (n + 1)
        rw [take_snoc hget, List.sum_append, List.sum_cons, List.sum_nil, Int.add_zero] at htk1
        refine ixS_rd h13 0 rfl (fun g hg => own_rd hg) (fun _ => rfl) hget fun p hp => ?_
        refine ld1_of h13 0 rfl hp rfl ?_
        refine add_s (by omega) (by omega) ?_
        refine dr_s h13 fun w14 h14 => ?_
        refine ixS_rd h14 0 rfl (fun g hg => own_rd hg) (fun _ => rfl) hget fun p hp => ?_
        refine ld1_of h14 0 rfl hp rfl ?_
        refine ixS_rd h14 1 rfl (fun g hg => own_rd hg) (fun _ => rfl) hget fun p hp => ?_
        refine ld1_of h14 1 rfl hp rfl ?_
        refine ne_f rfl (iff_f (inc_s (by omega) (hg3 _ _ _ _ (by omega) ⟨n + 1, ?_, rfl, rfl, by omega, h14⟩)))
        rw [take_snoc hget, List.sum_append, List.sum_cons, List.sum_nil, Int.add_zero]
      · obtain rfl : n = 8 := by omega
        rw [List.take_of_length_le (by rw [cntOf_length]; exact Nat.le_refl _), hsum]
        refine dr_s h13 fun w14 h14 => ?_
        refine c_Len_s (h14.pick 2 rfl) ?_
        refine eq_t rfl (gd_tt (gd_tt (gd_tt (nc_p (gd_tt (fld_at (gd_tt (ld1_at h14 4 rfl (v := .pointer (some ⟨r, 0, none⟩)) rfl (gd_tt ?_)))))))))
        refine c_List_s (h14.pick 2 rfl) fun v3 w15 h15 => ?_
        refine ⟨gd_tt (ld1_at h15 5 rfl (v := .pointer (some ⟨r, 0, none⟩)) rfl ⟨rfl, rfl⟩), gd_tt ?_⟩
        refine r_List_s (h15.pick 4 rfl) fun v4 w16 h16 => gd_tt ?_
        refine same04_s (h16.selR [_, _, _, _, _, _, _, _] [_, _, _] [2, 0, 7] (by decide) rfl) (fun g hg => own_rd hg) (fun g hg => own_rd hg) (by omega) fun w17 h17 => ?_
        rw [decide_eq_true rfl]
        exact pk_t (hk _ h17.drop.drop)
    refine ldN_at h3 3 rfl (vs := k.cs) (by rfl) rfl ?_
    refine c_Remove_s hd1 hkt h3 fun w4 h4 => ?_
    refine xt_02 (xt_12 ?_)
    refine al_s (cs := Msg.zero.cs) h4 (by rw [zero_32]; rfl) fun d10 w5 h5 => ?_
    refine stN_at h5 0 rfl (vs := (fdM lr k).cs) rfl rfl (Nat.le_of_ble_eq_true rfl) (ints_flat _) (cs' := (fdM lr k).cs) (by kernel_rfl) fun w6 h6 => ?_
    refine dr_s h6 fun w7 h7 => ?_
    refine ncP_p (fld_at (ld1_at h7 3 rfl (v := .pointer (some ⟨r, 0, none⟩)) rfl ?_))
    refine ldN_at h7 4 rfl (vs := k.cs) (by rfl) rfl ?_
    refine ⟨?_, ?_⟩
    · refine r_Remove_s (h7.pick 2 rfl) fun w8 h8 => ?_
      refine xt_02 (xt_12 ?_)
      refine al_s (cs := Msg.zero.cs) h8 (by rw [zero_32]; rfl) fun d12 w9 h9 => ?_
      refine ⟨ldN_at h9 5 rfl (vs := k.cs) (by rfl) rfl ⟨rfl, rfl⟩, ld1_at h9 4 rfl (v := .pointer (some ⟨r, 0, none⟩)) rfl ⟨rfl, rfl⟩, ?_⟩
      refine stN_at h9 0 rfl (vs := (fdM lr k).cs) rfl rfl (Nat.le_of_ble_eq_true rfl) (ints_flat _) (cs' := (fdM lr k).cs) (by kernel_rfl) fun w10 h10 => ?_
      exact htail _ d10 d12 _ (h10.selR [_, _, _, _, _, _] [_, _, _, _, _, _] [3, 1, 4, 5, 2, 0] (by decide) rfl)
    · refine al_s (cs := Msg.zero.cs) h7 (by rw [zero_32]; rfl) fun d12 w9 h9 => ?_
      refine ⟨ldN_at h9 5 rfl (vs := k.cs) (by rfl) rfl ⟨rfl, rfl⟩, ld1_at h9 4 rfl (v := .pointer (some ⟨r, 0, none⟩)) rfl ⟨rfl, rfl⟩, ?_⟩
      refine r_Remove_s (h9.pick 3 rfl) fun w10 h10 => ?_
      refine xt_02 (xt_12 ?_)
      refine stN_at h10 1 rfl (vs := (fdM lr k).cs) rfl rfl (Nat.le_of_ble_eq_true rfl) (ints_flat _) (cs' := (fdM lr k).cs) (by kernel_rfl) fun w11 h11 => ?_
      exact htail _ d10 d12 _ (h11.selR [_, _, _, _, _, _] [_, _, _, _, _, _] [3, 0, 4, 5, 2, 1] (by decide) rfl)
end Go.Proofs.Ytlmakkjbcmhaeaa
