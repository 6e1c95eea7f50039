/- The law CalendarAny. Conditions: none. -/
import Derived.Test.YtlmakkjbcmhaeaaCalG
namespace Go.Proofs.Ytlmakkjbcmhaeaa
open Go Go.E
set_option maxRecDepth 100000
variable {e w : World} {R : List HP} {K : KV}

structure PStep where
  Kind : Int
  M : Msg
def PStep.ns (s : PStep) : List Int := [s.Kind, s.M.key.T, s.M.key.From, s.M.key.Seq, s.M.To, s.M.Class, s.M.Body]
abbrev PStep.cs (s : PStep) : List Value := ints s.ns
def PStep.of (l : List Int) : PStep := ⟨l.getD 0 0, ⟨⟨l.getD 1 0, l.getD 2 0, l.getD 3 0⟩, l.getD 4 0, l.getD 5 0, l.getD 6 0⟩⟩
theorem PStep.of_ns {l : List Int} (h : l.length = 7) : (PStep.of l).ns = l := by
  match l, h with
  | [_, _, _, _, _, _, _], _ => rfl
theorem PStep.of_cs {l : List Int} (h : l.length = 7) : (PStep.of l).cs = ints l := congrArg ints (PStep.of_ns h)
theorem Msg.of_ns {l : List Int} (h : l.length = 6) : (Msg.of l).ns = l := by
  match l, h with
  | [_, _, _, _, _, _], _ => rfl
theorem PStep.in64 {s : PStep} (h : ∀ m ∈ s.ns, (Lit.int .i64 m).wf = true) : In64 s.M.key.T := In64.of_wf (h _ (by simp [PStep.ns]))
theorem Msg.in64 {x : Msg} (h : ∀ m ∈ x.ns, (Lit.int .i64 m).wf = true) : In64 x.key.T := In64.of_wf (h _ (by simp [Msg.ns]))
theorem Key.in64 {k : Key} (h : ∀ m ∈ k.ns, (Lit.int .i64 m).wf = true) : In64 k.T := In64.of_wf (h _ (by simp [Key.ns]))
theorem pushV_neg {room : Int} {l : List Msg} {a b c d f : Int} : pushV room l ⟨⟨-1, a, b⟩, c, d, f⟩ = 1 := if_pos rfl

theorem calendarAny_s {v : Value} {l : List PStep} {a b : Int} {S : HP} (hS : Sat e w (S :: R)) (_ha : (Lit.int .i64 a).wf = true) (_hb : (Lit.int .i64 b).wf = true) (hr : ∀ g, S g → rdS 7 PStep.cs v l g) (hw : ∀ x ∈ l, ∀ m ∈ x.ns, (Lit.int .i64 m).wf = true)
    (hk : ∀ w', Sat e w' (S :: R) → K (.bool true) w') : Cl prog 5 #[.int .i64 a, .int .i64 b, v] w K := by
  refine pacelinelaw04_CalendarAny_calls ?_
  unfold pacelinelaw04_CalendarAny
  rw [zero_32, zero_49, zero_30]
  refine lnS_rd hS 0 rfl hr ?_
  refine gt_c (fun c1 => iff_t (hk _ hS)) (fun c1 => iff_f ?_)
  refine c_New_s hS fun p w1 h1 => ?_
  refine c_New_s h1 fun q w2 h2 => ?_
  obtain ⟨da, hda⟩ : ∃ d, d = max 1 (min a 1048576) := ⟨_, rfl⟩
  obtain ⟨db, hdb⟩ : ∃ d, d = max 1 (min b 1048576) := ⟨_, rfl⟩
  rw [show max (0 : Int) (min 64 64) = 64 from by decide, ← hda, ← hdb] at h2
  have hda1 : 1 ≤ da := by omega
  have hdb1 : 1 ≤ db := by omega
  clear hda hdb h1
  refine lpi1 (fun z t9 w => ∃ (j : Nat) (lr : List Msg), t9 = .int .i64 (j : Int) ∧ z = l.length - j ∧ j ≤ l.length ∧ Sat e w (IsC p 64 da lr :: IsC q 64 db lr :: S :: R)) l.length
    ⟨0, [], rfl, rfl, Nat.zero_le _, h2.swap⟩ ?_
  rintro z _ w g1 ⟨j, lr, rfl, rfl, hj, h3⟩ hg
  refine lnS_rd h3 2 rfl hr ?_
  refine lt_c (fun c2 => iff_t ?_) (fun c2 => iff_f ?_)
  · obtain ⟨s, hsx⟩ := get_of_lt (l := l) (j := j) (by omega)
    have ht := PStep.in64 (hw s (List.mem_of_getElem? hsx))
    refine ixS_rd h3 2 rfl hr (fun _ => rfl) hsx fun a ha => ?_
    refine ldN_of h3 2 rfl ha rfl ?_
    refine al_s (cs := ints [0, 0, 0, 0, 0, 0, 0]) h3 rfl fun d w4 h4 => ?_
    refine stN_at h4 0 rfl (vs := s.cs) rfl rfl (Nat.le_of_ble_eq_true rfl) (ints_flat _) (cs' := s.cs) (by kernel_rfl) fun w5 h5 => ?_
    replace h5 : Sat e w5 (IsC p 64 da lr :: IsC q 64 db lr :: blk d 49 s.cs :: S :: R) := h5.selR [_, _, _] [_, _, _] [1, 2, 0] (by decide) rfl
    clear h4 h3
    refine dr_s h5 fun w6 h6 => ?_
    refine fld_at (ld1_at h6 2 rfl (v := .int .i64 s.Kind) rfl ?_)
    have hpop : ∀ lr w', Sat e w' (IsC p 64 da lr :: IsC q 64 db lr :: blk d 49 s.cs :: S :: R) → fld 0 (.pointer (some ⟨d, 0, none⟩)) w' fun t46 w =>
        ld1 t46 w fun t47 w =>
        bi .eql .i64 t47 (Value.int IntKind.i64 1) w fun t48 w =>
        J0 (fun w =>
        Cl prog 18 #[.pointer (some ⟨p, 0, none⟩)] w fun t68 w =>
        Cl prog 18 #[.pointer (some ⟨q, 0, none⟩)] w fun t70 w =>
        Cl prog 17 #[t68, t70] w fun t71 w =>
        bnot t71 w fun t72 w =>
        gd t72 false (fun k => k (.pointer (some ⟨p, 0, none⟩)) w) w fun t74 w =>
        gd t72 false (fun k => Cl prog 11 #[t74] w k) w fun t75 w =>
        gd t72 false (fun k => k (.pointer (some ⟨q, 0, none⟩)) w) w fun t76 w =>
        gd t72 false (fun k => Cl prog 11 #[t76] w k) w fun t77 w =>
        gd t72 false (fun k => bi .neq .i64 t75 t77 w k) w fun t78 w =>
        pk t72 (Value.bool true) t78 w fun t79 w =>
        iff' t79
        (K (Value.bool false) w)
        (bi .add .i64 (.int .i64 (j : Int)) (Value.int IntKind.i64 1) w fun t27 w =>
        g1 [t27] w)) fun k2 =>
        iff' t48
        (Cl prog 20 #[.pointer (some ⟨p, 0, none⟩)] w fun t51 w =>
        xt 0 t51 w fun t52 w =>
        xt 1 t51 w fun t53 w =>
        al #[(Value.int IntKind.i64 0), (Value.int IntKind.i64 0), (Value.int IntKind.i64 0), (Value.int IntKind.i64 0), (Value.int IntKind.i64 0), (Value.int IntKind.i64 0)] 32 w fun t11 w =>
        stN 6 t11 t52 w fun _ w =>
        Cl prog 20 #[.pointer (some ⟨q, 0, none⟩)] w fun t56 w =>
        xt 0 t56 w fun t57 w =>
        xt 1 t56 w fun t58 w =>
        al #[(Value.int IntKind.i64 0), (Value.int IntKind.i64 0), (Value.int IntKind.i64 0), (Value.int IntKind.i64 0), (Value.int IntKind.i64 0), (Value.int IntKind.i64 0)] 32 w fun t13 w =>
        stN 6 t13 t57 w fun _ w =>
        ldN 6 t11 w fun t59 w =>
        ldN 6 t13 w fun t60 w =>
        bO prog .neq 32 (Operand.tmp 59) (Operand.tmp 60) t59 t60 w fun t61 w =>
        gd t61 false (fun k => k t53 w) w fun t63 w =>
        gd t61 false (fun k => k t58 w) w fun t64 w =>
        gd t61 false (fun k => bb .neq t63 t64 w k) w fun t65 w =>
        pk t61 (Value.bool true) t65 w fun t66 w =>
        iff' t66
        (K (Value.bool false) w)
        (k2 w))
        (k2 w) := by
      intro lr w' h7
      refine fld_at (ld1_at h7 2 rfl (v := .int .i64 s.Kind) rfl ?_)
      refine eq_d ?_
      refine J0.cut (fun w' => ∃ lr, Sat e w' (IsC p 64 da lr :: IsC q 64 db lr :: S :: R)) (fun k2 hcut => ?_) ?_
      · refine iff_d (fun _ => ?_) (fun _ => hcut _ ⟨lr, h7.selR [_, _, _] [_, _] [0, 1] (by decide) rfl⟩)
        refine c_Pop_s hda1 h7 fun w8 h8 => ?_
        refine xt_02 (xt_12 ?_)
        refine al_s (cs := Msg.zero.cs) h8 rfl fun d1 w9 h9 => ?_
        refine stN_at h9 0 rfl (vs := (hdM lr).cs) rfl rfl (Nat.le_of_ble_eq_true rfl) (ints_flat _) (cs' := (hdM lr).cs) (by kernel_rfl) fun w10 h10 => ?_
        refine c_Pop_s hdb1 (h10.pick 2 rfl) fun w11 h11 => ?_
        refine xt_02 (xt_12 ?_)
        refine al_s (cs := Msg.zero.cs) h11 rfl fun d2 w12 h12 => ?_
        refine stN_at h12 0 rfl (vs := (hdM lr).cs) rfl rfl (Nat.le_of_ble_eq_true rfl) (ints_flat _) (cs' := (hdM lr).cs) (by kernel_rfl) fun w13 h13 => ?_
        refine ldN_at h13 2 rfl (vs := (hdM lr).cs) (by rfl) rfl ?_
        refine ldN_at h13 0 rfl (vs := (hdM lr).cs) (by rfl) rfl ?_
        refine bO_ne (ns := (hdM lr).ns) (ms := (hdM lr).ns) eqT_32 agg_32 egt_32 (by decide) rfl ?_
        rw [Msg.eq_ns, decide_eq_true rfl]
        refine gd_ff (gd_ff (gd_ff (bne_s ?_)))
        rw [bne_self_eq_false]
        exact pk_f (iff_f (hcut _ ⟨popL lr, h13.selR [_, _, _, _, _] [_, _] [3, 1] (by decide) rfl⟩))
      · rintro w8 ⟨lr, h8⟩
        refine c_List_s h8 fun v1 w9 h9 => ?_
        refine c_List_s (h9.pick 2 rfl) fun v2 w10 h10 => ?_
        have h64 := (c_ok (h8)).l64
        refine same04_s (h10.selR [_, _, _, _] [_, _, _, _] [2, 0, 3, 1] (by decide) rfl) (fun g hg => own_rd hg) (fun g hg => own_rd hg) (by omega) fun w11 h11 => ?_
        rw [decide_eq_true rfl]
        refine not_t (gd_ff (gd_ff ?_))
        refine c_Len_s (h11.pick 2 rfl) (gd_ff (gd_ff ?_))
        refine c_Len_s (h11.pick 3 rfl) (gd_ff (ne_f rfl (pk_f (iff_f ?_))))
        exact inc_s (by omega) (hg _ _ _ (by omega) ⟨j + 1, lr, rfl, rfl, by omega, h11.selR [_, _, _, _] [_, _] [2, 3] (by decide) rfl⟩)
    refine eq_c (fun c3 => ?_) (fun c3 => ?_)
    · refine gd_tt (gd_tt (fld_at (gd_tt (ldN_at h6 2 rfl (vs := s.M.cs) (by rfl) rfl (gd_tt (gd_tt (fld_at (gd_tt (ldN_at h6 2 rfl (vs := s.M.cs) (by rfl) rfl (gd_tt ?_)))))))))) 
      refine c_Push_s hda1 ht h6 fun w7 h7 => ?_
      refine ⟨gd_tt (ldN_at h7 2 rfl (vs := s.M.cs) (by rfl) rfl ⟨rfl, rfl⟩), gd_tt ?_⟩
      refine c_Push_s hdb1 ht h7.swap fun w8 h8 => ?_
      exact gd_tt (ne_f rfl (pk_t (iff_f (hpop _ _ h8.swap))))
    · refine gd_ft (gd_ft (gd_ft (gd_ft (gd_ft (gd_ft (gd_ft ?_))))))
      exact ⟨gd_ft ⟨rfl, rfl⟩, gd_ft (gd_ft (pk_f (iff_f (hpop _ _ h6))))⟩
  · refine bld_s (Key.cs ⟨-1, 0, 0⟩) (by kernel_rfl) ?_
    refine bld_s (Msg.cs ⟨⟨-1, 0, 0⟩, 0, 0, 0⟩) (by kernel_rfl) ?_
    refine c_Push_s (x := ⟨⟨-1, 0, 0⟩, 0, 0, 0⟩) hda1 (by unfold In64; decide) h3 fun w4 h4 => ?_
    rw [pushV_neg]
    refine eq_t rfl (gd_tt (gd_tt ?_))
    refine c_Days_s (h4.pick 1 rfl) fun v w5 h5 => ?_
    refine gd_tt (lnS_rd h5 0 rfl (fun g hg => own_rd hg) (gd_tt (eq_t (by rw [cntOf_length]; rfl) (pk_t (hk _ ?_)))))
    exact h5.selR [_, _, _, _] [_] [3] (by decide) rfl
end Go.Proofs.Ytlmakkjbcmhaeaa
