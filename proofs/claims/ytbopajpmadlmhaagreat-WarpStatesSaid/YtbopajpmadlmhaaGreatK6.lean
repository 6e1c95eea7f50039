/- Texts of the proof, joined: WarpU. Conditions: none. -/
import Derived.Test.YtbopajpmadlmhaaGreatK5
section
namespace Go.Proofs.YtbopajpmadlmhaaGreat
open Go Go.E
set_option maxRecDepth 100000
variable {e w : World} {L Q R : List HP} {K : KV} {S S2 : HP}

theorem wf8p {n : Int} (h : (Lit.int .u8 n).wf = true) : 0 ≤ n ∧ n ≤ 255 := by
  simp only [Lit.wf, IntKind.min, IntKind.max, IntKind.signed, IntKind.bits] at h
  simp at h
  omega
structure BInv (all : List Msg) (N : WN) : Prop where
  old : N.old = []
  fl : N.fl = 0
  clk : N.clk = [-1, -1, 0]
  line : N.ms ++ N.q = all
  cls : ∀ m ∈ all, m.Class = 0
theorem BInv.init : BInv [] B0 := ⟨rfl, rfl, rfl, rfl, fun m h => by cases h⟩
def heardB (N : WN) (m : Msg) : WN := ⟨N.old, lowsM m.key N.ms, insK m (highsM m.key N.ms ++ N.q), N.fl, N.clk⟩
theorem BInv.at1 {all : List Msg} {N : WN} (h : BInv all N) : N.at' 1 = -1 := by unfold WN.at'; rw [h.clk]; rfl
theorem BInv.hear {all : List Msg} {N : WN} {k : Nat} (h : BInv all N) (hW : WOk boldW 0 bF0 N k) {m : Msg} {c : Int} (hm : 0 ≤ m.key.T) (hc : m.Class = 0) (hne : ∀ y ∈ all, y.key ≠ m.key) (hl : all.length < 64) :
    hearB N 1 ⟨0, m, c⟩ = ⟨0, undoI boldW (goneE boldW 0 bF0 N m.key), heardB N m⟩ ∧ BInv (insK m all) (heardB N m) := by
  have hline := hW.line
  have hlen : N.ms.length + N.q.length = all.length := by rw [← h.line, List.length_append]
  have hh : (highsM m.key N.ms).length ≤ N.ms.length := List.length_filter_le ..
  constructor
  · unfold hearB
    rw [hear_args (by refine ⟨by omega, ?_, by omega⟩; show (1 : Int) < ((3 : Nat) : Int); omega)]
    show (if m.key.T < N.fl ∨ (0 ≤ N.at' 1 ∧ m.key.T < N.at' 1) then _ else if hasK m.key (N.ms ++ N.q) = true then _ else if 64 ≤ N.q.length + (highsM m.key N.ms).length then _ else _) = _
    have h1 := h.at1
    have h2 := h.fl
    rw [if_neg (by omega), h.line, if_neg (by rw [hasK_no.2 hne]; decide), if_neg (by omega)]
    rfl
  · refine ⟨h.old, h.fl, h.clk, ?_, fun y hy => ?_⟩
    · show lowsM m.key N.ms ++ insK m (highsM m.key N.ms ++ N.q) = _
      rw [line_ins hline, h.line]
    · rcases insK_mem.1 hy with rfl | hy
      · exact hc
      · exact h.cls y hy
theorem BInv.step {all : List Msg} {N : WN} (h : BInv all N) (he : stepWE boldW 0 bF0 N = 0) : BInv all (stepWN N) := by
  obtain ⟨⟨m, r, hq, _⟩, _, _⟩ := stepE_ok he
  rw [step_line hq]
  refine ⟨h.old, h.fl, h.clk, ?_, h.cls⟩
  rw [← h.line, hq]
  show (N.ms ++ [m]) ++ r = _
  simp
theorem endB : ∀ (l : List Msg) (s n : Int), (∀ m ∈ l, m.Class = 0) → s = 0 ∨ s = 1 → (endE bF0 (s, n) l).1 = (s + l.length) % 2
  | [], s, n, _, hs => by
    show s = (s + ((0 : Nat) : Int)) % 2
    omega
  | m :: l, s, n, hc, hs => by
    have h0 := hc m (List.mem_cons_self ..)
    rcases hs with rfl | rfl
    · have e1 : nextB bF0 (0, n) m = (1, n + 1) := by unfold nextB; rw [h0]; rfl
      show (endE bF0 (nextB bF0 (0, n) m) l).1 = _
      rw [e1, endB l 1 (n + 1) (fun m hm => hc m (List.mem_cons_of_mem _ hm)) (.inr rfl), List.length_cons]
      omega
    · have e1 : nextB bF0 (1, n) m = (0, n + 2) := by unfold nextB; rw [h0]; rfl
      show (endE bF0 (nextB bF0 (1, n) m) l).1 = _
      rw [e1, endB l 0 (n + 2) (fun m hm => hc m (List.mem_cons_of_mem _ hm)) (.inl rfl), List.length_cons]
      omega
theorem BInv.state {all : List Msg} {N : WN} (h : BInv all N) : (N.now bF0).1 = (N.ms.length : Int) % 2 := by
  unfold WN.now WN.base
  rw [h.old]
  have := endB N.ms 0 0 (fun m hm => h.cls m (by rw [← h.line]; exact List.mem_append_left _ hm)) (.inl rfl)
  rw [Int.zero_add] at this
  exact this
theorem ins_place {l : List Msg} {m : Msg} {p : Nat} (h : Place l m p) (hu : Upk l) (hne : ∀ y ∈ l, y.key ≠ m.key) : insAt l m p = insK m l :=
  up_unique (h.up hu hne) (insK_up hu hne) ((insAt_perm l m p).trans (((insK_perm m l).trans (List.perm_append_singleton m l).symm).symm))
/-- A node's steps, whatever comes of them. -/
theorem stepB_s {r : Nat} {all : List Msg} {N : WN} {k : Nat} (hk0 : k ≤ 900) (hI : BInv all N) (hS : Sat e w (IsB r N k :: Q)) (hk : ∀ (N' : WN) v w', BInv all N' → (N' = N ∨ (stepWE boldW 0 bF0 N = 0 ∧ N' = stepWN N)) → Sat e w' (IsB r N' (k + 1) :: Q) → K v w') :
    Cl prog 15 #[.pointer (some ⟨r, 0, none⟩)] w K := by
  refine warp_Step_s (by omega) hS (fun hn w2 h2 => ?_) (fun he v w2 h2 => ?_)
  · obtain ⟨X, q, p, g, b, m, lv, hX, h3⟩ := warp_of h2
    exact hk N _ _ hI (.inl rfl) (warp_mk ⟨hX.eq, hX.short, hX.ok.mono (Nat.le_succ _), hX.map⟩ h3)
  · exact hk _ _ _ (hI.step he) (.inr ⟨he, rfl⟩) h2.drop
theorem wrapU8 {n : Int} (h : 0 ≤ n ∧ n ≤ 255) : IntKind.i64.wrap n = n := wrap_i64 (by omega) (by omega)
theorem warpStates_s {v u : Value} {l st : List Int} {S : HP} (hS : Sat e w (S :: Q)) (hr : ∀ g, S g → rdS 1 (intsK .u8) v l g) (hw : ∀ m ∈ l, (Lit.int .u8 m).wf = true) (hr2 : ∀ g, S g → rdS 1 (intsK .u8) u st g) (hw2 : ∀ m ∈ st, (Lit.int .u8 m).wf = true)
    (hk : ∀ w', Sat e w' (S :: Q) → K (.bool true) w') : Cl prog 3 #[v, u] w K := by
  refine pacelinelaw15_WarpStates_calls ?_
  unfold pacelinelaw15_WarpStates
  refine lnS_rd hS 0 rfl hr ?_
  refine gt_c (fun c0 => gd_tf (gd_tf (pk_t (iff_t (shown15_s hS fun w2 h2 => hk _ h2))))) (fun c0 => gd_ff ?_)
  refine shown15_s hS fun w1 h1 => gd_ff (not_t (pk_f (iff_f ?_)))
  refine bw_s h1 fun x S0 w2 hx hwf hs hx2 h2 => ?_
  rw [zero_27, zero_37]
  refine al_s (cs := [.slice none 0 0, .slice none 0 0, .int .i64 0]) h2 rfl fun t5 w3 h3 => ?_
  refine stN_at h3 0 rfl (vs := x.cs) rfl rfl (by simp) (wd_cells 1 rfl h3 hx2) (cs' := x.cs) (by rfl) fun w4 h4 => ?_
  refine ldN_at h4 0 (vs := x.cs) rfl (by rfl) rfl ?_
  refine newB_s hx hwf hs hx2 h4.drop fun r w5 h5 => ?_
  refine xt_02 (xt_12 (ne_f rfl (gd_ff (gd_ff (bnp_s _ (pk_f (iff_f ?_)))))))
  have h6 : Sat e w5 (IsB r B0 0 :: S :: Q) := h5.selR [_, _, _] [_, _] [0, 2] (by decide) rfl
  refine bsl0 h6 Msg.cs fun v37 w6 h7 => ?_
  refine lpi2 (fun mm t8 t9 w => ∃ (j : Nat) (all : List Msg) (N : WN) (k : Nat), j ≤ l.length ∧ t9 = .int .i64 j ∧ mm = l.length - j ∧ k ≤ 3 * j ∧ BInv all N ∧ all.length = j ∧ (∀ m ∈ all, m.key.Seq < j) ∧ Upk all ∧ Sat e w (ownS 37 6 Msg.cs t8 all :: IsB r N k :: S :: Q)) l.length
    ⟨0, [], B0, 0, Nat.zero_le _, rfl, rfl, Nat.le_refl _, .init, rfl, by simp, .nil, h7⟩ ?_
  rintro mm t8 _ w g1 ⟨j, all, N, k, hj, rfl, rfl, hkj, hI, hal, hseq, hup, h8⟩ hg1
  refine lnS_rd h8 2 rfl hr ?_
  have hj30 : l.length ≤ 30 := by omega
  refine lt_c (fun c => iff_t ?_) (fun c => iff_f ?_)
  · obtain ⟨y, hy⟩ := get_of_lt (l := l) (j := j) (by omega)
    have hyw := wf8p (hw y (List.mem_of_getElem? hy))
    refine ixS_rd h8 2 rfl hr (fun _ => rfl) hy fun a ha => ld1_of h8 2 rfl ha (v := .int .u8 y) rfl (cv_s ?_)
    rw [wrapU8 hyw]
    obtain ⟨m, hm⟩ : ∃ m : Msg, m = ⟨⟨y, 1, j⟩, 0, 0, 0⟩ := ⟨_, rfl⟩
    refine bld_s (ints [y, 1, j]) (by kernel_rfl) (bld_s (⟨⟨y, 1, j⟩, 0, 0, 0⟩ : Msg).cs (by kernel_rfl) ?_)
    rw [← hm]
    refine al_s (cs := Msg.zero.cs) h8 rfl fun t10 w9 h9 => ?_
    refine stN_at h9 0 rfl (vs := m.cs) rfl rfl (by decide) (ints_flat _) (cs' := m.cs) (by rfl) fun w10 h10 => ?_
    refine ldN_at h10 0 (vs := m.cs) rfl (by rfl) rfl ?_
    refine ref03_Insert_s (by omega) (h10.pick 1 rfl) (fun g hg => own_rd hg) fun v54 p w11 hpl h11 => ?_
    have hne : ∀ z ∈ all, z.key ≠ m.key := fun z hz he => by
      have := hseq z hz
      rw [he, hm] at this
      exact Int.lt_irrefl _ this
    rw [ins_place hpl hup hne] at h11
    replace h11 : Sat e w11 (ownS 37 6 Msg.cs v54 (insK m all) :: ownS 37 6 Msg.cs t8 all :: blk t10 37 m.cs :: IsB r N k :: S :: Q) := h11
    refine ldN_at h11 2 (vs := m.cs) rfl (by rfl) rfl ?_
    refine bld_s (⟨0, m, 0⟩ : NItem).cs (by rw [hm]; kernel_rfl) ?_
    have hW := warp_ok 3 h11 rfl
    obtain ⟨hhe, hI2⟩ := hI.hear hW (m := m) (c := 0) (by rw [hm]; exact hyw.1) (by rw [hm]) hne (by omega)
    refine warp_Hear_s (i := ⟨0, m, 0⟩) (by show In64 m.key.T; rw [hm]; show In64 y; unfold In64; omega) (h11.selR [_, _, _, _, _] [_, _, _] [3, 0, 4] (by decide) rfl) fun v59 w12 h12 => ?_
    rw [show hearW boldW 0 bF0 N 1 ⟨0, m, 0⟩ = _ from hhe] at h12 ⊢
    refine xt_02 (xt_12 (ne_f rfl (iff_f ?_)))
    replace h12 : Sat e w12 (IsB r (heardB N m) k :: ownS 37 6 Msg.cs v54 (insK m all) :: S :: Q) := h12.drop
    have hil := insK_len m all
    have hup2 := insK_up hup hne
    have hseq2 : ∀ z ∈ insK m all, z.key.Seq < (j + 1 : Nat) := fun z hz => by
      rcases insK_mem.1 hz with rfl | hz
      · rw [hm]; show (j : Int) < _; omega
      · have := hseq z hz; omega
    generalize insK m all = all2 at h12 hI2 hil hup2 hseq2
    generalize heardB N m = N2 at h12 hI2
    obtain ⟨lim, hlim⟩ : ∃ lim : Nat, lim = if j < st.length then (st.getD j 0 % 4).toNat else 0 := ⟨_, rfl⟩
    have hlim4 : lim ≤ 3 := by rw [hlim]; split <;> omega
    refine lpi1 (fun mm t13 w => ∃ (i : Nat) (N : WN), t13 = .int .i64 i ∧ mm = lim - i ∧ i ≤ lim ∧ BInv all2 N ∧ Sat e w (IsB r N (k + i) :: ownS 37 6 Msg.cs v54 all2 :: S :: Q)) lim ⟨0, N2, rfl, rfl, Nat.zero_le _, hI2, h12⟩ ?_
    rintro mm _ w g2 ⟨i, N3, rfl, rfl, hil2, hI3, h13⟩ hg2
    refine lnS_rd h13 2 rfl hr2 ?_
    -- a step more
    have go : i < lim → Cl prog 15 #[.pointer (some ⟨r, 0, none⟩)] w fun _ w => bi .add .i64 (.int .i64 (i : Int)) (Value.int IntKind.i64 1) w fun t79 w => g2 [t79] w := fun hlt => by
      refine stepB_s (by omega) hI3 h13 fun N4 v' w14 hI4 _ h14 => ?_
      refine inc_s (by omega) ?_
      exact hg2 _ _ _ (by omega) ⟨i + 1, N4, rfl, rfl, by omega, hI4, h14⟩
    have no : Cl prog 16 #[.pointer (some ⟨r, 0, none⟩)] w fun t83 w => Cl prog 17 #[.pointer (some ⟨r, 0, none⟩)] w fun t86 w => lnS t86 w fun t87 w => bi .add .i64 t83 t87 w fun t88 w => lnS v54 w fun t90 w => bi .neq .i64 t88 t90 w fun t91 w =>
        gd t91 false (fun k => k (.pointer (some ⟨r, 0, none⟩)) w) w fun t93 w => gd t91 false (fun k => Cl prog 18 #[t93] w k) w fun t94 w => gd t91 false (fun k => k t83 w) w fun t95 w => gd t91 false (fun k => bi .rem .i64 t95 (Value.int IntKind.i64 2) w k) w fun t96 w =>
        gd t91 false (fun k => bi .neq .i64 t94 t96 w k) w fun t97 w => pk t91 (Value.bool true) t97 w fun t98 w => iff' t98 (K (Value.bool false) w)
        (Cl prog 17 #[.pointer (some ⟨r, 0, none⟩)] w fun t100 w => lp [(Value.int IntKind.i64 0)] w (b1 fun t16 w g3 => lnS t100 w fun t103 w => bi .lss .i64 t16 t103 w fun t104 w => iff' t104
          (dr w fun w => ixS 6 t100 t16 w fun t109 _ => ldN 6 t109 w fun t110 _ => bi .add .i64 t83 t16 w fun t114 _ => ixS 6 v54 t114 w fun t115 _ => ldN 6 t115 w fun t116 _ => bO prog .neq 37 (Operand.tmp 110) (Operand.tmp 116) t110 t116 w fun t117 w => iff' t117
            (K (Value.bool false) w) (bi .add .i64 t16 (Value.int IntKind.i64 1) w fun t106 w => g3 [t106] w))
          (bi .add .i64 (.int .i64 (j : Int)) (Value.int IntKind.i64 1) w fun t43 w => g1 [v54, t43] w))) := by
      refine warp_Ahead_s h13 ?_
      refine warp_Waiting_s h13 fun v86 w14 h14 => ?_
      refine lnS_rd h14 0 rfl (fun g hg => own_rd hg) ?_
      have hlen : N3.ms.length + N3.q.length = all2.length := by rw [← hI3.line, List.length_append]
      refine add_s (by omega) (by omega) ?_
      refine lnS_rd h14 2 rfl (fun g hg => own_rd hg) ?_
      refine ne_f (by omega) (gd_ff (gd_ff ?_))
      refine warp_State_s (h14.pick 1 rfl) ?_
      rw [hI3.state]
      refine gd_ff (gd_ff (rem_s (by omega) (gd_ff (ne_f ?_ (pk_f (iff_f ?_))))))
      · rw [Int.tmod_eq_emod_of_nonneg (by omega)]
      refine warp_Waiting_s (h14.pick 1 rfl) fun v100 w15 h15 => ?_
      replace h15 : Sat e w15 (ownS 37 6 Msg.cs v100 N3.q :: IsB r N3 (k + i) :: ownS 37 6 Msg.cs v86 N3.q :: ownS 37 6 Msg.cs v54 all2 :: S :: Q) := h15
      refine lpi1 (fun mm t16 w => ∃ a : Nat, a ≤ N3.q.length ∧ t16 = .int .i64 a ∧ mm = N3.q.length - a ∧ Sat e w (ownS 37 6 Msg.cs v100 N3.q :: IsB r N3 (k + i) :: ownS 37 6 Msg.cs v86 N3.q :: ownS 37 6 Msg.cs v54 all2 :: S :: Q)) N3.q.length ⟨0, Nat.zero_le _, rfl, rfl, h15⟩ ?_
      rintro mm _ w g3 ⟨a, ha, rfl, rfl, h16⟩ hg3
      refine lnS_rd h16 0 rfl (fun g hg => own_rd hg) ?_
      refine lt_c (fun d => iff_t ?_) (fun d => iff_f ?_)
      · obtain ⟨z, hz⟩ := get_of_lt (l := N3.q) (j := a) (by omega)
        have hz2 : all2[N3.ms.length + a]? = some z := by rw [← hI3.line, List.getElem?_append_right (by omega), Nat.add_sub_cancel_left]; exact hz
        refine dr_s h16 fun w17 h17 => ?_
        refine ixS_rd h17 0 rfl (fun g hg => own_rd hg) (fun _ => rfl) hz fun p1 hp1 => ldN_of h17 0 rfl hp1 rfl ?_
        refine add_s (by omega) (by omega) ?_
        rw [show (N3.ms.length : Int) + (a : Int) = ((N3.ms.length + a : Nat) : Int) from by omega]
        refine ixS_rd h17 3 rfl (fun g hg => own_rd hg) (fun _ => rfl) hz2 fun p2 hp2 => ldN_of h17 3 rfl hp2 rfl ?_
        refine bO_ne (ns := z.ns) (ms := z.ns) eqT_37 agg_37 egt_37 (by decide) rfl ?_
        rw [beq_self_eq_true]
        refine iff_f (inc_s (by omega) ?_)
        exact hg3 _ _ _ (by omega) ⟨a + 1, by omega, rfl, rfl, h17⟩
      · refine inc_s (by omega) ?_
        refine hg1 _ _ _ _ (by omega) ⟨j + 1, all2, N3, k + i, by omega, rfl, rfl, by omega, hI3, by omega, hseq2, hup2, ?_⟩
        exact h16.selR [_, _, _, _, _] [_, _, _] [3, 1, 4] (by decide) rfl
    by_cases d1 : j < st.length
    · obtain ⟨s0, hs0⟩ := get_of_lt (l := st) (j := j) d1
      have hsw := wf8p (hw2 s0 (List.mem_of_getElem? hs0))
      have hsg : st.getD j 0 = s0 := by rw [List.getD_eq_getElem?_getD, hs0]; rfl
      rw [if_pos d1, hsg] at hlim
      refine lt_t (by omega) (gd_tt (gd_tt (gd_tt (gd_tt ?_))))
      refine ixS_rd h13 2 rfl hr2 (fun _ => rfl) hs0 fun a ha => gd_tt (ld1_of h13 2 rfl ha (v := .int .u8 s0) rfl (gd_tt (cv_s (gd_tt ?_))))
      rw [wrapU8 hsw]
      refine rem_s (by omega) (gd_tt ?_)
      rw [Int.tmod_eq_emod_of_nonneg (by omega)]
      refine lt_c (fun d2 => pk_t (iff_t (go (by omega)))) (fun d2 => pk_t (iff_f no))
    · rw [if_neg d1] at hlim
      refine lt_f (by omega) ?_
      refine gd_ft (gd_ft (gd_ft (gd_ft (gd_ft (gd_ft (gd_ft (gd_ft (pk_f (iff_f no)))))))))
  · refine warp_Floor_s (h8.pick 1 rfl) ?_
    rw [hI.fl]
    exact eq_t rfl (hk _ (h8.selR [_, _, _] [_] [2] (by decide) rfl))
end Go.Proofs.YtbopajpmadlmhaaGreat
end
