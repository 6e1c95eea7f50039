/- A node: Hear, Safe, Step, Tell, Log, and its parts. Conditions: at most a thousand steps. -/
import Derived.Test.YtenglfaeohgkfaaGreatCmbA
namespace Go.Proofs.YtenglfaeohgkfaaGreat
open Go Go.E
set_option maxRecDepth 100000
variable {e w : World} {L Q : List HP} {K : KV} {S S2 : HP}
variable {n f k : Nat} {wd : Wd} {N : ND}

theorem node_Hear_s {j : Int} {i : NItem} (ht : In64 i.m.key.T) (hS : Sat e w (IsNode n wd f N k :: Q)) (hk : ∀ w', Sat e w' (IsNode n wd f (hearN N j i) k :: Q) → K (.int .i64 (hearE N j i)) w') :
    Cl prog 9 #[.pointer (some ⟨n, 0, none⟩), .int .i64 j, .agg i.cs.toArray] w K := by
  refine cmb_Node_Hear_calls ?_
  unfold cmb_Node_Hear
  refine al_s (cs := i.cs) hS rfl fun b w1 h1 => ?_
  refine fld_at (fld_at (fld_at (ld1_at h1 0 rfl (v := .int .i64 i.m.key.T) rfl ?_)))
  refine fld_at (ld1_at h1 0 rfl (v := .int .i64 i.Kind) rfl ?_)
  obtain ⟨X, g, q, lv, hX, h2⟩ := node_of h1.swap
  refine eq_c (fun c1 => iff_t ?_) (fun c1 => iff_f ?_)
  · refine ncP_p (fld_at (ld1_at h2 0 rfl (v := .pointer (some ⟨g, 0, none⟩)) rfl ?_))
    refine clock_Hear_s ht h2.swap fun w3 h3 => ?_
    have e1 : hearE N j i = N.clk.hearE j i.m.key.T := if_pos c1
    have e2 : hearN N j i = ⟨N.clk.hear j i.m.key.T, N.q, N.st, N.sent, N.log⟩ := if_pos c1
    rw [e1, e2] at hk
    refine hk _ (node_mk (X := X) (g := g) (q := q) (lv := lv) ⟨hX.1, hX.2.1, hX.2.2.may, hX.2.2.hf, by show (N.clk.hear j i.m.key.T).L.length = _; rw [Clk.hear_len]; exact hX.2.2.len, by show (N.clk.hear j i.m.key.T).self = _; rw [Clk.hear_self]; exact hX.2.2.self, hX.2.2.sent, hX.2.2.log⟩ ?_)
    exact h3.selR [_, _, _, _, _, _] [_, _, _, _, _] [1, 0, 2, 3, 4] (by decide) rfl
  have e1 : hearE N j i = if i.Kind = 0 then (if N.clk.at' j < 0 then 1 else if i.m.key.T < N.clk.at' j then 110 else pushE 64 N.q i.m) else 130 := if_neg c1
  have e2 : hearN N j i = if i.Kind = 0 ∧ ¬ N.clk.at' j < 0 ∧ ¬ i.m.key.T < N.clk.at' j then ⟨N.clk, pushQ N.q i.m, N.st, N.sent, N.log⟩ else N := if_neg c1
  have hsame : ∀ w', Sat e w' (blk n 57 (ncs X f N g q lv) :: IsClk g N.clk :: IsQ q N.q :: WdOwn X :: ownS 46 7 Done.cs lv N.log :: blk b 28 i.cs :: Q) → Sat e w' (IsNode n wd f N k :: Q) := fun w' h' => (node_mk hX h').swap.drop
  refine eq_c (fun c2 => iff_t ?_) (fun c2 => iff_f ?_)
  · refine ncP_p (fld_at (ld1_at h2 0 rfl (v := .pointer (some ⟨g, 0, none⟩)) rfl ?_))
    refine clock_At_s h2.swap ?_
    refine lt_c (fun c3 => iff_t ?_) (fun c3 => iff_f ?_)
    · rw [e1, e2, if_pos c2, if_pos c3, if_neg (fun h => h.2.1 c3)] at hk
      exact hk _ (hsame _ h2)
    refine lt_c (fun c4 => iff_t ?_) (fun c4 => iff_f ?_)
    · rw [e1, e2, if_pos c2, if_neg c3, if_pos c4, if_neg (fun h => h.2.2 c4)] at hk
      exact hk _ (hsame _ h2)
    rw [e1, e2, if_pos c2, if_neg c3, if_neg c4, if_pos ⟨c2, c3, c4⟩] at hk
    refine dr_s h2 fun w3 h3 => ?_
    refine ncP_p (fld_at (fld_at (ld1_at h3 0 rfl (v := .pointer (some ⟨q, 0, none⟩)) rfl ?_)))
    refine fld_at (ldN_at h3 5 (vs := i.m.cs) rfl (by rfl) rfl ?_)
    refine q_Push_s (x := i.m) (h3.pick 2 rfl) fun w4 h4 => ?_
    have h5 := node_mk (N := ⟨N.clk, pushQ N.q i.m, N.st, N.sent, N.log⟩) (X := X) (g := g) (q := q) (lv := lv) ⟨hX.1, hX.2.1, hX.2.2.may, hX.2.2.hf, hX.2.2.len, hX.2.2.self, hX.2.2.sent, hX.2.2.log⟩ (h4.selR [_, _, _, _, _] [_, _, _, _, _] [1, 2, 0, 3, 4] (by decide) rfl)
    exact hk _ h5.swap.drop
  · rw [e1, e2, if_neg c2, if_neg (fun h => c2 h.1)] at hk
    exact hk _ (hsame _ h2)

/-! ### Its parts -/
theorem node_bnd (hS : Sat e w (IsNode n wd f N k :: Q)) : ∃ g : Nat, (∀ K : KV, K (.pointer (some ⟨g, 0, none⟩)) w → ld1 (.pointer (some ⟨n, 0, none⟩)) w K) ∧
    ∀ K : KV, (∀ w', Sat e w' (IsNode n wd f N k :: Q) → K (.int .i64 N.clk.bound) w') → Cl prog 14 #[.pointer (some ⟨g, 0, none⟩)] w K := by
  obtain ⟨X, g, q, lv, hX, h2⟩ := node_of hS
  refine ⟨g, fun K hK => ld1_at h2 0 rfl rfl hK, fun K hK => ?_⟩
  refine clock_Bound_s h2.swap fun w3 h3 => hK _ (node_mk hX h3.swap)
theorem firstQ_s {q : Nat} {l : List Msg} (hS : Sat e w (IsQ q l :: Q)) (hk : ∀ w', Sat e w' (IsQ q l :: Q) → K (.tuple #[.agg (hdM l).cs.toArray, .bool (hasM l)]) w') : Cl prog 50 #[.agg #[.pointer (some ⟨q, 0, none⟩)]] w K := by
  refine cmb_queue_first_calls ?_
  unfold cmb_queue_first
  refine al_s (cs := [.pointer (some ⟨q, 0, none⟩)]) hS rfl fun b w1 h1 => ?_
  rw [zero_26]
  refine al_s (cs := Msg.zero.cs) h1 rfl fun b2 w2 h2 => ?_
  refine fld_at (ld1_at h2 1 rfl (v := .pointer (some ⟨q, 0, none⟩)) rfl ?_)
  refine q_First_s (h2.pick 2 rfl) fun w3 h3 => ?_
  refine xt_02 (xt_12 ?_)
  refine stN_at h3 1 rfl (vs := (hdM l).cs) rfl rfl (by decide) (ints_flat _) (cs' := (hdM l).cs) (by rfl) fun w4 h4 => ?_
  refine ldN_at h4 1 (vs := (hdM l).cs) rfl (by rfl) rfl ?_
  exact hk _ (h4.selR [_, _, _] [_] [0] (by decide) rfl)
theorem waiting_s {q : Nat} {l : List Msg} (hS : Sat e w (IsQ q l :: Q)) (hk : ∀ v w', Sat e w' (ownS 26 6 Msg.cs v l :: IsQ q l :: Q) → K v w') : Cl prog 13 #[.agg #[.pointer (some ⟨q, 0, none⟩)]] w K := by
  refine cmb_queue_Waiting_calls ?_
  unfold cmb_queue_Waiting
  refine al_s (cs := [.pointer (some ⟨q, 0, none⟩)]) hS rfl fun b w1 h1 => ?_
  refine fld_at (ld1_at h1 0 rfl (v := .pointer (some ⟨q, 0, none⟩)) rfl ?_)
  refine q_List_s (h1.swap) fun v w3 h3 => ?_
  exact hk _ _ (h3.selR [_, _, _] [_, _] [0, 1] (by decide) rfl)
theorem node_wait (hS : Sat e w (IsNode n wd f N k :: Q)) : ∃ q : Nat, (∀ K : KV, K (.agg #[.pointer (some ⟨q, 0, none⟩)]) w → ldN 1 (.pointer (some ⟨n, 1, none⟩)) w K) ∧
    ∀ K : KV, (∀ v w', Sat e w' (ownS 26 6 Msg.cs v N.q :: IsNode n wd f N k :: Q) → K v w') → Cl prog 13 #[.agg #[.pointer (some ⟨q, 0, none⟩)]] w K := by
  obtain ⟨X, g, q, lv, hX, h2⟩ := node_of hS
  refine ⟨q, fun K hK => ldN_at h2 0 (vs := [.pointer (some ⟨q, 0, none⟩)]) rfl (by rfl) rfl hK, fun K hK => ?_⟩
  refine waiting_s (h2.pick 2 rfl) fun v w3 h3 => ?_
  have h4 := node_mk hX (h3.selR [_, _, _, _, _, _] [_, _, _, _, _, _] [2, 3, 1, 4, 5, 0] (by decide) rfl)
  exact hK _ _ h4.swap
theorem hasM_no {l : List Msg} (h : hasM l = false) : l = [] := by
  cases l with
  | nil => rfl
  | cons a l => cases h
theorem hasM_yes {l : List Msg} (h : hasM l = true) : ∃ m r, l = m :: r := by
  cases l with
  | nil => cases h
  | cons a l => exact ⟨a, l, rfl⟩

theorem node_Safe_s (hS : Sat e w (IsNode n wd f N k :: Q)) (hk : ∀ w', Sat e w' (IsNode n wd f N k :: Q) → K (.bool (safeN wd N)) w') : Cl prog 21 #[.pointer (some ⟨n, 0, none⟩)] w K := by
  refine cmb_Node_Safe_calls ?_
  unfold cmb_Node_Safe
  obtain ⟨X, g, q, lv, hX, h2⟩ := node_of hS
  have hEnd : X.End = wd.End := congrArg Wd.End hX.1
  refine ncP_p (fld_at (ldN_at h2 0 (vs := [.pointer (some ⟨q, 0, none⟩)]) rfl (by rfl) rfl ?_))
  refine firstQ_s (h2.pick 2 rfl) fun w3 h3 => ?_
  refine xt_02 (xt_12 ?_)
  rw [zero_26]
  refine al_s (cs := Msg.zero.cs) h3 rfl fun b2 w4 h4 => ?_
  refine stN_at h4 0 rfl (vs := (hdM N.q).cs) rfl rfl (by decide) (ints_flat _) (cs' := (hdM N.q).cs) (by rfl) fun w5 h5 => ?_
  replace h5 : Sat e w5 (blk b2 26 (hdM N.q).cs :: IsQ q N.q :: blk n 57 (ncs X f N g q lv) :: IsClk g N.clk :: WdOwn X :: ownS 46 7 Done.cs lv N.log :: Q) := h5
  refine dr_s h5 fun w6 h6 => ?_
  have hback : ∀ w', Sat e w' (IsClk g N.clk :: blk b2 26 (hdM N.q).cs :: IsQ q N.q :: blk n 57 (ncs X f N g q lv) :: WdOwn X :: ownS 46 7 Done.cs lv N.log :: Q) → Sat e w' (IsNode n wd f N k :: Q) := fun w' h' =>
    node_mk hX (h'.selR [_, _, _, _, _, _] [_, _, _, _, _] [3, 0, 2, 4, 5] (by decide) rfl)
  cases hq : hasM N.q with
  | false =>
    have hs : safeN wd N = false := by unfold safeN; rw [hq]; rfl
    rw [hs] at hk
    refine gd_ft (gd_ft (gd_ft (gd_ft (gd_ft (gd_ft (gd_ft (gd_ft (gd_ft (gd_ft (gd_ft (gd_ft (gd_ft ?_))))))))))))
    refine ⟨gd_ft ⟨rfl, rfl⟩, gd_ft ⟨rfl, rfl⟩, gd_ft ⟨gd_ft ⟨rfl, rfl⟩, gd_ft (pk_f ?_)⟩⟩
    exact hk _ (hback _ (h6.pick 3 rfl))
  | true =>
    have hs : safeN wd N = decide ((hdM N.q).key.T < min wd.End N.clk.bound) := by unfold safeN; rw [hq]; rfl
    rw [hs] at hk
    refine gd_tt (fld_at (gd_tt (fld_at (gd_tt (ld1_at h6 0 rfl (v := .int .i64 (hdM N.q).key.T) rfl (gd_tt (gd_tt (nc_p ?_))))))))
    refine gd_tt (fld_at (gd_tt (fld_at (gd_tt (ld1_at h6 2 rfl (v := .int .i64 X.End) rfl (gd_tt (gd_tt (nc_p ?_))))))))
    refine gd_tt (fld_at (gd_tt (ld1_at h6 2 rfl (v := .pointer (some ⟨g, 0, none⟩)) rfl (gd_tt ?_))))
    refine clock_Bound_s (h6.pick 3 rfl) fun w7 h7 => ?_
    refine ⟨gd_tt (ld1_at h7 3 rfl (v := .int .i64 X.End) rfl ⟨rfl, rfl⟩), gd_tt (ld1_at h7 1 rfl (v := .int .i64 (hdM N.q).key.T) rfl ⟨rfl, rfl⟩), gd_tt (min_s ?_)⟩
    refine ⟨gd_tt (ld1_at h7 1 rfl (v := .int .i64 (hdM N.q).key.T) rfl ⟨rfl, rfl⟩), gd_tt (lt_d (pk_t ?_))⟩
    rw [hEnd]
    exact hk _ (hback _ h7)

theorem node_Step_s {fd : Fed} (hk0 : k ≤ 1000) (hfd : wd.Feds[f]? = some fd) (hS : Sat e w (IsNode n wd f N k :: Q))
    (hno : safeN wd N = false → ∀ w', Sat e w' (IsNode n wd f N k :: Q) → K (.tuple #[.agg Done.zero.cs.toArray, .slice none 0 0, .int .i64 150]) w')
    (hyes : safeN wd N = true → ∀ v w', Sat e w' (ownS 26 6 Msg.cs v (outsN wd f fd N) :: IsNode n wd f (stepN fd N) (k + 1) :: Q) → K (.tuple #[.agg (doneN fd N).cs.toArray, v, .int .i64 0]) w') :
    Cl prog 11 #[.pointer (some ⟨n, 0, none⟩)] w K := by
  refine cmb_Node_Step_calls ?_
  unfold cmb_Node_Step
  rw [zero_46, zero_26]
  refine al_s (cs := Done.zero.cs) hS rfl fun t2 w1 h1 => ?_
  refine node_Safe_s h1.swap fun w2 h2 => ?_
  cases hs : safeN wd N with
  | false =>
    refine not_f (iff_t (bld_s Done.zero.cs (by kernel_rfl) ?_))
    refine stN_at h2 1 rfl (vs := Done.zero.cs) rfl rfl (by decide) (ints_flat _) (cs' := Done.zero.cs) (by kernel_rfl) fun w3 h3 => ?_
    refine ldN_at h3 1 (vs := Done.zero.cs) rfl (by rfl) rfl ?_
    exact hno hs _ h3.swap.drop
  | true =>
    refine not_t (iff_f ?_)
    obtain ⟨X, g, q, lv, hX, h3⟩ := node_of h2
    have hN := hX.2.2
    have hXf : X.Feds.map FedX.f = wd.Feds := congrArg Wd.Feds hX.1
    have hXp : X.Parents = wd.Parents := congrArg Wd.Parents hX.1
    have hXl : X.Feds.length = wd.Feds.length := by rw [← hXf, List.length_map]
    have hf := hN.hf
    obtain ⟨fx, hfx⟩ := get_of_lt (l := X.Feds) (j := f) (by omega)
    have hfxm := List.mem_of_getElem? hfx
    obtain rfl : fd = fx.f := by
      rw [← hXf, List.getElem?_map, hfx] at hfd
      exact (Option.some.inj hfd).symm
    have hsf := hX.2.1.fed fx hfxm
    refine ncP_p (fld_at (fld_at (ld1_at h3 0 rfl (v := .pointer (some ⟨q, 0, none⟩)) rfl ?_)))
    refine q_Pop_s (h3.pick 2 rfl) fun w4 h4 => ?_
    refine xt_02 (xt_12 ?_)
    refine al_s (cs := Msg.zero.cs) h4 rfl fun t5 w5 h5 => ?_
    obtain ⟨m, hm⟩ : ∃ m, m = hdM N.q := ⟨_, rfl⟩
    rw [← hm]
    refine stN_at h5 0 rfl (vs := m.cs) rfl rfl (by decide) (ints_flat _) (cs' := m.cs) (by rfl) fun w6 h6 => ?_
    replace h6 : Sat e w6 (blk t5 26 m.cs :: IsQ q N.q.tail :: blk n 57 (ncs X f N g q lv) :: IsClk g N.clk :: WdOwn X :: ownS 46 7 Done.cs lv N.log :: blk t2 46 Done.zero.cs :: Q) := h6
    refine dr_s h6 fun w7 h7 => ?_
    refine ncP_p (fld_at (fld_at (ld1_at h7 2 rfl (v := X.fv) rfl ?_)))
    refine ncP_p (fld_at (ld1_at h7 2 rfl (v := .int .i64 f) rfl ?_))
    refine ixS_rd h7 4 rfl (fun g hg => (wdOwn_rd hg).feds) (fun _ => rfl) hfx fun p hp => ?_
    refine fld_of hp fun p1 hp1 => ld1_of h7 4 rfl hp1 (v := fx.rv) rfl ?_
    refine ncP_p (fld_at (ld1_at h7 2 rfl (v := .int .i64 N.st) rfl ?_))
    refine fld_at (ld1_at h7 0 rfl (v := .int .i64 m.Class) rfl ?_)
    refine table_Step_s (l := fx.Rules) (s := N.st) (c := m.Class) (h7.pick 4 rfl) (fun g hg => ((wdOwn_rd hg).fed fx hfxm).rules) hsf.rules hsf.sends fun ov w8 h8 => ?_
    obtain ⟨so, hso⟩ : ∃ so, so = ruleN fx.f N := ⟨_, rfl⟩
    have hso2 : stepR (fx.Rules.map RuleX.r) N.st m.Class = so := by rw [hso, hm]; rfl
    rw [hso2] at h8 ⊢
    have houts := step_outs hN.may (List.mem_of_getElem? hfd) N.st m.Class
    rw [show stepR fx.f.Rules N.st m.Class = so from hso2] at houts
    refine xt_02 (xt_12 ?_)
    replace h8 : Sat e w8 (ownS 78 3 Out.cs ov so.2 :: WdOwn X :: blk t5 26 m.cs :: IsQ q N.q.tail :: blk n 57 (ncs X f N g q lv) :: IsClk g N.clk :: ownS 46 7 Done.cs lv N.log :: blk t2 46 Done.zero.cs :: Q) := h8
    refine dr_s h8 fun w9 h9 => ?_
    refine ncP_p (fld_at (ldN_at h9 4 (vs := X.cs) rfl (by rfl) rfl ?_))
    refine ncP_p (fld_at (ld1_at h9 4 rfl (v := .int .i64 f) rfl ?_))
    refine ncP_p (fld_at (ld1_at h9 4 rfl (v := .int .i64 N.sent) rfl ?_))
    refine fld_at (fld_at (ld1_at h9 2 rfl (v := .int .i64 m.key.T) rfl ?_))
    refine fld_at (ld1_at h9 2 rfl (v := .int .i64 m.Body) rfl ?_)
    have hsu := hN.sent
    refine spread_s (x := X) (outs := so.2) 1 0 rfl rfl h9 (fun g hg => wdOwn_rd hg) (fun g hg => own_rd hg) hX.2.1 (by rw [hXp]; exact hN.may.tree) (fun o ho => by rw [hXp]; exact (houts.2 o ho).1) (by omega) ⟨hsu.1, by omega⟩ fun mv w10 h10 => ?_
    have hsp : spreadL X.w.Parents X.w.Feds f N.sent m.key.T m.Body so.2 = outsN wd f fx.f N := by rw [hX.1, hso, hm]; rfl
    rw [hsp] at h10
    generalize hout : outsN wd f fx.f N = ms at h10 hyes
    refine ncP_p (fld_at (ld1_at h10 5 rfl (v := .int .i64 N.sent) rfl ?_))
    refine lnS_rd h10 1 rfl (fun g hg => own_rd hg) ?_
    refine add_s (by omega) (by omega) ?_
    refine ncP_p (fld_at (stN_at h10 5 rfl (vs := ints [so.1]) rfl rfl (Nat.le_of_ble_eq_true rfl) (ints_flat _) (cs' := ncs X f ⟨N.clk, N.q, so.1, N.sent, N.log⟩ g q lv) (by rfl) fun w11 h11 => ?_))
    refine ncP_p (fld_at (stN_at h11 5 rfl (vs := ints [N.sent + so.2.length]) rfl rfl (Nat.le_of_ble_eq_true rfl) (ints_flat _) (cs' := ncs X f ⟨N.clk, N.q, so.1, N.sent + so.2.length, N.log⟩ g q lv) (by rfl) fun w12 h12 => ?_))
    refine ldN_at h12 3 (vs := m.cs) rfl (by rfl) rfl ?_
    refine bld_s (⟨m, so.1⟩ : Done).cs (by kernel_rfl) ?_
    refine al_s (cs := Done.zero.cs) h12 rfl fun t10 w13 h13 => ?_
    refine stN_at h13 0 rfl (vs := (⟨m, so.1⟩ : Done).cs) rfl rfl (Nat.le_of_ble_eq_true rfl) (ints_flat _) (cs' := (⟨m, so.1⟩ : Done).cs) (by rfl) fun w14 h14 => ?_
    replace h14 : Sat e w14 (blk t10 46 (⟨m, so.1⟩ : Done).cs :: ownS 26 6 Msg.cs mv ms :: ownS 78 3 Out.cs ov so.2 :: WdOwn X :: blk t5 26 m.cs :: IsQ q N.q.tail :: blk n 57 (ncs X f ⟨N.clk, N.q, so.1, N.sent + so.2.length, N.log⟩ g q lv) :: IsClk g N.clk :: ownS 46 7 Done.cs lv N.log :: blk t2 46 Done.zero.cs :: Q) := h14
    refine dr_s h14 fun w15 h15 => ?_
    refine ncP_p (fld_at (ld1_at h15 6 rfl (v := lv) rfl ?_))
    refine ldN_at h15 0 (vs := (⟨m, so.1⟩ : Done).cs) rfl (by rfl) rfl ?_
    refine bsl1 (vs := (⟨m, so.1⟩ : Done).cs) rfl rfl h15 fun bb w16 h16 => ?_
    refine ⟨ld1_at h16 7 rfl (v := lv) rfl ⟨rfl, rfl⟩, ?_⟩
    have hlog := hN.log
    refine apS_own te_55 te_55.und (f := Done.cs) (l := N.log) (m := [⟨m, so.1⟩]) (fun _ => rfl) (fun _ => ints_flat _) (h16.selR [_, _, _, _, _, _, _, _, _, _, _] [_, _, _, _, _, _, _, _, _, _, _] [9, 0, 1, 2, 3, 4, 5, 6, 7, 8, 10] (by decide) rfl) (blk_rd1 (f := Done.cs) (x := ⟨m, so.1⟩) (Nat.le_refl _)) (by simp; omega) fun lv' w17 h17 => ?_
    have q2 := h17.own_cells 0 rfl
    refine ncP_p (fld_at (stN_at h17 8 rfl (vs := [lv']) q2.1 rfl (Nat.le_of_ble_eq_true rfl) (fun c hc => by rw [List.mem_singleton.1 hc]; exact q2.2) (cs' := ncs X f ⟨N.clk, N.q, so.1, N.sent + so.2.length, N.log⟩ g q lv') (by rfl) fun w18 h18 => ?_))
    refine ldN_at h18 2 (vs := (⟨m, so.1⟩ : Done).cs) rfl (by rfl) rfl ?_
    refine stN_at h18 10 rfl (vs := (⟨m, so.1⟩ : Done).cs) rfl rfl (Nat.le_of_ble_eq_true rfl) (ints_flat _) (cs' := (⟨m, so.1⟩ : Done).cs) (by rfl) fun w19 h19 => ?_
    refine ldN_at h19 10 (vs := (⟨m, so.1⟩ : Done).cs) rfl (by rfl) rfl ?_
    have hd : doneN fx.f N = ⟨m, so.1⟩ := by unfold doneN; rw [← hso, ← hm]
    have hst : stepN fx.f N = ⟨N.clk, N.q.tail, so.1, N.sent + so.2.length, N.log ++ [⟨m, so.1⟩]⟩ := by unfold stepN; rw [hd, ← hso]
    rw [hd, hst] at hyes
    have h20 := node_mk (n := n) (f := f) (k := k + 1) (wd := wd) (N := ⟨N.clk, N.q.tail, so.1, N.sent + so.2.length, N.log ++ [⟨m, so.1⟩]⟩) (X := X) (g := g) (q := q) (lv := lv') ⟨hX.1, hX.2.1, hN.may, hN.hf, hN.len, hN.self, ⟨by show 0 ≤ N.sent + _; omega, by show N.sent + (so.2.length : Int) ≤ _; omega⟩, by show (N.log ++ [_]).length ≤ _; rw [List.length_append, List.length_singleton]; omega⟩
      (h19.selR [_, _, _, _, _, _, _, _, _, _] [_, _, _, _, _, _] [8, 9, 7, 5, 0, 3] (by decide) rfl)
    exact hyes hs mv _ (h20.selR [_, _, _] [_, _] [1, 0] (by decide) rfl)

theorem node_Log_s (hk0 : k ≤ 1000) (hS : Sat e w (IsNode n wd f N k :: Q)) (hk : ∀ v w', Sat e w' (ownS 46 7 Done.cs v N.log :: IsNode n wd f N k :: Q) → K v w') : Cl prog 16 #[.pointer (some ⟨n, 0, none⟩)] w K := by
  refine cmb_Node_Log_calls ?_
  unfold cmb_Node_Log
  obtain ⟨X, g, q, lv, hX, h2⟩ := node_of hS
  have hlog := hX.2.2.log
  refine ncP_p (fld_at (ld1_at h2 0 rfl (v := lv) rfl ?_))
  refine clone_dones_s (l := N.log) (by omega) (fun _ _ => ints_flat _) (h2.pick 4 rfl) (fun g hg => own_rd hg) fun v w3 h3 => ?_
  have h4 := node_mk hX (h3.selR [_, _, _, _, _, _] [_, _, _, _, _, _] [2, 3, 4, 5, 1, 0] (by decide) rfl)
  exact hk _ _ h4.swap
theorem Clk.tell_len (c : Clk) (a b : Int) : (c.tell a b).L = c.L ∧ (c.tell a b).self = c.self := by
  unfold Clk.tell
  split <;> exact ⟨rfl, rfl⟩
theorem node_Tell_s {fd : Fed} (hfd : wd.Feds[f]? = some fd) (hS : Sat e w (IsNode n wd f N k :: Q))
    (hk : ∀ w', Sat e w' (IsNode n wd f (tellN fd N) k :: Q) → K (.tuple #[.int .i64 (tellN fd N).clk.told, .bool (N.clk.tellB (firstT N) fd.Look)]) w') :
    Cl prog 19 #[.pointer (some ⟨n, 0, none⟩)] w K := by
  refine cmb_Node_Tell_calls ?_
  unfold cmb_Node_Tell
  obtain ⟨X, g, q, lv, hX, h2⟩ := node_of hS
  have hN := hX.2.2
  have hXf : X.Feds.map FedX.f = wd.Feds := congrArg Wd.Feds hX.1
  have hXl : X.Feds.length = wd.Feds.length := by rw [← hXf, List.length_map]
  have hf := hN.hf
  obtain ⟨fx, hfx⟩ := get_of_lt (l := X.Feds) (j := f) (by omega)
  have hfxm := List.mem_of_getElem? hfx
  obtain rfl : fd = fx.f := by
    rw [← hXf, List.getElem?_map, hfx] at hfd
    exact (Option.some.inj hfd).symm
  refine ncP_p (fld_at (ldN_at h2 0 (vs := [.pointer (some ⟨q, 0, none⟩)]) rfl (by rfl) rfl ?_))
  refine firstQ_s (h2.pick 2 rfl) fun w3 h3 => ?_
  refine xt_02 (xt_12 ?_)
  rw [zero_26]
  refine al_s (cs := Msg.zero.cs) h3 rfl fun b2 w4 h4 => ?_
  refine stN_at h4 0 rfl (vs := (hdM N.q).cs) rfl rfl (by decide) (ints_flat _) (cs' := (hdM N.q).cs) (by rfl) fun w5 h5 => ?_
  refine J1.cut (fun t4 w => t4 = .int .i64 (firstT N) ∧ Sat e w (blk b2 26 (hdM N.q).cs :: IsQ q N.q :: blk n 57 (ncs X f N g q lv) :: IsClk g N.clk :: WdOwn X :: ownS 46 7 Done.cs lv N.log :: Q)) (fun k1 hcut => ?_) ?_
  · cases hq : hasM N.q with
    | false =>
      refine iff_f (hcut _ _ ⟨?_, h5⟩)
      unfold firstT
      rw [if_neg (by rw [hq]; simp)]
      rfl
    | true =>
      refine iff_t (fld_at (fld_at (ld1_at h5 0 rfl (v := .int .i64 (hdM N.q).key.T) rfl (hcut _ _ ⟨?_, h5⟩))))
      unfold firstT
      rw [if_pos hq]
  · rintro _ w6 ⟨rfl, h6⟩
    refine dr_s h6 fun w7 h7 => ?_
    refine ncP_p (fld_at (ld1_at h7 2 rfl (v := .pointer (some ⟨g, 0, none⟩)) rfl ?_))
    refine ncP_p (fld_at (fld_at (ld1_at h7 2 rfl (v := X.fv) rfl ?_)))
    refine ncP_p (fld_at (ld1_at h7 2 rfl (v := .int .i64 f) rfl ?_))
    refine ixS_rd h7 4 rfl (fun g hg => (wdOwn_rd hg).feds) (fun _ => rfl) hfx fun p hp => ?_
    refine fld_of hp fun p1 hp1 => ld1_of h7 4 rfl hp1 (v := .int .i64 fx.Look) rfl ?_
    refine clock_Tell_s (h7.pick 3 rfl) fun w8 h8 => ?_
    refine xt_02 (xt_12 ?_)
    have ht := Clk.tell_len N.clk (firstT N) fx.f.Look
    refine hk _ (node_mk (N := tellN fx.f N) (X := X) (g := g) (q := q) (lv := lv) ⟨hX.1, hX.2.1, hN.may, hN.hf, by show (N.clk.tell (firstT N) fx.f.Look).L.length = _; rw [ht.1]; exact hN.len, by show (N.clk.tell (firstT N) fx.f.Look).self = _; rw [ht.2]; exact hN.self, hN.sent, hN.log⟩ ?_)
    exact h8.selR [_, _, _, _, _, _] [_, _, _, _, _] [3, 0, 2, 4, 5] (by decide) rfl
end Go.Proofs.YtenglfaeohgkfaaGreat
