/- The law CmbOrder. Conditions: none. -/
import Derived.Test.YtenglfaeohgkfaaCmbC
namespace Go.Proofs.Ytenglfaeohgkfaa
open Go Go.E
set_option maxRecDepth 100000
variable {e w : World} {L Q : List HP} {K : KV} {S S2 : HP}

structure OpX where
  Kind : Int
  From : Int
  I : NItem
def OpX.ns (o : OpX) : List Int := [o.Kind, o.From, o.I.Kind, o.I.m.key.T, o.I.m.key.From, o.I.m.key.Seq, o.I.m.To, o.I.m.Class, o.I.m.Body, o.I.Colour]
abbrev OpX.cs (o : OpX) : List Value := ints o.ns
def OpX.of (l : List Int) : OpX := ⟨l.getD 0 0, l.getD 1 0, ⟨l.getD 2 0, ⟨⟨l.getD 3 0, l.getD 4 0, l.getD 5 0⟩, l.getD 6 0, l.getD 7 0, l.getD 8 0⟩, l.getD 9 0⟩⟩
theorem OpX.of_ns {l : List Int} (h : l.length = 10) : (OpX.of l).ns = l := by
  match l, h with
  | [_, _, _, _, _, _, _, _, _, _], _ => rfl
theorem OpX.of_cs {l : List Int} (h : l.length = 10) : (OpX.of l).cs = ints l := congrArg ints (OpX.of_ns h)
theorem OpX.t64 {l : List OpX} (h : ∀ x ∈ l, ∀ m ∈ x.ns, (Lit.int .i64 m).wf = true) {o : OpX} (ho : o ∈ l) : In64 o.I.m.key.T := In64.of_wf (h o ho _ (by simp [OpX.ns]))

/-! ### Bounds rise -/
theorem Clk.bound_le_get {c : Clk} {j : Int} (h : c.okJ j) : c.bound ≤ c.get j := c.bound_is.2.1 j h
theorem Clk.bound_hear (c : Clk) (j t : Int) : c.bound ≤ (c.hear j t).bound := by
  rcases Clk.hear_cases c j t with ⟨_, h⟩ | ⟨h1, _, h3, _, h⟩
  · rw [h]; exact Int.le_refl _
  · have hb := (c.hear j t).bound_is
    have hlen : ∀ i, (c.hear j t).okJ i ↔ c.okJ i := fun i => by unfold Clk.okJ; rw [Clk.hear_len, Clk.hear_self]
    rcases hb.2.2 with hi | ⟨i, hi1, hi2⟩
    · rw [hi]; exact c.bound_is.1
    · rw [hi2]
      have hic := (hlen i).1 hi1
      have hgi := Clk.bound_le_get hic
      have hgj := Clk.bound_le_get h1
      unfold Clk.okJ at hic h1
      have : (c.hear j t).get i = if i = j then t else c.get i := by
        rw [h]
        unfold Clk.get
        by_cases hij : i = j
        · subst hij
          rw [if_pos rfl, List.getD_eq_getElem?_getD, List.getElem?_set_self (by omega)]
          rfl
        · rw [if_neg hij, List.getD_eq_getElem?_getD, List.getD_eq_getElem?_getD, List.getElem?_set_ne (by omega)]
      rw [this]
      split <;> omega
theorem at_bound {c : Clk} {j : Int} (h : ¬ c.at' j < 0) : c.bound ≤ c.at' j := by
  unfold Clk.at' at h ⊢
  split
  · rename_i h1
    exact Clk.bound_le_get h1
  · rename_i h1
    rw [if_neg h1] at h
    omega
/-- What an accepted plain message is. -/
theorem hearN_cases (N : ND) (j : Int) (i : NItem) : ((hearN N j i).log = N.log ∧ (hearN N j i).st = N.st ∧ (hearN N j i).sent = N.sent ∧ N.clk.bound ≤ (hearN N j i).clk.bound ∧ (hearN N j i).clk.told = N.clk.told) ∧
    ∀ m ∈ (hearN N j i).q, m ∈ N.q ∨ (m = i.m ∧ N.clk.bound ≤ i.m.key.T) := by
  unfold hearN
  split
  · refine ⟨⟨rfl, rfl, rfl, Clk.bound_hear _ _ _, Clk.hear_told _ _ _⟩, fun m hm => .inl hm⟩
  · split
    · rename_i h1 h2
      refine ⟨⟨rfl, rfl, rfl, Int.le_refl _, rfl⟩, fun m hm => ?_⟩
      have hm' : m ∈ pushQ N.q i.m := hm
      unfold pushQ at hm'
      split at hm'
      · rcases List.mem_cons.1 ((insK_perm i.m N.q).mem_iff.1 hm') with h | h
        · exact .inr ⟨h, by have := at_bound h2.2.1; omega⟩
        · exact .inl h
      · exact .inl hm'
    · exact ⟨⟨rfl, rfl, rfl, Int.le_refl _, rfl⟩, fun m hm => .inl hm⟩
theorem hearE_plain {N : ND} {j : Int} {i : NItem} (h : hearE N j i = 0) (hp : i.Kind = 0) : N.clk.bound ≤ i.m.key.T := by
  unfold hearE at h
  rw [if_neg (by omega), if_pos hp] at h
  split at h
  · cases h
  · rename_i h1
    split at h
    · cases h
    · have := at_bound h1
      omega
structure OrdI (N : ND) : Prop where
  up : N.log.Pairwise fun a b => KeyLt a.m.key b.m.key
  ahead : ∀ d ∈ N.log, (∀ m ∈ N.q, KeyLt d.m.key m.key) ∧ d.m.key.T < N.clk.bound
theorem ordI_hear {N : ND} (h : OrdI N) (j : Int) (i : NItem) : OrdI (hearN N j i) := by
  obtain ⟨⟨h1, h2, h3, h4, h5⟩, h6⟩ := hearN_cases N j i
  refine ⟨by rw [h1]; exact h.up, fun d hd => ?_⟩
  rw [h1] at hd
  obtain ⟨k1, k2⟩ := h.ahead d hd
  refine ⟨fun m hm => ?_, by omega⟩
  rcases h6 m hm with h | ⟨rfl, h⟩
  · exact k1 m h
  · exact .inl (by omega)
theorem safe_facts {wd : Wd} {N : ND} (h : safeN wd N = true) : ∃ m r, N.q = m :: r ∧ hdM N.q = m ∧ m.key.T < wd.End ∧ m.key.T < N.clk.bound := by
  unfold safeN at h
  rw [Bool.and_eq_true] at h
  obtain ⟨m, r, hq⟩ := hasM_yes h.1
  have h2 := of_decide_eq_true h.2
  rw [hq] at h2
  have h3 : m.key.T < min wd.End N.clk.bound := h2
  exact ⟨m, r, hq, by rw [hq]; rfl, by omega, by omega⟩
theorem ordI_step {wd : Wd} {fd : Fed} {N : ND} (h : OrdI N) (hq : QOk N.q) (hs : safeN wd N = true) : OrdI (stepN fd N) := by
  obtain ⟨m, r, h1, h2, h3, h4⟩ := safe_facts hs
  have hd : (doneN fd N).m = m := h2
  have hup := hq.up
  rw [h1] at hup
  obtain ⟨u1, u2⟩ := List.pairwise_cons.1 hup
  refine ⟨?_, fun d hd' => ?_⟩
  · show (N.log ++ [doneN fd N]).Pairwise _
    rw [List.pairwise_append]
    refine ⟨h.up, List.pairwise_singleton _ _, fun a ha b hb => ?_⟩
    rw [List.mem_singleton.1 hb, hd]
    exact (h.ahead a ha).1 m (by rw [h1]; simp)
  · have htl : (stepN fd N).q = r := by show N.q.tail = r; rw [h1]; rfl
    have hb : (stepN fd N).clk.bound = N.clk.bound := rfl
    rw [htl, hb]
    have hd2 : d ∈ N.log ++ [doneN fd N] := hd'
    rcases List.mem_append.1 hd2 with hd2 | hd2
    · obtain ⟨k1, k2⟩ := h.ahead d hd2
      exact ⟨fun y hy => k1 y (by rw [h1]; simp [hy]), k2⟩
    · rw [List.mem_singleton.1 hd2, hd]
      exact ⟨fun y hy => u1 y hy, h4⟩
theorem ordI_0 : OrdI N0 := ⟨List.Pairwise.nil, fun d hd => by cases hd⟩

theorem cmbOrder_s {v : Value} {l : List OpX} (hS : Sat e w (S :: Q)) (hr : ∀ g, S g → rdS 10 OpX.cs v l g) (hw : ∀ x ∈ l, ∀ m ∈ x.ns, (Lit.int .i64 m).wf = true) (hk : ∀ w', Sat e w' (S :: Q) → K (.bool true) w') :
    Cl prog 3 #[v] w K := by
  refine pacelinelaw12_CmbOrder_calls ?_
  unfold pacelinelaw12_CmbOrder
  refine lnS_rd hS 0 rfl hr ?_
  refine gt_c (fun c1 => ?_) (fun c1 => ?_)
  · repeat (first | refine gd_tt ?_ | refine gd_ff ?_ | refine gd_tf ?_ | refine gd_ft ?_ | refine gd_u ?_ | refine pk_t ?_ | refine pk_f ?_ | refine iff_t ?_ | refine iff_f ?_ | refine not_t ?_ | refine not_f ?_ | refine beq_s ?_ | refine bne_s ?_ | refine ncP_p ?_ | refine nc_p ?_ | refine fld_at ?_ | refine xt_02 ?_ | refine xt_12 ?_ | refine xt_03 ?_ | refine xt_13 ?_ | refine xt_23 ?_ | refine eq_t (by omega) ?_ | refine eq_f (by omega) ?_ | refine ne_t (by omega) ?_ | refine ne_f (by omega) ?_ | refine lt_t (by omega) ?_ | refine lt_f (by omega) ?_ | refine gt_t (by omega) ?_ | refine gt_f (by omega) ?_ | refine ge_t (by omega) ?_ | refine ge_f (by omega) ?_ | refine le_t (by omega) ?_ | refine le_f (by omega) ?_)
    exact shown12_s hS fun w2 h2 => hk _ h2
  refine gd_ff (shown12_s hS fun w2 h2 => gd_ff (not_t (pk_f (iff_f ?_))))
  refine start_s h2 fun r w3 h3 => ?_
  refine xt_02 (xt_12 (ne_f rfl (gd_ff (gd_ff (bnp_s _ (pk_f (iff_f ?_)))))))
  refine lpi1 (fun q t5 w => ∃ (j : Nat) (N : ND) (k : Nat), j ≤ l.length ∧ t5 = .int .i64 j ∧ q = l.length - j ∧ k ≤ j ∧ OrdI N ∧ Sat e w (IsNode r echoW 0 N k :: S :: Q)) l.length ⟨0, N0, 0, Nat.zero_le _, rfl, rfl, Nat.le_refl _, ordI_0, h3⟩ ?_
  rintro q _ w g1 ⟨j, N, k, hj, rfl, rfl, hkj, hI, h4⟩ hg1
  refine lnS_rd h4 1 rfl hr ?_
  refine lt_c (fun c2 => iff_t ?_) (fun c2 => iff_f ?_)
  · obtain ⟨o, ho⟩ := get_of_lt (l := l) (j := j) (by omega)
    have hom := List.mem_of_getElem? ho
    have ht64 := OpX.t64 hw hom
    refine J0.cut (fun w => ∃ (N : ND) (k : Nat), k ≤ j + 1 ∧ OrdI N ∧ Sat e w (IsNode r echoW 0 N k :: S :: Q)) (fun k2 hcut => ?_) ?_
    · refine ixS_rd h4 1 rfl hr (fun _ => rfl) ho fun p hp => ldN_of h4 1 rfl hp rfl ?_
      rw [zero_40]
      refine al_s (cs := ints [0, 0, 0, 0, 0, 0, 0, 0, 0, 0]) h4 rfl fun t6 w5 h5 => ?_
      refine stN_at h5 0 rfl (vs := o.cs) rfl rfl (by decide) (ints_flat _) (cs' := o.cs) (by rfl) fun w6 h6 => ?_
      obtain ⟨g, hg1', hg2⟩ := node_bnd h6.swap
      refine ncP_p (fld_at (hg1' _ (hg2 _ fun w7 h7 => ?_)))
      refine fld_at (ld1_at h7 1 rfl (v := .int .i64 o.Kind) rfl ?_)
      refine eq_c (fun c3 => iff_t ?_) (fun c3 => iff_f (eq_c (fun c4 => iff_t ?_) (fun c4 => iff_f ?_)))
      · refine fld_at (ld1_at h7 1 rfl (v := .int .i64 o.From) rfl ?_)
        refine fld_at (ldN_at h7 1 (vs := o.I.cs) rfl (by rfl) rfl ?_)
        refine node_Hear_s (i := o.I) ht64 h7 fun w8 h8 => ?_
        have hend : ∀ w', Sat e w' (IsNode r echoW 0 (hearN N o.From o.I) k :: blk t6 40 o.cs :: S :: Q) → k2 w' := fun w' h' => hcut _ ⟨_, k, by omega, ordI_hear hI _ _, h'.selR [_, _] [_] [0] (by decide) rfl⟩
        refine eq_c (fun c5 => ?_) (fun c5 => ?_)
        · refine gd_tt (fld_at (gd_tt (fld_at (gd_tt (ld1_at h8 1 rfl (v := .int .i64 o.I.Kind) rfl (gd_tt ?_))))))
          refine eq_c (fun c6 => pk_t ?_) (fun c6 => pk_t ?_)
          · have hpl := hearE_plain c5 c6
            refine gd_tt (fld_at (gd_tt (fld_at (gd_tt (fld_at (gd_tt (fld_at (gd_tt (ld1_at h8 1 rfl (v := .int .i64 o.I.m.key.T) rfl (gd_tt (gd_tt ?_)))))))))))
            exact lt_f (by omega) (pk_t (iff_f (hend _ h8)))
          · repeat (first | refine gd_tt ?_ | refine gd_ff ?_ | refine gd_tf ?_ | refine gd_ft ?_ | refine gd_u ?_ | refine pk_t ?_ | refine pk_f ?_ | refine iff_t ?_ | refine iff_f ?_ | refine not_t ?_ | refine not_f ?_ | refine beq_s ?_ | refine bne_s ?_ | refine ncP_p ?_ | refine nc_p ?_ | refine fld_at ?_ | refine xt_02 ?_ | refine xt_12 ?_ | refine xt_03 ?_ | refine xt_13 ?_ | refine xt_23 ?_ | refine eq_t (by omega) ?_ | refine eq_f (by omega) ?_ | refine ne_t (by omega) ?_ | refine ne_f (by omega) ?_ | refine lt_t (by omega) ?_ | refine lt_f (by omega) ?_ | refine gt_t (by omega) ?_ | refine gt_f (by omega) ?_ | refine ge_t (by omega) ?_ | refine ge_f (by omega) ?_ | refine le_t (by omega) ?_ | refine le_f (by omega) ?_)
            exact hend _ h8
        · repeat (first | refine gd_tt ?_ | refine gd_ff ?_ | refine gd_tf ?_ | refine gd_ft ?_ | refine gd_u ?_ | refine pk_t ?_ | refine pk_f ?_ | refine iff_t ?_ | refine iff_f ?_ | refine not_t ?_ | refine not_f ?_ | refine beq_s ?_ | refine bne_s ?_ | refine ncP_p ?_ | refine nc_p ?_ | refine fld_at ?_ | refine xt_02 ?_ | refine xt_12 ?_ | refine xt_03 ?_ | refine xt_13 ?_ | refine xt_23 ?_ | refine eq_t (by omega) ?_ | refine eq_f (by omega) ?_ | refine ne_t (by omega) ?_ | refine ne_f (by omega) ?_ | refine lt_t (by omega) ?_ | refine lt_f (by omega) ?_ | refine gt_t (by omega) ?_ | refine gt_f (by omega) ?_ | refine ge_t (by omega) ?_ | refine ge_f (by omega) ?_ | refine le_t (by omega) ?_ | refine le_f (by omega) ?_)
          exact hend _ h8
      · have hqk := (node_ok 0 h7 rfl).2
        rw [zero_51]
        have hkl : k ≤ 1000 := by omega
        refine node_Step_s (fd := echoF) hkl rfl h7 (fun hs w8 h8 => ?_) (fun hs v w8 h8 => ?_)
        · refine xt_03 (xt_13 (xt_23 ?_))
          refine al_s (cs := Done.zero.cs) h8 rfl fun t9 w9 h9 => ?_
          refine stN_at h9 0 rfl (vs := Done.zero.cs) rfl rfl (by decide) (ints_flat _) (cs' := Done.zero.cs) (by rfl) fun w10 h10 => ?_
          repeat (first | refine gd_tt ?_ | refine gd_ff ?_ | refine gd_tf ?_ | refine gd_ft ?_ | refine gd_u ?_ | refine pk_t ?_ | refine pk_f ?_ | refine iff_t ?_ | refine iff_f ?_ | refine not_t ?_ | refine not_f ?_ | refine beq_s ?_ | refine bne_s ?_ | refine ncP_p ?_ | refine nc_p ?_ | refine fld_at ?_ | refine xt_02 ?_ | refine xt_12 ?_ | refine xt_03 ?_ | refine xt_13 ?_ | refine xt_23 ?_ | refine eq_t (by omega) ?_ | refine eq_f (by omega) ?_ | refine ne_t (by omega) ?_ | refine ne_f (by omega) ?_ | refine lt_t (by omega) ?_ | refine lt_f (by omega) ?_ | refine gt_t (by omega) ?_ | refine gt_f (by omega) ?_ | refine ge_t (by omega) ?_ | refine ge_f (by omega) ?_ | refine le_t (by omega) ?_ | refine le_f (by omega) ?_)
          exact hcut _ ⟨N, k, by omega, hI, h10.selR [_, _, _] [_] [1] (by decide) rfl⟩
        · obtain ⟨m, r', hq1, hq2, hq3, hq4⟩ := safe_facts hs
          have hd : (doneN echoF N).m = m := hq2
          refine xt_03 (xt_13 (xt_23 ?_))
          refine al_s (cs := Done.zero.cs) h8 rfl fun t9 w9 h9 => ?_
          refine stN_at h9 0 rfl (vs := (doneN echoF N).cs) rfl rfl (Nat.le_of_ble_eq_true rfl) (ints_flat _) (cs' := (doneN echoF N).cs) (by rfl) fun w10 h10 => ?_
          have hT : (doneN echoF N).m.key.T = m.key.T := by rw [hd]
          have hE : echoW.End = 100 := rfl
          refine eq_t rfl (gd_tt (fld_at (gd_tt (fld_at (gd_tt (fld_at (gd_tt (ld1_at h10 0 rfl (v := .int .i64 (doneN echoF N).m.key.T) rfl (gd_tt (gd_tt ?_))))))))))
          refine ge_f (by rw [hT]; omega) (gd_tt (gd_ff (fld_at (gd_ff (fld_at (gd_ff (fld_at (gd_ff (ld1_at h10 0 rfl (v := .int .i64 (doneN echoF N).m.key.T) rfl (gd_ff ?_))))))))))
          refine ge_f (by rw [hT]; omega) (gd_tt (pk_f (pk_t (iff_f ?_))))
          exact hcut _ ⟨_, k + 1, by omega, ordI_step hI hqk hs, h10.selR [_, _, _, _] [_] [2] (by decide) rfl⟩
      · exact hcut _ ⟨N, k, by omega, hI, h7.selR [_, _] [_] [0] (by decide) rfl⟩
    · rintro w' ⟨N', k', hk', hI', h'⟩
      refine inc_s (by omega) ?_
      exact hg1 _ _ _ (by omega) ⟨j + 1, N', k', by omega, rfl, rfl, hk', hI', h'⟩
  · have hok := (node_ok 0 h4 rfl).1
    have hlog := hok.log
    refine node_Log_s (by omega) h4 fun lv w5 h5 => ?_
    refine lpi1 (fun q t13 w => ∃ i : Nat, 1 ≤ i ∧ t13 = .int .i64 i ∧ q = N.log.length + 1 - i ∧ Sat e w (ownS 51 7 Done.cs lv N.log :: IsNode r echoW 0 N k :: S :: Q)) N.log.length ⟨1, Nat.le_refl _, rfl, by omega, h5⟩ ?_
    rintro q _ w g4 ⟨i, hi, rfl, rfl, h9⟩ hg4
    refine lnS_rd h9 0 rfl (fun g hg => own_rd hg) ?_
    refine lt_c (fun c3 => iff_t ?_) (fun c3 => iff_f (hk _ h9.drop.drop))
    obtain ⟨y, hy⟩ := get_of_lt (l := N.log) (j := i) (by omega)
    obtain ⟨z, hz⟩ := get_of_lt (l := N.log) (j := i - 1) (by omega)
    refine dr_s h9 fun w10 h10 => ?_
    refine sub_s (by omega) (by omega) ?_
    rw [show (i : Int) - 1 = ((i - 1 : Nat) : Int) from by omega]
    refine ixS_rd h10 0 rfl (fun g hg => own_rd hg) (fun _ => rfl) hz fun p hp => ?_
    refine fld_of hp fun p1 hp1 => fld_of hp1 fun p2 hp2 => ?_
    refine ldN_sub (us := z.m.key.cs) h10 0 rfl hp2 (by rfl) rfl ?_
    refine ixS_rd h10 0 rfl (fun g hg => own_rd hg) (fun _ => rfl) hy fun p hp => ?_
    refine fld_of hp fun p1 hp1 => fld_of hp1 fun p2 hp2 => ?_
    refine ldN_sub (us := y.m.key.cs) h10 0 rfl hp2 (by rfl) rfl ?_
    refine ref01_Cmp_s h10 fun w11 h11 => ?_
    have hlt : KeyLt z.m.key y.m.key := by
      have := List.pairwise_iff_getElem.1 hI.up (i - 1) i (List.getElem?_eq_some_iff.1 hz).1 (List.getElem?_eq_some_iff.1 hy).1 (by omega)
      rwa [(List.getElem?_eq_some_iff.1 hz).2, (List.getElem?_eq_some_iff.1 hy).2] at this
    have hneg := cmpK_lt.2 hlt
    refine ge_f (by omega) (iff_f (inc_s (by omega) ?_))
    exact hg4 (N.log.length + 1 - (i + 1)) _ _ (by omega) ⟨i + 1, by omega, rfl, rfl, h11⟩
end Go.Proofs.Ytenglfaeohgkfaa
