/- The law CmbOrder. Conditions: none. -/
import Derived.Test.YtenglfaeohgkfaaGreatCmbC
namespace Go.Proofs.YtenglfaeohgkfaaGreat
open Go Go.E
set_option maxRecDepth 100000
variable {e w : World} {L Q : List HP} {K : KV} {S S2 : HP}

structure OpX where
  Kind : Int
  From : Int
  I : NItem
def OpX.ns (o : OpX) : List Int := [o.Kind, o.From, o.I.Kind, o.I.m.key.T, o.I.m.key.From, o.I.m.key.Seq, o.I.m.To, o.I.m.Class, o.I.m.Body, o.I.Colour]
abbrev OpX.cs (o : OpX) : List Value := ints o.ns
def OpX.of (l : List Int) : OpX := ⟨l.getD 0 0, l.getD 1 0, ⟨l.getD 2 0, ⟨⟨l.getD 3 0, l.getD 4 0, l.getD 5 0⟩, l.getD 6 0, l.getD 7 0, l.getD 8 0⟩, l.getD 9 0⟩⟩
theorem OpX.of_ns {l : List Int} (h : l.length = 10) : (OpX.of l).ns = l := by
  match l, h with
  | [_, _, _, _, _, _, _, _, _, _], _ => rfl
theorem OpX.of_cs {l : List Int} (h : l.length = 10) : (OpX.of l).cs = ints l := congrArg ints (OpX.of_ns h)
theorem OpX.t64 {l : List OpX} (h : ∀ x ∈ l, ∀ m ∈ x.ns, (Lit.int .i64 m).wf = true) {o : OpX} (ho : o ∈ l) : In64 o.I.m.key.T := In64.of_wf (h o ho _ (by simp [OpX.ns]))

/-! ### Bounds rise -/
theorem Clk.bound_le_get {c : Clk} {j : Int} (h : c.okJ j) : c.bound ≤ c.get j := c.bound_is.2.1 j h
theorem Clk.bound_hear (c : Clk) (j t : Int) : c.bound ≤ (c.hear j t).bound := by
  rcases Clk.hear_cases c j t with ⟨_, h⟩ | ⟨h1, _, h3, _, h⟩
  · rw [h]; exact Int.le_refl _
  · have hb := (c.hear j t).bound_is
    have hlen : ∀ i, (c.hear j t).okJ i ↔ c.okJ i := fun i => by unfold Clk.okJ; rw [Clk.hear_len, Clk.hear_self]
    rcases hb.2.2 with hi | ⟨i, hi1, hi2⟩
    · rw [hi]; exact c.bound_is.1
    · rw [hi2]
      have hic := (hlen i).1 hi1
      have hgi := Clk.bound_le_get hic
      have hgj := Clk.bound_le_get h1
      unfold Clk.okJ at hic h1
      have : (c.hear j t).get i = if i = j then t else c.get i := by
        rw [h]
        unfold Clk.get
        by_cases hij : i = j
        · subst hij
          rw [if_pos rfl, List.getD_eq_getElem?_getD, List.getElem?_set_self (by omega)]
          rfl
        · rw [if_neg hij, List.getD_eq_getElem?_getD, List.getD_eq_getElem?_getD, List.getElem?_set_ne (by omega)]
      rw [this]
      split <;> omega
theorem at_bound {c : Clk} {j : Int} (h : ¬ c.at' j < 0) : c.bound ≤ c.at' j := by
  unfold Clk.at' at h ⊢
  split
  · rename_i h1
    exact Clk.bound_le_get h1
  · rename_i h1
    rw [if_neg h1] at h
    omega
/-- What an accepted plain message is. -/
theorem hearN_cases (N : ND) (j : Int) (i : NItem) : ((hearN N j i).log = N.log ∧ (hearN N j i).st = N.st ∧ (hearN N j i).sent = N.sent ∧ N.clk.bound ≤ (hearN N j i).clk.bound ∧ (hearN N j i).clk.told = N.clk.told) ∧
    ∀ m ∈ (hearN N j i).q, m ∈ N.q ∨ (m = i.m ∧ N.clk.bound ≤ i.m.key.T) := by
  unfold hearN
  split
  · refine ⟨⟨rfl, rfl, rfl, Clk.bound_hear _ _ _, Clk.hear_told _ _ _⟩, fun m hm => .inl hm⟩
  · split
    · rename_i h1 h2
      refine ⟨⟨rfl, rfl, rfl, Int.le_refl _, rfl⟩, fun m hm => ?_⟩
      have hm' : m ∈ pushQ N.q i.m := hm
      unfold pushQ at hm'
      split at hm'
      · rcases List.mem_cons.1 ((insK_perm i.m N.q).mem_iff.1 hm') with h | h
        · exact .inr ⟨h, by have := at_bound h2.2.1; omega⟩
        · exact .inl h
      · exact .inl hm'
    · exact ⟨⟨rfl, rfl, rfl, Int.le_refl _, rfl⟩, fun m hm => .inl hm⟩
theorem hearE_plain {N : ND} {j : Int} {i : NItem} (h : hearE N j i = 0) (hp : i.Kind = 0) : N.clk.bound ≤ i.m.key.T := by
  unfold hearE at h
  rw [if_neg (by omega), if_pos hp] at h
  split at h
  · cases h
  · rename_i h1
    split at h
    · cases h
    · have := at_bound h1
      omega
structure OrdI (N : ND) : Prop where
  up : N.log.Pairwise fun a b => KeyLt a.m.key b.m.key
  ahead : ∀ d ∈ N.log, (∀ m ∈ N.q, KeyLt d.m.key m.key) ∧ d.m.key.T < N.clk.bound
theorem ordI_hear {N : ND} (h : OrdI N) (j : Int) (i : NItem) : OrdI (hearN N j i) := by
  obtain ⟨⟨h1, h2, h3, h4, h5⟩, h6⟩ := hearN_cases N j i
  refine ⟨by rw [h1]; exact h.up, fun d hd => ?_⟩
  rw [h1] at hd
  obtain ⟨k1, k2⟩ := h.ahead d hd
  refine ⟨fun m hm => ?_, by omega⟩
  rcases h6 m hm with h | ⟨rfl, h⟩
  · exact k1 m h
  · exact .inl (by omega)
theorem safe_facts {wd : Wd} {N : ND} (h : safeN wd N = true) : ∃ m r, N.q = m :: r ∧ hdM N.q = m ∧ m.key.T < wd.End ∧ m.key.T < N.clk.bound := by
  unfold safeN at h
  rw [Bool.and_eq_true] at h
  obtain ⟨m, r, hq⟩ := hasM_yes h.1
  have h2 := of_decide_eq_true h.2
  rw [hq] at h2
  have h3 : m.key.T < min wd.End N.clk.bound := h2
  exact ⟨m, r, hq, by rw [hq]; rfl, by omega, by omega⟩
theorem ordI_step {wd : Wd} {fd : Fed} {N : ND} (h : OrdI N) (hq : QOk N.q) (hs : safeN wd N = true) : OrdI (stepN fd N) := by
  obtain ⟨m, r, h1, h2, h3, h4⟩ := safe_facts hs
  have hd : (doneN fd N).m = m := h2
  have hup := hq.up
  rw [h1] at hup
  obtain ⟨u1, u2⟩ := List.pairwise_cons.1 hup
  refine ⟨?_, fun d hd' => ?_⟩
  · show (N.log ++ [doneN fd N]).Pairwise _
    rw [List.pairwise_append]
    refine ⟨h.up, List.pairwise_singleton _ _, fun a ha b hb => ?_⟩
    rw [List.mem_singleton.1 hb, hd]
    exact (h.ahead a ha).1 m (by rw [h1]; simp)
  · have htl : (stepN fd N).q = r := by show N.q.tail = r; rw [h1]; rfl
    have hb : (stepN fd N).clk.bound = N.clk.bound := rfl
    rw [htl, hb]
    have hd2 : d ∈ N.log ++ [doneN fd N] := hd'
    rcases List.mem_append.1 hd2 with hd2 | hd2
    · obtain ⟨k1, k2⟩ := h.ahead d hd2
      exact ⟨fun y hy => k1 y (by rw [h1]; simp [hy]), k2⟩
    · rw [List.mem_singleton.1 hd2, hd]
      exact ⟨fun y hy => u1 y hy, h4⟩
theorem ordI_0 : OrdI N0 := ⟨List.Pairwise.nil, fun d hd => by cases hd⟩

end Go.Proofs.YtenglfaeohgkfaaGreat
