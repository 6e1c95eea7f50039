/- Calendars: what memory holds, New, of, Len, Push. Conditions: at most a thousand messages. -/
import Derived.Test.YtlmakkjbcmhaeaaCalB
namespace Go.Proofs.Ytlmakkjbcmhaeaa
open Go Go.E
set_option maxRecDepth 100000
variable {e w : World} {R : List HP} {K : KV}

def rows (vs : List Value) (pg : List (List Msg)) : List HP := List.zipWith (fun v l => ownS 32 6 Msg.cs v l) vs pg
def IsCal (q : Nat) (room day : Int) (pg : List (List Msg)) : HP := hex fun vs : List Value => sepL [pur (vs.length = 8 ∧ pg.length = 8), blk q 58 (.int .i64 room :: .int .i64 day :: .int .i64 (pg.flatten.length : Int) :: vs), sepL (rows vs pg)]
theorem cal_of {q : Nat} {room day : Int} {pg : List (List Msg)} (h : Sat e w (IsCal q room day pg :: R)) : ∃ vs, vs.length = 8 ∧ pg.length = 8 ∧ Sat e w (blk q 58 (.int .i64 room :: .int .i64 day :: .int .i64 (pg.flatten.length : Int) :: vs) :: sepL (rows vs pg) :: R) := by
  obtain ⟨vs, h0⟩ := h.ex
  obtain ⟨⟨h1, h2⟩, h3⟩ := Sat.pure h0.split
  exact ⟨vs, h1, h2, h3⟩
theorem cal_mk {q : Nat} {room day : Int} {pg : List (List Msg)} {vs : List Value} (h1 : vs.length = 8) (h2 : pg.length = 8) (h : Sat e w (blk q 58 (.int .i64 room :: .int .i64 day :: .int .i64 (pg.flatten.length : Int) :: vs) :: sepL (rows vs pg) :: R)) : Sat e w (IsCal q room day pg :: R) :=
  .mk_ex vs (.join (l' := [_, _, _]) (.mk_pure ⟨h1, h2⟩ h))

theorem rows_get {vs : List Value} {pg : List (List Msg)} {p : Nat} {v : Value} {l : List Msg} (hv : vs[p]? = some v) (hl : pg[p]? = some l) : (rows vs pg)[p]? = some (ownS 32 6 Msg.cs v l) := by
  unfold rows
  rw [List.getElem?_zipWith, hv, hl]
theorem rows_set {vs : List Value} {pg : List (List Msg)} {p : Nat} {v : Value} {l : List Msg} (hv : p < vs.length) (hl : p < pg.length) : (rows vs pg).set p (ownS 32 6 Msg.cs v l) = rows (vs.set p v) (pg.set p l) := by
  unfold rows
  apply List.ext_getElem?
  intro i
  rw [List.getElem?_zipWith]
  by_cases h : p = i
  · subst h
    rw [List.getElem?_set_self (by rw [List.length_zipWith]; omega), List.getElem?_set_self hv, List.getElem?_set_self hl]
  · rw [List.getElem?_set_ne h, List.getElem?_set_ne h, List.getElem?_set_ne h, List.getElem?_zipWith]

/-! ### Pages -/
def pageN (day t : Int) : Nat := ((t / day) % 8).toNat
theorem pageN_lt {day t : Int} : pageN day t < 8 := by
  unfold pageN
  have := Int.emod_lt_of_pos (t / day) (show (0 : Int) < 8 by decide)
  have := Int.emod_nonneg (t / day) (show (8 : Int) ≠ 0 by decide)
  omega
theorem valid_nonneg {t : Int} (h : validT t = true) : 0 ≤ t ∧ t ≤ 1125899906842624 := by
  have := of_decide_eq_true h
  unfold Inf MaxT at this
  omega
structure CalOk (day : Int) (pg : List (List Msg)) : Prop where
  len : pg.length = 8
  up : ∀ l ∈ pg, Upk l
  at' : ∀ (p : Nat) (l : List Msg), pg[p]? = some l → ∀ m ∈ l, validT m.key.T = true ∧ pageN day m.key.T = p
theorem flat_set {pg : List (List Msg)} {p : Nat} {l l' : List Msg} (hl : pg[p]? = some l) : ((pg.set p l').flatten ++ l).Perm (pg.flatten ++ l') := by
  induction pg generalizing p with
  | nil => simp at hl
  | cons a pg ih =>
    cases p with
    | zero =>
      simp at hl
      subst hl
      simp only [List.set_cons_zero, List.flatten_cons]
      rw [List.append_assoc, List.append_assoc]
      refine (List.perm_append_comm (l₁ := l')).trans ?_
      rw [List.append_assoc]
      refine (List.perm_append_comm_assoc _ _ _).trans ?_
      rfl
    | succ p =>
      simp only [List.getElem?_cons_succ] at hl
      simp only [List.set_cons_succ, List.flatten_cons, List.append_assoc]
      exact (ih hl).append_left a
theorem ins_flat {pg : List (List Msg)} {p i : Nat} {l : List Msg} {x : Msg} (hl : pg[p]? = some l) : (pg.set p (insAt l x i)).flatten.Perm (x :: pg.flatten) := by
  have h1 := flat_set (l' := insAt l x i) hl
  have h2 : (pg.flatten ++ insAt l x i).Perm ((x :: pg.flatten) ++ l) := by
    refine ((insAt_perm l x i).append_left _).trans ?_
    refine (List.Perm.append_left _ (List.perm_append_comm (l₁ := l) (l₂ := [x]))).trans ?_
    exact List.perm_middle
  exact (List.perm_append_right_iff l).1 (h1.trans h2)
theorem del_flat {pg : List (List Msg)} {p i : Nat} {l : List Msg} {x : Msg} (hl : pg[p]? = some l) (hx : l[i]? = some x) : (x :: (pg.set p (l.take i ++ l.drop (i + 1))).flatten).Perm pg.flatten := by
  have h1 := flat_set (l' := l.take i ++ l.drop (i + 1)) hl
  have h3 : l.Perm (x :: (l.take i ++ l.drop (i + 1))) := by
    have e1 : l = l.take i ++ x :: l.drop (i + 1) := by rw [← drop_cons hx, List.take_append_drop]
    refine (List.Perm.of_eq e1).trans List.perm_middle
  have h2 : ((pg.set p (l.take i ++ l.drop (i + 1))).flatten ++ x :: (l.take i ++ l.drop (i + 1))).Perm (pg.flatten ++ (l.take i ++ l.drop (i + 1))) := (h3.symm.append_left _).trans h1
  have h4 := (List.perm_middle (a := x) (l₁ := (pg.set p (l.take i ++ l.drop (i + 1))).flatten) (l₂ := l.take i ++ l.drop (i + 1))).symm.trans h2
  rw [← List.cons_append] at h4
  exact (List.perm_append_right_iff _).1 h4

theorem CalOk.page {day : Int} {pg : List (List Msg)} (h : CalOk day pg) (t : Int) : ∃ l, pg[pageN day t]? = some l := by
  have := pageN_lt (day := day) (t := t)
  have h8 := h.len
  exact ⟨_, List.getElem?_eq_getElem (by omega)⟩
theorem CalOk.mem {day : Int} {pg : List (List Msg)} (h : CalOk day pg) {l : List Msg} {k : Key} (hl : pg[pageN day k.T]? = some l) : (∃ y ∈ pg.flatten, y.key = k) ↔ ∃ y ∈ l, y.key = k := by
  constructor
  · rintro ⟨y, hy, rfl⟩
    obtain ⟨l', hl', hyl⟩ := List.mem_flatten.1 hy
    obtain ⟨p, hp⟩ := List.mem_iff_getElem?.1 hl'
    have := (h.at' p l' hp y hyl).2
    rw [this, hp] at hl
    injection hl with hl
    exact ⟨y, hl ▸ hyl, rfl⟩
  · rintro ⟨y, hy, hk⟩
    exact ⟨y, List.mem_flatten.2 ⟨l, List.mem_of_getElem? hl, hy⟩, hk⟩
theorem fnd_iff {l : List Msg} {k : Key} {i : Nat} (hp : PlaceAt l k i) (hu : Upk l) : fnd l i k = true ↔ ∃ y ∈ l, y.key = k := by
  unfold fnd
  constructor
  · intro h
    cases hy : l[i]? with
    | none => rw [hy] at h; cases h
    | some y => rw [hy] at h; exact ⟨y, List.mem_of_getElem? hy, of_decide_eq_true h⟩
  · rintro ⟨y, hy, rfl⟩
    obtain ⟨j, hj⟩ := List.mem_iff_getElem?.1 hy
    have hjl := (List.getElem?_eq_some_iff.1 hj)
    have hjl1 := hjl.1
    have h1 : ¬ j < i := fun h => KeyLt.irrefl _ (hp.lo j y h hj)
    by_cases h2 : i = j
    · subst h2; rw [hj]; exact decide_eq_true rfl
    · exfalso
      obtain ⟨z, hz⟩ := get_of_lt (l := l) (j := i) (by omega)
      have h3 := List.pairwise_iff_getElem.1 hu i j (by omega) hjl.1 (by omega)
      rw [(List.getElem?_eq_some_iff.1 hz).2, hjl.2] at h3
      exact hp.hi i z (Nat.le_refl _) hz h3
theorem PlaceAt.up {l : List Msg} {x : Msg} {i : Nat} (h : PlaceAt l x.key i) (hu : Upk l) (hne : ∀ y ∈ l, y.key ≠ x.key) : Upk (insAt l x i) := by
  have hs : (l.take i ++ l.drop i).Pairwise fun a b => KeyLt a.key b.key := by rw [List.take_append_drop]; exact hu
  obtain ⟨h1, h2, h3⟩ := List.pairwise_append.1 hs
  have hlo : ∀ y ∈ l.take i, KeyLt y.key x.key := by
    intro y hy
    obtain ⟨j, hj⟩ := List.mem_iff_getElem?.1 hy
    rw [List.getElem?_take] at hj
    split at hj
    · exact h.lo j y (by assumption) hj
    · cases hj
  have hhi : ∀ y ∈ l.drop i, KeyLt x.key y.key := by
    intro y hy
    obtain ⟨j, hj⟩ := List.mem_iff_getElem?.1 hy
    rw [List.getElem?_drop] at hj
    have h5 := h.hi (i + j) y (by omega) hj
    rcases KeyLt.tri x.key y.key with h6 | h6 | h6
    · exact h6
    · exact absurd h6.symm (hne y (List.mem_of_getElem? hj))
    · exact absurd h6 h5
  unfold insAt Upk
  refine List.pairwise_append.2 ⟨h1, List.pairwise_cons.2 ⟨hhi, h2⟩, fun z hz y hy => ?_⟩
  rcases List.mem_cons.1 hy with rfl | hy
  · exact hlo z hz
  · exact h3 z hz y hy
theorem CalOk.set {day : Int} {pg : List (List Msg)} (h : CalOk day pg) {p : Nat} {l' : List Msg} (hu : Upk l') (ha : ∀ m ∈ l', validT m.key.T = true ∧ pageN day m.key.T = p) : CalOk day (pg.set p l') := by
  refine ⟨by rw [List.length_set]; exact h.len, fun l hl => ?_, fun p' l hl => ?_⟩
  · obtain ⟨i, hi⟩ := List.mem_iff_getElem?.1 hl
    rw [List.getElem?_set] at hi
    split at hi
    · split at hi
      · injection hi with hi; exact hi ▸ hu
      · cases hi
    · exact h.up l (List.mem_of_getElem? hi)
  · rw [List.getElem?_set] at hl
    split at hl
    · rename_i e1
      subst e1
      split at hl
      · injection hl with hl; exact hl ▸ ha
      · cases hl
    · exact h.at' p' l hl
theorem CalOk.nil (day : Int) : CalOk day (List.replicate 8 []) := by
  refine ⟨rfl, fun l hl => ?_, fun p l hl m hm => ?_⟩
  · rw [List.eq_of_mem_replicate hl]; exact .nil
  · rw [List.eq_of_mem_replicate (List.mem_of_getElem? hl)] at hm; cases hm

/-! ### New, of, Len -/
theorem cal_New_s {n d : Int} (hS : Sat e w R) (hk : ∀ q w', Sat e w' (IsCal q (max 0 (min n 64)) (max 1 (min d 1048576)) (List.replicate 8 []) :: R) → K (.pointer (some ⟨q, 0, none⟩)) w') : Cl prog 8 #[.int .i64 n, .int .i64 d] w K := by
  refine calendar_New_calls ?_
  unfold calendar_New
  refine min_s (max_s (min_s (max_s ?_)))
  rw [zero_58]
  refine bld_s (.int .i64 (max 0 (min n 64)) :: .int .i64 (max 1 (min d 1048576)) :: .int .i64 0 :: List.replicate 8 (.slice none 0 0)) (by kernel_rfl) ?_
  refine al_s (cs := .int .i64 (max 0 (min n 64)) :: .int .i64 (max 1 (min d 1048576)) :: .int .i64 0 :: List.replicate 8 (.slice none 0 0)) hS rfl fun q w2 h2 => ?_
  refine hk _ _ (cal_mk (vs := List.replicate 8 (.slice none 0 0)) rfl rfl ?_)
  have h3 : Sat e w2 ([ownS 32 6 Msg.cs (.slice none 0 0) [], ownS 32 6 Msg.cs (.slice none 0 0) [], ownS 32 6 Msg.cs (.slice none 0 0) [], ownS 32 6 Msg.cs (.slice none 0 0) [], ownS 32 6 Msg.cs (.slice none 0 0) [], ownS 32 6 Msg.cs (.slice none 0 0) [], ownS 32 6 Msg.cs (.slice none 0 0) [], ownS 32 6 Msg.cs (.slice none 0 0) []] ++ blk q 58 (.int .i64 (max 0 (min n 64)) :: .int .i64 (max 1 (min d 1048576)) :: .int .i64 0 :: List.replicate 8 (.slice none 0 0)) :: R) :=
    (((((((h2.own_nil _ _ _).own_nil _ _ _).own_nil _ _ _).own_nil _ _ _).own_nil _ _ _).own_nil _ _ _).own_nil _ _ _).own_nil _ _ _
  exact (Sat.join h3).swap

theorem cal_of_s {q : Nat} {cs : List Value} {day t : Int} (hd : 1 ≤ day) (ht : 0 ≤ t ∧ t ≤ 1125899906842624) (hS : Sat e w (blk q 58 cs :: R)) (hday : cs[1]? = some (.int .i64 day))
    (hk : ∀ w', Sat e w' (blk q 58 cs :: R) → K (.pointer (some ⟨q, 3 + pageN day t, none⟩)) w') : Cl prog 34 #[.pointer (some ⟨q, 0, none⟩), .int .i64 t] w K := by
  refine calendar_Queue_of_calls ?_
  unfold calendar_Queue_of
  refine dr_s hS fun w2 h2 => ?_
  refine ncP_p (fld_at (ld1_at h2 0 rfl hday ?_))
  have e1 : t.tdiv day = t / day := Int.tdiv_eq_ediv_of_nonneg ht.1
  have h0 : 0 ≤ t / day := Int.ediv_nonneg ht.1 (by omega)
  have h3 : t / day ≤ t := Int.ediv_le_self _ ht.1
  refine quoI_s (by omega) (by omega) (by omega) ?_
  refine rem_s (by decide) ?_
  rw [e1, Int.tmod_eq_emod_of_nonneg h0]
  have h4 : (t / day) % 8 = (pageN day t : Int) := by
    unfold pageN
    have := Int.emod_nonneg (t / day) (show (8 : Int) ≠ 0 by decide)
    omega
  rw [h4]
  refine ncP_p (fld_at (ixA_at (pageN_lt) ?_))
  rw [Nat.zero_add, Nat.mul_one]
  exact hk _ h2
theorem cal_Len_s {q : Nat} {room day : Int} {pg : List (List Msg)} (hS : Sat e w (IsCal q room day pg :: R)) (hk : K (.int .i64 (pg.flatten.length : Int)) w) : Cl prog 11 #[.pointer (some ⟨q, 0, none⟩)] w K := by
  obtain ⟨vs, _, _, h1⟩ := cal_of hS
  refine calendar_Queue_Len_calls ?_
  unfold calendar_Queue_Len
  exact ncP_p (fld_at (ld1_at h1 0 rfl rfl hk))
end Go.Proofs.Ytlmakkjbcmhaeaa
