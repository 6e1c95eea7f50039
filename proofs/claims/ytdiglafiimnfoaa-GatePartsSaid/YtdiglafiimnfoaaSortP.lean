/- Stable merging of lists, and the stable order of a list. Conditions: none. -/
import Derived.Test.YtdiglafiimnfoaaEngA
namespace Go.E
section
variable {α : Type} (lt : α → α → Bool)
/-- The head of the left goes first, but where the head of the right is below it. -/
def mg : List α → List α → List α
  | [], r => r
  | x :: l, [] => x :: l
  | x :: l, y :: r => if lt y x = true then y :: mg (x :: l) r else x :: mg l (y :: r)
termination_by l r => l.length + r.length
def stab : List α → List α
  | [] => []
  | x :: l => mg lt [x] (stab l)
/-- A strict weak order. -/
structure Ordered : Prop where
  asymm : ∀ a b, lt a b = true → lt b a = false
  trans : ∀ a b c, lt b a = false → lt c b = false → lt c a = false
variable {lt}
def Asc (lt : α → α → Bool) (l : List α) : Prop := l.Pairwise fun a b => lt b a = false

theorem mg_nil (r : List α) : mg lt [] r = r := by rw [mg]
theorem mg_nil' (l : List α) : mg lt l [] = l := by cases l <;> rw [mg]
theorem mg_lt {x y : α} {l r : List α} (h : lt y x = true) : mg lt (x :: l) (y :: r) = y :: mg lt (x :: l) r := by rw [mg, if_pos h]
theorem mg_ge {x y : α} {l r : List α} (h : lt y x = false) : mg lt (x :: l) (y :: r) = x :: mg lt l (y :: r) := by rw [mg, if_neg (by rw [h]; decide)]

theorem mg_split (L2 R2 : List α) : ∀ (n : Nat) (L1 R1 : List α), L1.length + R1.length = n → (∀ x ∈ L2, ∀ y ∈ R1, lt y x = true) → (∀ x ∈ L1, ∀ y ∈ R2, lt y x = false) →
    mg lt (L1 ++ L2) (R1 ++ R2) = mg lt L1 R1 ++ mg lt L2 R2
  | _, [], [], _, _, _ => by rw [mg_nil]; rfl
  | n, [], y :: R1, hn, h1, h2 => by
    cases L2 with
    | nil => simp only [List.append_nil, mg_nil]
    | cons x L2 =>
      have ih := mg_split (x :: L2) R2 R1.length [] R1 (by simp) (fun a ha b hb => h1 a ha b (List.mem_cons_of_mem _ hb)) (fun _ h => by cases h)
      rw [List.nil_append] at ih ⊢
      rw [List.cons_append, mg_lt (h1 x (List.mem_cons_self) y (List.mem_cons_self)), ih, mg_nil, mg_nil]
      rfl
  | n, x :: L1, [], hn, h1, h2 => by
    cases R2 with
    | nil => simp only [List.append_nil, mg_nil']
    | cons y R2 =>
      have ih := mg_split L2 (y :: R2) L1.length L1 [] (by simp) (fun _ _ _ h => by cases h) (fun a ha => h2 a (List.mem_cons_of_mem _ ha))
      rw [List.nil_append] at ih ⊢
      rw [List.cons_append, mg_ge (h2 x (List.mem_cons_self) y (List.mem_cons_self)), ih, mg_nil', mg_nil']
      rfl
  | n, x :: L1, y :: R1, hn, h1, h2 => by
    simp only [List.length_cons] at hn
    cases h : lt y x with
    | true =>
      have ih := mg_split L2 R2 (n - 1) (x :: L1) R1 (by simp; omega) (fun a ha b hb => h1 a ha b (List.mem_cons_of_mem _ hb)) h2
      rw [List.cons_append] at ih ⊢
      rw [List.cons_append, mg_lt h, ih, mg_lt h]
      rfl
    | false =>
      have ih := mg_split L2 R2 (n - 1) L1 (y :: R1) (by simp; omega) h1 (fun a ha => h2 a (List.mem_cons_of_mem _ ha))
      rw [List.cons_append] at ih ⊢
      rw [List.cons_append, mg_ge h, ih, mg_ge h]
      rfl
theorem mg_parts {L1 L2 R1 R2 : List α} (h1 : ∀ x ∈ L2, ∀ y ∈ R1, lt y x = true) (h2 : ∀ x ∈ L1, ∀ y ∈ R2, lt y x = false) : mg lt (L1 ++ L2) (R1 ++ R2) = mg lt L1 R1 ++ mg lt L2 R2 := mg_split L2 R2 _ L1 R1 rfl h1 h2

theorem Ordered.lt_le (o : Ordered lt) {x y z : α} (h : lt x y = true) (k : lt z y = false) : lt x z = true := by
  cases hz : lt x z with
  | true => rfl
  | false =>
    have := o.trans y z x k hz
    rw [h] at this; cases this
theorem Ordered.le_lt (o : Ordered lt) {x y z : α} (h : lt y x = false) (k : lt y z = true) : lt x z = true := by
  cases hz : lt x z with
  | true => rfl
  | false =>
    have := o.trans z x y hz h
    rw [k] at this; cases this

theorem mg_assoc (o : Ordered lt) : ∀ (n : Nat) (A B C : List α), A.length + B.length + C.length = n → mg lt (mg lt A B) C = mg lt A (mg lt B C)
  | _, [], B, C, _ => by rw [mg_nil, mg_nil]
  | _, a :: A, [], C, _ => by rw [mg_nil, mg_nil']
  | _, a :: A, b :: B, [], _ => by rw [mg_nil', mg_nil']
  | n, a :: A, b :: B, c :: C, hn => by
    simp only [List.length_cons] at hn
    cases hba : lt b a with
    | true =>
      cases hcb : lt c b with
      | true =>
        have hca : lt c a = true := o.lt_le hcb (o.asymm _ _ hba)
        have ih := mg_assoc o (n - 1) (a :: A) (b :: B) C (by simp; omega)
        rw [mg_lt hba] at ih ⊢
        rw [mg_lt hcb, mg_lt hcb, mg_lt hca, ih]
      | false =>
        have ih := mg_assoc o (n - 1) (a :: A) B (c :: C) (by simp; omega)
        rw [mg_lt hba, mg_ge hcb, mg_ge hcb, mg_lt hba, ih]
    | false =>
      cases hca : lt c a with
      | true =>
        have hcb : lt c b = true := o.lt_le hca hba
        have ih := mg_assoc o (n - 1) (a :: A) (b :: B) C (by simp; omega)
        rw [mg_ge hba] at ih ⊢
        rw [mg_lt hcb, mg_lt hca, mg_lt hca, ih]
      | false =>
        have ih := mg_assoc o (n - 1) A (b :: B) (c :: C) (by simp; omega)
        rw [mg_ge hba, mg_ge hca, ih]
        cases hcb : lt c b with
        | true => rw [mg_lt hcb, mg_ge hca]
        | false => rw [mg_ge hcb, mg_ge hba]

theorem stab_append (o : Ordered lt) : ∀ A B : List α, stab lt (A ++ B) = mg lt (stab lt A) (stab lt B)
  | [], B => by rw [List.nil_append, stab, mg_nil]
  | x :: A, B => by
    rw [List.cons_append, stab, stab_append o A B, stab, mg_assoc o _ _ _ _ rfl]
theorem stab_one (x : α) : stab lt [x] = [x] := by rw [stab, stab, mg_nil']

theorem mg_perm : ∀ (n : Nat) (l r : List α), l.length + r.length = n → (mg lt l r).Perm (l ++ r)
  | _, [], r, _ => by rw [mg_nil]; exact .refl _
  | _, x :: l, [], _ => by rw [mg_nil', List.append_nil]
  | n, x :: l, y :: r, hn => by
    simp only [List.length_cons] at hn
    cases h : lt y x with
    | true =>
      rw [mg_lt h]
      exact ((mg_perm (n - 1) (x :: l) r (by simp; omega)).cons y).trans List.perm_middle.symm
    | false =>
      rw [mg_ge h]
      exact (mg_perm (n - 1) l (y :: r) (by simp; omega)).cons x
theorem mg_mem {l r : List α} {x : α} : x ∈ mg lt l r ↔ x ∈ l ∨ x ∈ r := by rw [(mg_perm _ l r rfl).mem_iff, List.mem_append]
theorem mg_length (l r : List α) : (mg lt l r).length = l.length + r.length := by rw [(mg_perm _ l r rfl).length_eq, List.length_append]
theorem stab_perm : ∀ l : List α, (stab lt l).Perm l
  | [] => .refl _
  | x :: l => (mg_perm _ [x] (stab lt l) rfl).trans ((stab_perm l).cons x)
theorem stab_mem {l : List α} {x : α} : x ∈ stab lt l ↔ x ∈ l := (stab_perm l).mem_iff
theorem stab_length (l : List α) : (stab lt l).length = l.length := (stab_perm l).length_eq

theorem mg_asc (o : Ordered lt) : ∀ (n : Nat) (l r : List α), l.length + r.length = n → Asc lt l → Asc lt r → Asc lt (mg lt l r)
  | _, [], r, _, _, hr => by rw [mg_nil]; exact hr
  | _, x :: l, [], _, hl, _ => by rw [mg_nil']; exact hl
  | n, x :: l, y :: r, hn, hl, hr => by
    simp only [List.length_cons] at hn
    obtain ⟨hl1, hl2⟩ := List.pairwise_cons.1 hl
    obtain ⟨hr1, hr2⟩ := List.pairwise_cons.1 hr
    cases h : lt y x with
    | true =>
      rw [mg_lt h]
      refine List.pairwise_cons.2 ⟨fun z hz => ?_, mg_asc o (n - 1) (x :: l) r (by simp; omega) hl hr2⟩
      rcases mg_mem.1 hz with hz | hz
      · rcases List.mem_cons.1 hz with rfl | hz
        · exact o.asymm _ _ h
        · exact o.trans _ _ _ (o.asymm _ _ h) (hl1 z hz)
      · exact hr1 z hz
    | false =>
      rw [mg_ge h]
      refine List.pairwise_cons.2 ⟨fun z hz => ?_, mg_asc o (n - 1) l (y :: r) (by simp; omega) hl2 hr⟩
      rcases mg_mem.1 hz with hz | hz
      · exact hl1 z hz
      · rcases List.mem_cons.1 hz with rfl | hz
        · exact h
        · exact o.trans _ _ _ h (hr1 z hz)
theorem stab_asc (o : Ordered lt) : ∀ l : List α, Asc lt (stab lt l)
  | [] => List.Pairwise.nil
  | _ :: l => mg_asc o _ _ _ rfl (List.pairwise_singleton _ _) (stab_asc o l)

/-- Where a sorted list is cut by what lies beside the cut. -/
theorem asc_below (o : Ordered lt) {l : List α} (h : Asc lt l) {i : Nat} {x y : α} (hy : l[i]? = some y) (hx : lt y x = true) : ∀ z ∈ l.take (i + 1), lt z x = true := by
  intro z hz
  obtain ⟨j, hj⟩ := List.mem_iff_getElem?.1 hz
  rw [List.getElem?_take] at hj
  split at hj
  · rename_i hji
    by_cases hij : j = i
    · subst hij; rw [hy] at hj; cases hj; exact hx
    · have hlt : j < i := by omega
      obtain ⟨hjl, hje⟩ := List.getElem?_eq_some_iff.1 hj
      obtain ⟨hil, hie⟩ := List.getElem?_eq_some_iff.1 hy
      have := List.pairwise_iff_getElem.1 h j i hjl hil hlt
      rw [hje, hie] at this
      exact o.le_lt this hx
  · cases hj
theorem asc_above (o : Ordered lt) {l : List α} (h : Asc lt l) {i : Nat} {x y : α} (hy : l[i]? = some y) (hx : lt y x = false) : ∀ z ∈ l.drop i, lt z x = false := by
  intro z hz
  obtain ⟨j, hj⟩ := List.mem_iff_getElem?.1 hz
  rw [List.getElem?_drop] at hj
  by_cases hij : j = 0
  · subst hij; rw [Nat.add_zero, hy] at hj; cases hj; exact hx
  · obtain ⟨hjl, hje⟩ := List.getElem?_eq_some_iff.1 hj
    obtain ⟨hil, hie⟩ := List.getElem?_eq_some_iff.1 hy
    have := List.pairwise_iff_getElem.1 h i (i + j) hil hjl (by omega)
    rw [hje, hie] at this
    exact o.trans _ _ _ hx this
/-- What is above one is above whatever lies ahead of it. -/
theorem asc_last (o : Ordered lt) {l : List α} (h : Asc lt l) {i : Nat} {x y : α} (hy : l[i]? = some y) (hx : lt x y = false) : ∀ z ∈ l.take (i + 1), lt x z = false := by
  intro z hz
  obtain ⟨j, hj⟩ := List.mem_iff_getElem?.1 hz
  rw [List.getElem?_take] at hj
  split at hj
  · rename_i hji
    by_cases hij : j = i
    · subst hij; rw [hy] at hj; cases hj; exact hx
    · have hlt : j < i := by omega
      obtain ⟨hjl, hje⟩ := List.getElem?_eq_some_iff.1 hj
      obtain ⟨hil, hie⟩ := List.getElem?_eq_some_iff.1 hy
      have := List.pairwise_iff_getElem.1 h j i hjl hil hlt
      rw [hje, hie] at this
      exact o.trans _ _ _ this hx
  · cases hj
theorem asc_first (o : Ordered lt) {l : List α} (h : Asc lt l) {i : Nat} {x y : α} (hy : l[i]? = some y) (hx : lt x y = true) : ∀ z ∈ l.drop i, lt x z = true := by
  intro z hz
  obtain ⟨j, hj⟩ := List.mem_iff_getElem?.1 hz
  rw [List.getElem?_drop] at hj
  by_cases hij : j = 0
  · subst hij; rw [Nat.add_zero, hy] at hj; cases hj; exact hx
  · obtain ⟨hjl, hje⟩ := List.getElem?_eq_some_iff.1 hj
    obtain ⟨hil, hie⟩ := List.getElem?_eq_some_iff.1 hy
    have := List.pairwise_iff_getElem.1 h i (i + j) hil hjl (by omega)
    rw [hje, hie] at this
    exact o.lt_le hx this
theorem Asc.left {l r : List α} (h : Asc lt (l ++ r)) : Asc lt l := (List.pairwise_append.1 h).1
theorem Asc.right {l r : List α} (h : Asc lt (l ++ r)) : Asc lt r := (List.pairwise_append.1 h).2.1
/-- One from the left among those of the right. -/
theorem mg_one {x : α} {R1 R2 : List α} (h1 : ∀ y ∈ R1, lt y x = true) (h2 : ∀ y ∈ R2, lt y x = false) : mg lt [x] (R1 ++ R2) = R1 ++ x :: R2 := by
  have := mg_parts (lt := lt) (L1 := []) (L2 := [x]) (R1 := R1) (R2 := R2) (fun a ha y hy => by rw [List.mem_singleton.1 ha]; exact h1 y hy) (fun _ h => by cases h)
  rw [List.nil_append, mg_nil] at this
  rw [this]
  congr 1
  have := mg_parts (lt := lt) (L1 := [x]) (L2 := []) (R1 := []) (R2 := R2) (fun _ h => by cases h) (fun a ha y hy => by rw [List.mem_singleton.1 ha]; exact h2 y hy)
  rw [List.append_nil, List.nil_append, mg_nil, mg_nil'] at this
  exact this
/-- One from the right among those of the left. -/
theorem mg_one' {y : α} {L1 L2 : List α} (h1 : ∀ x ∈ L1, lt y x = false) (h2 : ∀ x ∈ L2, lt y x = true) : mg lt (L1 ++ L2) [y] = L1 ++ y :: L2 := by
  have := mg_parts (lt := lt) (L1 := L1) (L2 := L2) (R1 := []) (R2 := [y]) (fun _ _ _ h => by cases h) (fun x hx z hz => by rw [List.mem_singleton.1 hz]; exact h1 x hx)
  rw [List.nil_append, mg_nil'] at this
  rw [this]
  congr 1
  have := mg_parts (lt := lt) (L1 := []) (L2 := L2) (R1 := [y]) (R2 := []) (fun x hx z hz => by rw [List.mem_singleton.1 hz]; exact h2 x hx) (fun _ h => by cases h)
  rw [List.append_nil, List.nil_append, mg_nil, mg_nil'] at this
  exact this
/-- Those below a bound come first. -/
theorem stab_filter (o : Ordered lt) (p : α → Bool) (h : ∀ x y, p x = true → p y = false → lt y x = false ∧ lt x y = true) : ∀ l : List α, stab lt l = stab lt (l.filter p) ++ stab lt (l.filter fun x => !p x)
  | [] => rfl
  | x :: l => by
    have ih := stab_filter o p h l
    rw [stab, ih]
    cases hx : p x with
    | true =>
      rw [List.filter_cons_of_pos hx, List.filter_cons_of_neg (by rw [hx]; decide)]
      have := mg_parts (lt := lt) (L1 := [x]) (L2 := []) (R1 := stab lt (l.filter p)) (R2 := stab lt (l.filter fun x => !p x)) (fun _ h => by cases h)
        (fun a ha y hy => by rw [List.mem_singleton.1 ha]; exact (h x y hx (by simpa using (List.mem_filter.1 (stab_mem.1 hy)).2)).1)
      rw [List.append_nil, mg_nil] at this
      rw [this]
      rfl
    | false =>
      rw [List.filter_cons_of_neg (by rw [hx]; decide), List.filter_cons_of_pos (by rw [hx]; decide)]
      have := mg_parts (lt := lt) (L1 := []) (L2 := [x]) (R1 := stab lt (l.filter p)) (R2 := stab lt (l.filter fun x => !p x))
        (fun a ha y hy => by rw [List.mem_singleton.1 ha]; exact (h y x (List.mem_filter.1 (stab_mem.1 hy)).2 hx).2) (fun _ h => by cases h)
      rw [List.nil_append, mg_nil] at this
      rw [this]
      rfl
/-- Of equals, what stood ahead comes ahead. -/
theorem stab_pairs (o : Ordered lt) (Q : α → α → Prop) (hlt : ∀ x y, lt x y = true → Q x y) : ∀ l : List α, (l.Pairwise fun x y => lt y x = false → Q x y) → (stab lt l).Pairwise Q
  | [], _ => List.Pairwise.nil
  | x :: l, h => by
    obtain ⟨h1, h2⟩ := List.pairwise_cons.1 h
    have ih := stab_pairs o Q hlt l h2
    have ha := stab_asc o l
    have hm : ∀ y ∈ stab lt l, lt y x = false → Q x y := fun y hy => h1 y (stab_mem.1 hy)
    rw [stab]
    revert ih ha hm
    generalize stab lt l = s
    intro ih ha hm
    induction s with
    | nil => rw [mg_nil']; exact List.pairwise_singleton _ _
    | cons y s is =>
      obtain ⟨i1, i2⟩ := List.pairwise_cons.1 ih
      obtain ⟨a1, a2⟩ := List.pairwise_cons.1 ha
      cases hxy : lt y x with
      | true =>
        rw [mg_lt hxy]
        refine List.pairwise_cons.2 ⟨fun z hz => ?_, is i2 a2 fun z hz => hm z (List.mem_cons_of_mem _ hz)⟩
        rcases mg_mem.1 hz with hz | hz
        · rw [List.mem_singleton.1 hz]; exact hlt _ _ hxy
        · exact i1 z hz
      | false =>
        rw [mg_ge hxy, mg_nil]
        refine List.pairwise_cons.2 ⟨fun z hz => ?_, ih⟩
        rcases List.mem_cons.1 hz with rfl | hz'
        · exact hm _ (List.mem_cons_self) hxy
        · exact hm z hz (o.trans _ _ _ hxy (a1 z hz'))
end
end Go.E
