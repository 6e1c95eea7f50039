/- Texts of the proof, joined: SortP, GateS, GateU, GateD, GateV, GateW, PastC, Errs, PastR, SoloU, SoloX. Conditions: none. -/
import Derived.Test.YtbopajpmadlmhaaGreatT4
import Derived.Stop.Asserts
import Derived.Lib.IfaceEq
section
namespace Go.E
section
variable {α : Type} (lt : α → α → Bool)
def mg : List α → List α → List α
  | [], r => r
  | x :: l, [] => x :: l
  | x :: l, y :: r => if lt y x = true then y :: mg (x :: l) r else x :: mg l (y :: r)
termination_by l r => l.length + r.length
def stab : List α → List α
  | [] => []
  | x :: l => mg lt [x] (stab l)
structure Ordered : Prop where
  asymm : ∀ a b, lt a b = true → lt b a = false
  trans : ∀ a b c, lt b a = false → lt c b = false → lt c a = false
variable {lt}
def Asc (lt : α → α → Bool) (l : List α) : Prop := l.Pairwise fun a b => lt b a = false

theorem mg_nil (r : List α) : mg lt [] r = r := by rw [mg]
theorem mg_nil' (l : List α) : mg lt l [] = l := by cases l <;> rw [mg]
theorem mg_lt {x y : α} {l r : List α} (h : lt y x = true) : mg lt (x :: l) (y :: r) = y :: mg lt (x :: l) r := by rw [mg, if_pos h]
theorem mg_ge {x y : α} {l r : List α} (h : lt y x = false) : mg lt (x :: l) (y :: r) = x :: mg lt l (y :: r) := by rw [mg, if_neg (by rw [h]; decide)]

theorem mg_split (L2 R2 : List α) : ∀ (n : Nat) (L1 R1 : List α), L1.length + R1.length = n → (∀ x ∈ L2, ∀ y ∈ R1, lt y x = true) → (∀ x ∈ L1, ∀ y ∈ R2, lt y x = false) →
    mg lt (L1 ++ L2) (R1 ++ R2) = mg lt L1 R1 ++ mg lt L2 R2
  | _, [], [], _, _, _ => by rw [mg_nil]; rfl
  | n, [], y :: R1, hn, h1, h2 => by
    cases L2 with
    | nil => simp only [List.append_nil, mg_nil]
    | cons x L2 =>
      have ih := mg_split (x :: L2) R2 R1.length [] R1 (by simp) (fun a ha b hb => h1 a ha b (List.mem_cons_of_mem _ hb)) (fun _ h => by cases h)
      rw [List.nil_append] at ih ⊢
      rw [List.cons_append, mg_lt (h1 x (List.mem_cons_self) y (List.mem_cons_self)), ih, mg_nil, mg_nil]
      rfl
  | n, x :: L1, [], hn, h1, h2 => by
    cases R2 with
    | nil => simp only [List.append_nil, mg_nil']
    | cons y R2 =>
      have ih := mg_split L2 (y :: R2) L1.length L1 [] (by simp) (fun _ _ _ h => by cases h) (fun a ha => h2 a (List.mem_cons_of_mem _ ha))
      rw [List.nil_append] at ih ⊢
      rw [List.cons_append, mg_ge (h2 x (List.mem_cons_self) y (List.mem_cons_self)), ih, mg_nil', mg_nil']
      rfl
  | n, x :: L1, y :: R1, hn, h1, h2 => by
    simp only [List.length_cons] at hn
    cases h : lt y x with
    | true =>
      have ih := mg_split L2 R2 (n - 1) (x :: L1) R1 (by simp; omega) (fun a ha b hb => h1 a ha b (List.mem_cons_of_mem _ hb)) h2
      rw [List.cons_append] at ih ⊢
      rw [List.cons_append, mg_lt h, ih, mg_lt h]
      rfl
    | false =>
      have ih := mg_split L2 R2 (n - 1) L1 (y :: R1) (by simp; omega) h1 (fun a ha => h2 a (List.mem_cons_of_mem _ ha))
      rw [List.cons_append] at ih ⊢
      rw [List.cons_append, mg_ge h, ih, mg_ge h]
      rfl
theorem mg_parts {L1 L2 R1 R2 : List α} (h1 : ∀ x ∈ L2, ∀ y ∈ R1, lt y x = true) (h2 : ∀ x ∈ L1, ∀ y ∈ R2, lt y x = false) : mg lt (L1 ++ L2) (R1 ++ R2) = mg lt L1 R1 ++ mg lt L2 R2 := mg_split L2 R2 _ L1 R1 rfl h1 h2

theorem Ordered.lt_le (o : Ordered lt) {x y z : α} (h : lt x y = true) (k : lt z y = false) : lt x z = true := by
  cases hz : lt x z with
  | true => rfl
  | false =>
    have := o.trans y z x k hz
    rw [h] at this; cases this
theorem Ordered.le_lt (o : Ordered lt) {x y z : α} (h : lt y x = false) (k : lt y z = true) : lt x z = true := by
  cases hz : lt x z with
  | true => rfl
  | false =>
    have := o.trans z x y hz h
    rw [k] at this; cases this

theorem mg_assoc (o : Ordered lt) : ∀ (n : Nat) (A B C : List α), A.length + B.length + C.length = n → mg lt (mg lt A B) C = mg lt A (mg lt B C)
  | _, [], B, C, _ => by rw [mg_nil, mg_nil]
  | _, a :: A, [], C, _ => by rw [mg_nil, mg_nil']
  | _, a :: A, b :: B, [], _ => by rw [mg_nil', mg_nil']
  | n, a :: A, b :: B, c :: C, hn => by
    simp only [List.length_cons] at hn
    cases hba : lt b a with
    | true =>
      cases hcb : lt c b with
      | true =>
        have hca : lt c a = true := o.lt_le hcb (o.asymm _ _ hba)
        have ih := mg_assoc o (n - 1) (a :: A) (b :: B) C (by simp; omega)
        rw [mg_lt hba] at ih ⊢
        rw [mg_lt hcb, mg_lt hcb, mg_lt hca, ih]
      | false =>
        have ih := mg_assoc o (n - 1) (a :: A) B (c :: C) (by simp; omega)
        rw [mg_lt hba, mg_ge hcb, mg_ge hcb, mg_lt hba, ih]
    | false =>
      cases hca : lt c a with
      | true =>
        have hcb : lt c b = true := o.lt_le hca hba
        have ih := mg_assoc o (n - 1) (a :: A) (b :: B) C (by simp; omega)
        rw [mg_ge hba] at ih ⊢
        rw [mg_lt hcb, mg_lt hca, mg_lt hca, ih]
      | false =>
        have ih := mg_assoc o (n - 1) A (b :: B) (c :: C) (by simp; omega)
        rw [mg_ge hba, mg_ge hca, ih]
        cases hcb : lt c b with
        | true => rw [mg_lt hcb, mg_ge hca]
        | false => rw [mg_ge hcb, mg_ge hba]

theorem stab_append (o : Ordered lt) : ∀ A B : List α, stab lt (A ++ B) = mg lt (stab lt A) (stab lt B)
  | [], B => by rw [List.nil_append, stab, mg_nil]
  | x :: A, B => by
    rw [List.cons_append, stab, stab_append o A B, stab, mg_assoc o _ _ _ _ rfl]
theorem stab_one (x : α) : stab lt [x] = [x] := by rw [stab, stab, mg_nil']

theorem mg_perm : ∀ (n : Nat) (l r : List α), l.length + r.length = n → (mg lt l r).Perm (l ++ r)
  | _, [], r, _ => by rw [mg_nil]; exact .refl _
  | _, x :: l, [], _ => by rw [mg_nil', List.append_nil]
  | n, x :: l, y :: r, hn => by
    simp only [List.length_cons] at hn
    cases h : lt y x with
    | true =>
      rw [mg_lt h]
      exact ((mg_perm (n - 1) (x :: l) r (by simp; omega)).cons y).trans List.perm_middle.symm
    | false =>
      rw [mg_ge h]
      exact (mg_perm (n - 1) l (y :: r) (by simp; omega)).cons x
theorem mg_mem {l r : List α} {x : α} : x ∈ mg lt l r ↔ x ∈ l ∨ x ∈ r := by rw [(mg_perm _ l r rfl).mem_iff, List.mem_append]
theorem mg_length (l r : List α) : (mg lt l r).length = l.length + r.length := by rw [(mg_perm _ l r rfl).length_eq, List.length_append]
theorem stab_perm : ∀ l : List α, (stab lt l).Perm l
  | [] => .refl _
  | x :: l => (mg_perm _ [x] (stab lt l) rfl).trans ((stab_perm l).cons x)
theorem stab_length (l : List α) : (stab lt l).length = l.length := (stab_perm l).length_eq

theorem mg_asc (o : Ordered lt) : ∀ (n : Nat) (l r : List α), l.length + r.length = n → Asc lt l → Asc lt r → Asc lt (mg lt l r)
  | _, [], r, _, _, hr => by rw [mg_nil]; exact hr
  | _, x :: l, [], _, hl, _ => by rw [mg_nil']; exact hl
  | n, x :: l, y :: r, hn, hl, hr => by
    simp only [List.length_cons] at hn
    obtain ⟨hl1, hl2⟩ := List.pairwise_cons.1 hl
    obtain ⟨hr1, hr2⟩ := List.pairwise_cons.1 hr
    cases h : lt y x with
    | true =>
      rw [mg_lt h]
      refine List.pairwise_cons.2 ⟨fun z hz => ?_, mg_asc o (n - 1) (x :: l) r (by simp; omega) hl hr2⟩
      rcases mg_mem.1 hz with hz | hz
      · rcases List.mem_cons.1 hz with rfl | hz
        · exact o.asymm _ _ h
        · exact o.trans _ _ _ (o.asymm _ _ h) (hl1 z hz)
      · exact hr1 z hz
    | false =>
      rw [mg_ge h]
      refine List.pairwise_cons.2 ⟨fun z hz => ?_, mg_asc o (n - 1) l (y :: r) (by simp; omega) hl2 hr⟩
      rcases mg_mem.1 hz with hz | hz
      · exact hl1 z hz
      · rcases List.mem_cons.1 hz with rfl | hz
        · exact h
        · exact o.trans _ _ _ h (hr1 z hz)
theorem stab_asc (o : Ordered lt) : ∀ l : List α, Asc lt (stab lt l)
  | [] => List.Pairwise.nil
  | _ :: l => mg_asc o _ _ _ rfl (List.pairwise_singleton _ _) (stab_asc o l)

theorem asc_below (o : Ordered lt) {l : List α} (h : Asc lt l) {i : Nat} {x y : α} (hy : l[i]? = some y) (hx : lt y x = true) : ∀ z ∈ l.take (i + 1), lt z x = true := by
  intro z hz
  obtain ⟨j, hj⟩ := List.mem_iff_getElem?.1 hz
  rw [List.getElem?_take] at hj
  split at hj
  · rename_i hji
    by_cases hij : j = i
    · subst hij; rw [hy] at hj; cases hj; exact hx
    · have hlt : j < i := by omega
      obtain ⟨hjl, hje⟩ := List.getElem?_eq_some_iff.1 hj
      obtain ⟨hil, hie⟩ := List.getElem?_eq_some_iff.1 hy
      have := List.pairwise_iff_getElem.1 h j i hjl hil hlt
      rw [hje, hie] at this
      exact o.le_lt this hx
  · cases hj
theorem asc_above (o : Ordered lt) {l : List α} (h : Asc lt l) {i : Nat} {x y : α} (hy : l[i]? = some y) (hx : lt y x = false) : ∀ z ∈ l.drop i, lt z x = false := by
  intro z hz
  obtain ⟨j, hj⟩ := List.mem_iff_getElem?.1 hz
  rw [List.getElem?_drop] at hj
  by_cases hij : j = 0
  · subst hij; rw [Nat.add_zero, hy] at hj; cases hj; exact hx
  · obtain ⟨hjl, hje⟩ := List.getElem?_eq_some_iff.1 hj
    obtain ⟨hil, hie⟩ := List.getElem?_eq_some_iff.1 hy
    have := List.pairwise_iff_getElem.1 h i (i + j) hil hjl (by omega)
    rw [hje, hie] at this
    exact o.trans _ _ _ hx this
theorem asc_last (o : Ordered lt) {l : List α} (h : Asc lt l) {i : Nat} {x y : α} (hy : l[i]? = some y) (hx : lt x y = false) : ∀ z ∈ l.take (i + 1), lt x z = false := by
  intro z hz
  obtain ⟨j, hj⟩ := List.mem_iff_getElem?.1 hz
  rw [List.getElem?_take] at hj
  split at hj
  · rename_i hji
    by_cases hij : j = i
    · subst hij; rw [hy] at hj; cases hj; exact hx
    · have hlt : j < i := by omega
      obtain ⟨hjl, hje⟩ := List.getElem?_eq_some_iff.1 hj
      obtain ⟨hil, hie⟩ := List.getElem?_eq_some_iff.1 hy
      have := List.pairwise_iff_getElem.1 h j i hjl hil hlt
      rw [hje, hie] at this
      exact o.trans _ _ _ this hx
  · cases hj
theorem asc_first (o : Ordered lt) {l : List α} (h : Asc lt l) {i : Nat} {x y : α} (hy : l[i]? = some y) (hx : lt x y = true) : ∀ z ∈ l.drop i, lt x z = true := by
  intro z hz
  obtain ⟨j, hj⟩ := List.mem_iff_getElem?.1 hz
  rw [List.getElem?_drop] at hj
  by_cases hij : j = 0
  · subst hij; rw [Nat.add_zero, hy] at hj; cases hj; exact hx
  · obtain ⟨hjl, hje⟩ := List.getElem?_eq_some_iff.1 hj
    obtain ⟨hil, hie⟩ := List.getElem?_eq_some_iff.1 hy
    have := List.pairwise_iff_getElem.1 h i (i + j) hil hjl (by omega)
    rw [hje, hie] at this
    exact o.lt_le hx this
theorem Asc.left {l r : List α} (h : Asc lt (l ++ r)) : Asc lt l := (List.pairwise_append.1 h).1
theorem Asc.right {l r : List α} (h : Asc lt (l ++ r)) : Asc lt r := (List.pairwise_append.1 h).2.1
theorem mg_one {x : α} {R1 R2 : List α} (h1 : ∀ y ∈ R1, lt y x = true) (h2 : ∀ y ∈ R2, lt y x = false) : mg lt [x] (R1 ++ R2) = R1 ++ x :: R2 := by
  have := mg_parts (lt := lt) (L1 := []) (L2 := [x]) (R1 := R1) (R2 := R2) (fun a ha y hy => by rw [List.mem_singleton.1 ha]; exact h1 y hy) (fun _ h => by cases h)
  rw [List.nil_append, mg_nil] at this
  rw [this]
  congr 1
  have := mg_parts (lt := lt) (L1 := [x]) (L2 := []) (R1 := []) (R2 := R2) (fun _ h => by cases h) (fun a ha y hy => by rw [List.mem_singleton.1 ha]; exact h2 y hy)
  rw [List.append_nil, List.nil_append, mg_nil, mg_nil'] at this
  exact this
theorem mg_one' {y : α} {L1 L2 : List α} (h1 : ∀ x ∈ L1, lt y x = false) (h2 : ∀ x ∈ L2, lt y x = true) : mg lt (L1 ++ L2) [y] = L1 ++ y :: L2 := by
  have := mg_parts (lt := lt) (L1 := L1) (L2 := L2) (R1 := []) (R2 := [y]) (fun _ _ _ h => by cases h) (fun x hx z hz => by rw [List.mem_singleton.1 hz]; exact h1 x hx)
  rw [List.nil_append, mg_nil'] at this
  rw [this]
  congr 1
  have := mg_parts (lt := lt) (L1 := []) (L2 := L2) (R1 := [y]) (R2 := []) (fun x hx z hz => by rw [List.mem_singleton.1 hz]; exact h2 x hx) (fun _ h => by cases h)
  rw [List.append_nil, List.nil_append, mg_nil, mg_nil'] at this
  exact this
end
end Go.E
end
section
namespace Go.Proofs.YtbopajpmadlmhaaGreat
open Go Go.E
set_option maxRecDepth 100000
variable {e w : World} {R : List HP} {K : KV} {v fv : Value} {cf : Kept → Kept → Int}

abbrev DK (v : Value) (l : List Kept) : HP := ownS 177 9 Kept.cs v l
def CmpOk (e : World) (fv : Value) (cf : Kept → Kept → Int) : Prop :=
  ∀ (w : World) (R : List HP) (K : KV) (x y : Kept), Sat e w R → (∀ w', Sat e w' R → K (.int .i64 (cf x y)) w') → clV prog fv #[.agg x.cs.toArray, .agg y.cs.toArray] w K
def ltC (cf : Kept → Kept → Int) (x y : Kept) : Bool := decide (cf x y < 0)
theorem kept_len (x : Kept) : (Kept.cs x).length = 9 := rfl

theorem swapRange_s {P A M B S : List Kept} {a b n : Nat} (ha : a = P.length) (hb : b = P.length + A.length + M.length) (hn : n = A.length) (hAB : A.length = B.length) (hlen : (P ++ A ++ M ++ B ++ S).length ≤ 1000000)
    (hS : Sat e w (DK v (P ++ A ++ M ++ B ++ S) :: R)) (hk : ∀ w', Sat e w' (DK v (P ++ B ++ M ++ A ++ S) :: R) → K (.tuple #[]) w') :
    Cl prog 201 #[v, .int .i64 (a : Int), .int .i64 (b : Int), .int .i64 (n : Int), fv] w K := by
  refine slices_swapRangeCmpFunc_gate_kept_calls ?_
  unfold slices_swapRangeCmpFunc_gate_kept
  simp only [List.length_append] at hlen
  refine lpi1 (fun m t10 w => ∃ i : Nat, i ≤ n ∧ t10 = .int .i64 i ∧ m = n - i ∧ Sat e w (DK v (P ++ (B.take i ++ A.drop i) ++ M ++ (A.take i ++ B.drop i) ++ S) :: R)) n
    ⟨0, Nat.zero_le _, rfl, rfl, by simpa using hS⟩ ?_
  rintro m _ w g ⟨i, hi, rfl, rfl, h1⟩ hg
  refine ltn_c (fun c => iff_t ?_) (fun c => iff_f ?_)
  · obtain ⟨x, hx⟩ := get_of_lt (l := A) (j := i) (by omega)
    obtain ⟨y, hy⟩ := get_of_lt (l := B) (j := i) (by omega)
    have hsh : P ++ (B.take i ++ A.drop i) ++ M ++ (A.take i ++ B.drop i) ++ S = (P ++ B.take i) ++ x :: ((A.drop (i + 1) ++ M ++ A.take i) ++ y :: (B.drop (i + 1) ++ S)) := by
      rw [drop_cons hx, drop_cons hy]; simp
    rw [hsh] at h1
    have l1 : a + i = (P ++ B.take i).length := by rw [List.length_append, List.length_take]; omega
    have l2 : b + i = (P ++ B.take i).length + 1 + (A.drop (i + 1) ++ M ++ A.take i).length := by simp only [List.length_append, List.length_take, List.length_drop]; omega
    refine dr_s h1 fun w2 h2 => ?_
    refine addn_s (by omega) (addn_s (by omega) (addn_s (by omega) ?_))
    refine ixS_rd h2 0 rfl (fun g hg => own_rd hg) kept_len (get_mid2 l2) fun p hp => ?_
    refine ldN_of h2 0 rfl hp rfl ?_
    refine addn_s (by omega) ?_
    refine ixS_rd h2 0 rfl (fun g hg => own_rd hg) kept_len (get_mid l1) fun p hp => ?_
    refine ldN_of h2 0 rfl hp rfl ?_
    refine st_own' h2 0 rfl kept_len (by rw [List.length_append, List.length_cons]; omega) (x := y) rfl (ints_flat _) fun w3 h3 => ?_
    refine st_own' h3 0 rfl kept_len (by rw [List.length_set, l2]; simp only [List.length_append, List.length_cons]; omega) (x := x) rfl (ints_flat _) fun w4 h4 => ?_
    replace h4 : Sat e w4 (DK v ((((P ++ B.take i) ++ x :: ((A.drop (i + 1) ++ M ++ A.take i) ++ y :: (B.drop (i + 1) ++ S))).set (a + i) y).set (b + i) x) :: R) := h4
    rw [swap_mid l1 l2] at h4
    refine inc_s (by omega) ?_
    refine hg _ _ _ (by omega) ⟨i + 1, by omega, rfl, rfl, ?_⟩
    rw [take_snoc hx, take_snoc hy]
    simpa using h4
  · obtain rfl : i = n := by omega
    subst hn
    rw [List.take_of_length_le (by omega), List.drop_of_length_le (by omega), List.take_of_length_le (l := A) (by omega), List.drop_of_length_le (l := B) (by omega)] at h1
    exact hk _ (by simpa using h1)

theorem rotate_s {P A B S : List Kept} {a m b : Nat} (ha : a = P.length) (hm : m = P.length + A.length) (hb : b = P.length + A.length + B.length) (hA : 0 < A.length) (hB : 0 < B.length) (hlen : (P ++ A ++ B ++ S).length ≤ 1000000)
    (hS : Sat e w (DK v (P ++ A ++ B ++ S) :: R)) (hk : ∀ w', Sat e w' (DK v (P ++ B ++ A ++ S) :: R) → K (.tuple #[]) w') :
    Cl prog 198 #[v, .int .i64 (a : Int), .int .i64 (m : Int), .int .i64 (b : Int), fv] w K := by
  refine slices_rotateCmpFunc_gate_kept_calls ?_
  unfold slices_rotateCmpFunc_gate_kept
  simp only [List.length_append] at hlen
  refine subn_s (by omega) (by omega) (subn_s (by omega) (by omega) ?_)
  refine lpi2 (fun q t10 t11 w => ∃ (P' X Y S' : List Kept), t10 = .int .i64 X.length ∧ t11 = .int .i64 Y.length ∧ q = X.length + Y.length ∧ P'.length + X.length = m ∧ 0 < X.length ∧ 0 < Y.length ∧
      P' ++ Y ++ X ++ S' = P ++ B ++ A ++ S ∧ (P' ++ X ++ Y ++ S').length = (P ++ A ++ B ++ S).length ∧ Sat e w (DK v (P' ++ X ++ Y ++ S') :: R)) (A.length + B.length)
    ⟨P, A, B, S, by rw [show m - a = A.length by omega], by rw [show b - m = B.length by omega], rfl, by omega, hA, hB, rfl, rfl, hS⟩ ?_
  rintro q _ _ w g ⟨P', X, Y, S', rfl, rfl, rfl, hpm, hX, hY, heq, hle, h1⟩ hg
  simp only [List.length_append] at hle
  refine ne_c (fun c => iff_t ?_) (fun c => iff_f ?_)
  · refine gt_c (fun c2 => iff_t ?_) (fun c2 => iff_f ?_)
    · -- X is longer
      refine subn_s (by omega) (by omega) ?_
      have hX' : X = X.take Y.length ++ X.drop Y.length := (List.take_append_drop _ _).symm
      have hl1 : (X.take Y.length).length = Y.length := by rw [List.length_take]; omega
      have hl2 : (X.drop Y.length).length = X.length - Y.length := List.length_drop
      refine swapRange_s (P := P') (A := X.take Y.length) (M := X.drop Y.length) (B := Y) (S := S') (by omega) (by omega) (by omega) hl1 (by simp only [List.length_append]; omega) (by rw [hX'] at h1; simpa using h1) fun w2 h2 => ?_
      refine subn_s (by omega) (by omega) ?_
      refine hg _ _ _ _ (by simp only [hl1, hl2]; omega) ⟨P' ++ Y, X.drop Y.length, X.take Y.length, S', by rw [hl2], by rw [hl1], rfl, by rw [List.length_append, hl2]; omega, by omega, by omega, ?_, by simp only [List.length_append]; omega, by simpa using h2⟩
      rw [← heq]
      conv => rhs; rw [hX']
      simp
    · refine subn_s (by omega) (by omega) (addn_s (by omega) (subn_s (by omega) (by omega) ?_))
      have hXY : X.length < Y.length := by omega
      have hY' : Y = Y.take (Y.length - X.length) ++ Y.drop (Y.length - X.length) := (List.take_append_drop _ _).symm
      have hl1 : (Y.take (Y.length - X.length)).length = Y.length - X.length := by rw [List.length_take]; omega
      have hl2 : (Y.drop (Y.length - X.length)).length = X.length := by rw [List.length_drop]; omega
      refine swapRange_s (P := P') (A := X) (M := Y.take (Y.length - X.length)) (B := Y.drop (Y.length - X.length)) (S := S') (by omega) (by omega) rfl hl2.symm (by simp only [List.length_append]; omega) (by rw [hY'] at h1; simpa using h1) fun w2 h2 => ?_
      refine subn_s (by omega) (by omega) ?_
      refine hg _ _ _ _ (by simp only [hl1, hl2]; omega) ⟨P', Y.drop (Y.length - X.length), Y.take (Y.length - X.length), X ++ S', by rw [hl2], by rw [hl1], rfl, by omega, by omega, by omega, ?_, by simp only [List.length_append]; omega, by simpa using h2⟩
      rw [← heq]
      conv => rhs; rw [hY']
      simp
  · have hXY : X.length = Y.length := by omega
    refine subn_s (by omega) (by omega) ?_
    refine swapRange_s (P := P') (A := X) (M := []) (B := Y) (S := S') (by omega) (by simp; omega) rfl hXY (by simp only [List.length_append, List.length_nil]; omega) (by simpa using h1) fun w2 h2 => ?_
    refine hk _ ?_
    rw [← heq]
    simpa using h2

theorem insertion_s (hc : CmpOk e fv cf) (o : Ordered (ltC cf)) {P X S : List Kept} {a b : Nat} (ha : a = P.length) (hb : b = P.length + X.length) (hlen : (P ++ X ++ S).length ≤ 1000000)
    (hS : Sat e w (DK v (P ++ X ++ S) :: R)) (hk : ∀ w', Sat e w' (DK v (P ++ stab (ltC cf) X ++ S) :: R) → K (.tuple #[]) w') :
    Cl prog 189 #[v, .int .i64 (a : Int), .int .i64 (b : Int), fv] w K := by
  refine slices_insertionSortCmpFunc_gate_kept_calls ?_
  unfold slices_insertionSortCmpFunc_gate_kept
  simp only [List.length_append] at hlen
  refine inc_s (by omega) ?_
  by_cases hX0 : X.length = 0
  · have hX : X = [] := List.length_eq_zero_iff.1 hX0
    subst hX
    refine lpi1 (fun q t8 w => t8 = .int .i64 ((a + 1 : Nat) : Int) ∧ Sat e w (DK v (P ++ [] ++ S) :: R)) 0 ⟨rfl, hS⟩ ?_
    rintro q _ w g ⟨rfl, h1⟩ hg
    refine ltn_c (fun c => ?_) (fun c => iff_f (hk _ h1))
    simp at hb
    omega
  refine lpi1 (fun q t8 w => ∃ r : Nat, 1 ≤ r ∧ r ≤ X.length ∧ t8 = .int .i64 ((a + r : Nat) : Int) ∧ q = X.length - r ∧ Sat e w (DK v (P ++ stab (ltC cf) (X.take r) ++ X.drop r ++ S) :: R)) (X.length - 1)
    ⟨1, Nat.le_refl _, by omega, rfl, rfl, ?_⟩ ?_
  · obtain ⟨x, hx⟩ := get_of_lt (l := X) (j := 0) (by omega)
    rw [take_snoc hx, List.take_zero, List.nil_append, stab_one]
    have : X = x :: X.drop 1 := by rw [← List.drop_zero (l := X), drop_cons hx]; simp
    rw [this] at hS
    simpa using hS
  rintro q _ w g ⟨r, hr1, hr2, rfl, rfl, h1⟩ hg
  refine ltn_c (fun c => iff_t ?_) (fun c => iff_f ?_)
  · obtain ⟨x, hx⟩ := get_of_lt (l := X) (j := r) (by omega)
    have hsl : (stab (ltC cf) (X.take r)).length = r := by rw [stab_length, List.length_take]; omega
    refine lpi1 (fun q t9 w => ∃ (U V : List Kept), U ++ V = stab (ltC cf) (X.take r) ∧ t9 = .int .i64 ((a + U.length : Nat) : Int) ∧ q = U.length ∧ (∀ z ∈ V, ltC cf x z = true) ∧
        Sat e w (DK v (P ++ (U ++ x :: V) ++ X.drop (r + 1) ++ S) :: R)) r
      ⟨stab (ltC cf) (X.take r), [], by simp, by rw [hsl], hsl.symm, (fun _ h => by cases h), by rw [drop_cons hx] at h1; simpa using h1⟩ ?_
    rintro q _ w g2 ⟨U, V, hUV, rfl, rfl, hV, h2⟩ hg2
    have hUVl : U.length + V.length = r := by rw [← hsl, ← hUV, List.length_append]
    have hasc : Asc (ltC cf) (U ++ V) := by rw [hUV]; exact stab_asc o _
    have hdone : ∀ w', Sat e w' (DK v (P ++ (U ++ x :: V) ++ X.drop (r + 1) ++ S) :: R) → (∀ z ∈ U, ltC cf x z = false) → bi .add .i64 (.int .i64 ((a + r : Nat) : Int)) (Value.int IntKind.i64 1) w' fun t16 w => g [t16] w := by
      intro w' h3 hU
      refine inc_s (by omega) ?_
      refine hg _ _ _ (by omega) ⟨r + 1, by omega, by omega, rfl, rfl, ?_⟩
      rw [take_snoc hx, stab_append o, stab_one, ← hUV, mg_one' hU hV]
      simpa using h3
    refine dr_s h2 fun w3 h3 => ?_
    refine gt_c (fun c2 => ?_) (fun c2 => ?_)
    · have hU0 : 0 < U.length := by omega
      obtain ⟨u, hu⟩ := get_of_lt (l := U) (j := U.length - 1) (by omega)
      have hU' : U = U.take (U.length - 1) ++ [u] := by
        have h5 := take_snoc hu
        rw [show U.length - 1 + 1 = U.length by omega, List.take_length] at h5
        exact h5
      generalize hU1 : U.take (U.length - 1) = U1 at hU'
      have hU1l : U1.length + 1 = U.length := by rw [hU']; simp
      have hsh : P ++ (U ++ x :: V) ++ X.drop (r + 1) ++ S = (P ++ U1) ++ u :: ([] ++ x :: (V ++ X.drop (r + 1) ++ S)) := by rw [hU']; simp
      rw [hsh] at h3
      have l1 : a + U.length - 1 = (P ++ U1).length := by rw [List.length_append]; omega
      have l2 : a + U.length = (P ++ U1).length + 1 + ([] : List Kept).length := by rw [List.length_append, List.length_nil]; omega
      refine gd_tt (gd_tt (gd_tt (gd_tt ?_)))
      refine ixS_rd h3 0 rfl (fun g hg => own_rd hg) kept_len (get_mid2 l2) fun p hp => ?_
      refine gd_tt (ldN_of h3 0 rfl hp rfl ?_)
      refine gd_tt (gd_tt (gd_tt (dec_s (by omega) (by omega) ?_)))
      refine gd_tt (ixS_rd h3 0 rfl (fun g hg => own_rd hg) kept_len (get_mid l1) fun p hp => ?_)
      refine gd_tt (ldN_of h3 0 rfl hp rfl ?_)
      refine gd_tt (hc _ _ _ _ _ h3 fun w4 h4 => ?_)
      refine gd_tt (lt_c (fun c3 => pk_t (iff_t ?_)) (fun c3 => pk_t (iff_f ?_)))
      · refine dr_s h4 fun w5 h5 => ?_
        refine dec_s (by omega) (by omega) (dec_s (by omega) (by omega) ?_)
        refine swap_s (l := (P ++ U1) ++ u :: ([] ++ x :: (V ++ X.drop (r + 1) ++ S))) kept_len (fun _ => ints_flat _) (get_mid2 l2) (get_mid l1) h5 fun w6 h6 => ?_
        rw [swap_mid' l1 l2] at h6
        refine dec_s (by omega) (by omega) ?_
        refine hg2 _ _ _ (by omega) ⟨U1, u :: V, by rw [← hUV, hU']; simp, by rw [show a + U.length - 1 = a + U1.length by omega], rfl, fun z hz => ?_, by simpa using h6⟩
        rcases List.mem_cons.1 hz with rfl | hz
        · exact decide_eq_true c3
        · exact hV z hz
      · refine hdone _ (by rw [hsh]; exact h4) ?_
        have := asc_last o hasc.left hu (decide_eq_false c3)
        rw [show U.length - 1 + 1 = U.length by omega, List.take_length] at this
        exact this
    · have hU0 : U = [] := List.length_eq_zero_iff.1 (by omega)
      refine gd_ft (gd_ft (gd_ft (gd_ft (gd_ft (gd_ft (gd_ft (gd_ft (gd_ft (gd_ft (gd_ft (gd_ft (pk_f (iff_f (hdone _ h3 ?_))))))))))))))
      rw [hU0]
      exact fun _ h => by cases h
  · obtain rfl : r = X.length := by omega
    rw [List.take_length, List.drop_length, List.append_nil] at h1
    exact hk _ h1
end Go.Proofs.YtbopajpmadlmhaaGreat
end
section
namespace Go.Proofs.YtbopajpmadlmhaaGreat
open Go Go.E
set_option maxRecDepth 100000
variable {e w : World} {R : List HP} {K : KV} {v fv : Value} {cf : Kept → Kept → Int}

theorem get_in {P L S : List Kept} {i n : Nat} {x : Kept} (h : L[i]? = some x) (hn : n = P.length + i) : (P ++ L ++ S)[n]? = some x := by
  have hi := (List.getElem?_eq_some_iff.1 h).1
  subst hn
  rw [List.append_assoc, List.getElem?_append_right (by omega), Nat.add_sub_cancel_left, List.getElem?_append_left hi, h]

theorem ltlt_s {a b x y : Int} (hk : K (.bool (decide (a < b ∧ x < y))) w) : bi .lss .i64 (.int .i64 a) (.int .i64 b) w fun t1 w => gd t1 true (fun k => k (.int .i64 x) w) w fun t2 w => gd t1 true (fun k => k (.int .i64 y) w) w fun t3 w =>
    gd t1 true (fun k => bi .lss .i64 t2 t3 w k) w fun t4 w => pk t1 t4 (.bool false) w K := by
  refine lt_c (fun c => gd_tt (gd_tt (gd_tt (lt_d (pk_t ?_))))) (fun c => gd_ft (gd_ft (gd_ft (pk_f ?_))))
  · rw [show decide (a < b ∧ x < y) = decide (x < y) from by simp [c]] at hk
    exact hk
  · rw [show decide (a < b ∧ x < y) = false from by simp [c]] at hk
    exact hk

theorem symMerge_s (hc : CmpOk e fv cf) (o : Ordered (ltC cf)) : ∀ (N : Nat) {w : World} {R : List HP} {K : KV} {P L Q S : List Kept} {a m b : Nat}, L.length + Q.length ≤ N → a = P.length → m = P.length + L.length → b = P.length + L.length + Q.length →
    0 < L.length → 0 < Q.length → (P ++ L ++ Q ++ S).length ≤ 1000000 → Asc (ltC cf) L → Asc (ltC cf) Q →
    Sat e w (DK v (P ++ L ++ Q ++ S) :: R) → (∀ w', Sat e w' (DK v (P ++ mg (ltC cf) L Q ++ S) :: R) → K (.tuple #[]) w') →
    Cl prog 190 #[v, .int .i64 (a : Int), .int .i64 (m : Int), .int .i64 (b : Int), fv] w K := by
  intro N
  induction N with
  | zero => intro w R K P L Q S a m b h1 _ _ _ h2; omega
  | succ N ih =>
    intro w R K P L Q S a m b hN ha hm hb hL hQ hlen aL aQ hS hk
    refine slices_symMergeCmpFunc_gate_kept_calls ?_
    unfold slices_symMergeCmpFunc_gate_kept
    simp only [List.length_append] at hlen
    refine subn_s (by omega) (by omega) (eq_c (fun c1 => iff_t ?_) (fun c1 => iff_f ?_))
    · -- one from the left
      obtain ⟨x, rfl⟩ : ∃ x, L = [x] := List.length_eq_one_iff.1 (by omega)
      simp only [List.length_cons, List.length_nil] at *
      refine lpi2 (fun z t10 t11 w => ∃ p q : Nat, t10 = .int .i64 ((m + p : Nat) : Int) ∧ t11 = .int .i64 ((m + q : Nat) : Int) ∧ p ≤ q ∧ q ≤ Q.length ∧ z = q - p ∧
          (p = 0 ∨ ∃ y, Q[p - 1]? = some y ∧ ltC cf y x = true) ∧ (q = Q.length ∨ ∃ y, Q[q]? = some y ∧ ltC cf y x = false) ∧ Sat e w (DK v (P ++ [x] ++ Q ++ S) :: R)) Q.length
        ⟨0, Q.length, by simp, by rw [show b = m + Q.length by omega], Nat.zero_le _, Nat.le_refl _, rfl, .inl rfl, .inl rfl, hS⟩ ?_
      rintro z _ _ w g ⟨p, q, rfl, rfl, hpq, hqQ, rfl, hp, hq, h1⟩ hg
      refine ltn_c (fun c2 => iff_t ?_) (fun c2 => iff_f ?_)
      · refine addn_s (by omega) (half_s (xo := fun _ => _) (yo := fun _ => _) (by omega) ?_)
        rw [show (m + p + (m + q)) / 2 = m + (p + q) / 2 by omega]
        have hh : (p + q) / 2 < Q.length := by omega
        obtain ⟨y, hy⟩ := get_of_lt hh
        refine dr_s h1 fun w2 h2 => ?_
        refine ixS_rd h2 0 rfl (fun g hg => own_rd hg) kept_len (get_in (P := P ++ [x]) hy (by simp; omega)) fun r hr => ?_
        refine ldN_of h2 0 rfl hr rfl ?_
        refine ixS_rd (j := a) h2 0 rfl (fun g hg => own_rd hg) kept_len (x := x) (by rw [ha]; simp) fun r hr => ?_
        refine ldN_of h2 0 rfl hr rfl ?_
        refine hc _ _ _ _ _ h2 fun w3 h3 => ?_
        refine lt_c (fun c3 => iff_t ?_) (fun c3 => iff_f ?_)
        · refine inc_s (by omega) ?_
          refine hg _ _ _ _ (by omega) ⟨(p + q) / 2 + 1, q, rfl, rfl, by omega, hqQ, rfl, .inr ⟨y, by rw [Nat.add_sub_cancel]; exact hy, decide_eq_true c3⟩, hq, h3⟩
        · refine hg _ _ _ _ (by omega) ⟨p, (p + q) / 2, rfl, rfl, by omega, by omega, rfl, hp, .inr ⟨y, hy, decide_eq_false c3⟩, h3⟩
      · obtain rfl : p = q := by omega
        have hlow : ∀ y ∈ Q.take p, ltC cf y x = true := by
          rcases hp with rfl | ⟨y, hy, hyx⟩
          · simp
          · have hp0 : p - 1 + 1 = p := by
              by_cases h0 : p = 0
              · exfalso
                subst h0
                rcases hq with h | ⟨y', hy', hyx'⟩
                · omega
                · rw [show 0 - 1 = 0 from rfl, hy'] at hy
                  cases hy
                  rw [hyx] at hyx'
                  cases hyx'
              · omega
            have := asc_below o aQ hy hyx
            rw [hp0] at this
            exact this
        have hhigh : ∀ y ∈ Q.drop p, ltC cf y x = false := by
          rcases hq with rfl | ⟨y, hy, hyx⟩
          · simp
          · exact asc_above o aQ hy hyx
        have hmg : mg (ltC cf) [x] Q = Q.take p ++ x :: Q.drop p := by
          conv => lhs; rw [← List.take_append_drop p Q]
          exact mg_one hlow hhigh
        rw [hmg] at hk
        have hQp : (Q.take p).length = p := by rw [List.length_take]; omega
        obtain ⟨Q1, hQ1⟩ : ∃ Q1, Q1 = Q.take p := ⟨_, rfl⟩
        obtain ⟨Q2, hQ2⟩ : ∃ Q2, Q2 = Q.drop p := ⟨_, rfl⟩
        have hQs : Q = Q1 ++ Q2 := by rw [hQ1, hQ2, List.take_append_drop]
        rw [← hQ1, ← hQ2] at hk
        rw [← hQ1] at hQp
        rw [hQs] at h1
        refine lpi1 (fun z t13 w => ∃ i : Nat, i ≤ p ∧ t13 = .int .i64 ((a + i : Nat) : Int) ∧ z = p - i ∧ Sat e w (DK v (P ++ Q1.take i ++ x :: Q1.drop i ++ Q2 ++ S) :: R)) p
          ⟨0, Nat.zero_le _, rfl, rfl, by simpa using h1⟩ ?_
        rintro z _ w g2 ⟨i, hi, rfl, rfl, h2⟩ hg2
        refine dec_s (by omega) (by omega) (ltn_c (fun c3 => iff_t ?_) (fun c3 => iff_f ?_))
        · obtain ⟨y, hy⟩ := get_of_lt (l := Q1) (j := i) (by omega)
          have hsh : P ++ Q1.take i ++ x :: Q1.drop i ++ Q2 ++ S = (P ++ Q1.take i) ++ x :: ([] ++ y :: (Q1.drop (i + 1) ++ Q2 ++ S)) := by rw [drop_cons hy]; simp
          rw [hsh] at h2
          have l1 : a + i = (P ++ Q1.take i).length := by rw [List.length_append, List.length_take]; omega
          have l2 : a + i + 1 = (P ++ Q1.take i).length + 1 + ([] : List Kept).length := by rw [← l1]; rfl
          refine dr_s h2 fun w3 h3 => ?_
          refine inc_s (by omega) (inc_s (by omega) ?_)
          refine swap_s (l := (P ++ Q1.take i) ++ x :: ([] ++ y :: (Q1.drop (i + 1) ++ Q2 ++ S))) kept_len (fun _ => ints_flat _) (get_mid l1) (get_mid2 l2) h3 fun w4 h4 => ?_
          rw [swap_mid l1 l2] at h4
          refine inc_s (by omega) ?_
          refine hg2 _ _ _ (by omega) ⟨i + 1, by omega, rfl, rfl, ?_⟩
          rw [take_snoc hy]
          simpa using h4
        · obtain rfl : i = p := by omega
          rw [List.take_of_length_le (by omega), List.drop_of_length_le (by omega)] at h2
          exact hk _ (by simpa using h2)
    refine subn_s (by omega) (by omega) (eq_c (fun c2 => iff_t ?_) (fun c2 => iff_f ?_))
    · -- one from the right
      obtain ⟨y, rfl⟩ : ∃ y, Q = [y] := List.length_eq_one_iff.1 (by omega)
      simp only [List.length_cons, List.length_nil] at *
      refine lpi2 (fun z t14 t15 w => ∃ p q : Nat, t14 = .int .i64 ((a + p : Nat) : Int) ∧ t15 = .int .i64 ((a + q : Nat) : Int) ∧ p ≤ q ∧ q ≤ L.length ∧ z = q - p ∧
          (p = 0 ∨ ∃ x, L[p - 1]? = some x ∧ ltC cf y x = false) ∧ (q = L.length ∨ ∃ x, L[q]? = some x ∧ ltC cf y x = true) ∧ Sat e w (DK v (P ++ L ++ [y] ++ S) :: R)) L.length
        ⟨0, L.length, by simp, by rw [show m = a + L.length by omega], Nat.zero_le _, Nat.le_refl _, rfl, .inl rfl, .inl rfl, hS⟩ ?_
      rintro z _ _ w g ⟨p, q, rfl, rfl, hpq, hqL, rfl, hp, hq, h1⟩ hg
      refine ltn_c (fun c2 => iff_t ?_) (fun c2 => iff_f ?_)
      · refine addn_s (by omega) (half_s (xo := fun _ => _) (yo := fun _ => _) (by omega) ?_)
        rw [show (a + p + (a + q)) / 2 = a + (p + q) / 2 by omega]
        have hh : (p + q) / 2 < L.length := by omega
        obtain ⟨x, hx⟩ := get_of_lt hh
        refine dr_s h1 fun w2 h2 => ?_
        refine ixS_rd (j := m) h2 0 rfl (fun g hg => own_rd hg) kept_len (x := y) (get_in (P := P ++ L) (L := [y]) (i := 0) rfl (by simp; omega)) fun r hr => ?_
        refine ldN_of h2 0 rfl hr rfl ?_
        refine ixS_rd h2 0 rfl (fun g hg => own_rd hg) kept_len (x := x) (by rw [List.append_assoc]; exact get_in hx (by omega)) fun r hr => ?_
        refine ldN_of h2 0 rfl hr rfl ?_
        refine hc _ _ _ _ _ h2 fun w3 h3 => ?_
        refine lt_c (fun c3 => not_t (iff_f ?_)) (fun c3 => not_f (iff_t ?_))
        · refine hg _ _ _ _ (by omega) ⟨p, (p + q) / 2, rfl, rfl, by omega, by omega, rfl, hp, .inr ⟨x, hx, decide_eq_true c3⟩, h3⟩
        · refine inc_s (by omega) ?_
          refine hg _ _ _ _ (by omega) ⟨(p + q) / 2 + 1, q, rfl, rfl, by omega, hqL, rfl, .inr ⟨x, by rw [Nat.add_sub_cancel]; exact hx, decide_eq_false c3⟩, hq, h3⟩
      · obtain rfl : p = q := by omega
        have hlow : ∀ x ∈ L.take p, ltC cf y x = false := by
          rcases hp with rfl | ⟨x, hx, hyx⟩
          · simp
          · have hp0 : p - 1 + 1 = p := by
              by_cases h0 : p = 0
              · exfalso
                subst h0
                rcases hq with h | ⟨x', hx', hyx'⟩
                · omega
                · rw [show 0 - 1 = 0 from rfl, hx'] at hx
                  cases hx
                  rw [hyx] at hyx'
                  cases hyx'
              · omega
            have := asc_last o aL hx hyx
            rw [hp0] at this
            exact this
        have hhigh : ∀ x ∈ L.drop p, ltC cf y x = true := by
          rcases hq with rfl | ⟨x, hx, hyx⟩
          · simp
          · exact asc_first o aL hx hyx
        have hmg : mg (ltC cf) L [y] = L.take p ++ y :: L.drop p := by
          conv => lhs; rw [← List.take_append_drop p L]
          exact mg_one' hlow hhigh
        rw [hmg] at hk
        have hL2l : (L.drop p).length = L.length - p := List.length_drop
        have hL1l : (L.take p).length = p := by rw [List.length_take]; omega
        obtain ⟨L1, hL1⟩ : ∃ L1, L1 = L.take p := ⟨_, rfl⟩
        obtain ⟨L2, hL2⟩ : ∃ L2, L2 = L.drop p := ⟨_, rfl⟩
        have hLs : L = L1 ++ L2 := by rw [hL1, hL2, List.take_append_drop]
        rw [← hL1, ← hL2] at hk
        rw [← hL1] at hL1l
        rw [← hL2] at hL2l
        rw [hLs] at h1
        refine lpi1 (fun z t17 w => z ≤ L2.length ∧ t17 = .int .i64 ((a + p + z : Nat) : Int) ∧ Sat e w (DK v (P ++ L1 ++ L2.take z ++ y :: L2.drop z ++ S) :: R)) L2.length
          ⟨Nat.le_refl _, by rw [show m = a + p + L2.length by omega], by simpa using h1⟩ ?_
        rintro z _ w g2 ⟨hz, rfl, h2⟩ hg2
        refine gt_c (fun c3 => iff_t ?_) (fun c3 => iff_f ?_)
        · obtain ⟨u, hu⟩ := get_of_lt (l := L2) (j := z - 1) (by omega)
          have hz1 : z - 1 + 1 = z := by omega
          have htk := take_snoc hu
          rw [hz1] at htk
          have hsh : P ++ L1 ++ L2.take z ++ y :: L2.drop z ++ S = (P ++ L1 ++ L2.take (z - 1)) ++ u :: ([] ++ y :: (L2.drop z ++ S)) := by rw [htk]; simp
          rw [hsh] at h2
          have l1 : a + p + z - 1 = (P ++ L1 ++ L2.take (z - 1)).length := by simp only [List.length_append, List.length_take]; omega
          have l2 : a + p + z = (P ++ L1 ++ L2.take (z - 1)).length + 1 + ([] : List Kept).length := by rw [← l1, List.length_nil]; omega
          refine dr_s h2 fun w3 h3 => ?_
          refine dec_s (by omega) (by omega) (dec_s (by omega) (by omega) ?_)
          refine swap_s (l := (P ++ L1 ++ L2.take (z - 1)) ++ u :: ([] ++ y :: (L2.drop z ++ S))) kept_len (fun _ => ints_flat _) (get_mid2 l2) (get_mid l1) h3 fun w4 h4 => ?_
          rw [swap_mid' l1 l2] at h4
          refine dec_s (by omega) (by omega) ?_
          refine hg2 (z - 1) _ _ (by omega) ⟨by omega, by rw [show a + p + z - 1 = a + p + (z - 1) by omega], ?_⟩
          have hdc := drop_cons hu
          rw [hz1] at hdc
          rw [hdc]
          simpa using h4
        · obtain rfl : z = 0 := by omega
          exact hk _ (by simpa using h2)
    refine addn_s (by omega) (half_s (xo := fun _ => _) (yo := fun _ => _) (by omega) ?_)
    obtain ⟨mid, hmid⟩ : ∃ mid, mid = (a + b) / 2 := ⟨_, rfl⟩
    rw [← hmid]
    refine addn_s (by omega) ?_
    refine gt_d ?_
    refine J2.cut (fun t20 t21 w => ∃ s0 r0 : Nat, t20 = .int .i64 (s0 : Int) ∧ t21 = .int .i64 (r0 : Int) ∧ ((s0 = a ∧ r0 = m ∧ m ≤ mid) ∨ (s0 = mid + m - b ∧ r0 = mid ∧ mid < m)) ∧ Sat e w (DK v (P ++ L ++ Q ++ S) :: R)) (fun k5 hcut => ?_) ?_
    · refine iff_d (fun c3 => ?_) (fun c3 => ?_)
      · refine subn_s (by omega) (by omega) ?_
        exact hcut _ _ _ ⟨_, _, rfl, rfl, .inr ⟨rfl, rfl, by omega⟩, hS⟩
      · exact hcut _ _ _ ⟨_, _, rfl, rfl, .inl ⟨rfl, rfl, by omega⟩, hS⟩
    rintro _ _ w ⟨s0, r0, rfl, rfl, hsr, h1⟩
    refine dec_s (by omega) (by omega) ?_
    have hsr0 : s0 ≤ r0 := by omega
    refine lpi2 (fun z t20 t21 w => ∃ s r : Nat, t20 = .int .i64 (s : Int) ∧ t21 = .int .i64 (r : Int) ∧ s0 ≤ s ∧ s ≤ r ∧ r ≤ r0 ∧ z = r - s ∧
        (s = s0 ∨ (s0 < s ∧ ∃ x y, L[s - 1 - a]? = some x ∧ Q[mid - s]? = some y ∧ ltC cf y x = false)) ∧ (r = r0 ∨ (r < r0 ∧ ∃ x y, L[r - a]? = some x ∧ Q[mid - 1 - r]? = some y ∧ ltC cf y x = true)) ∧ Sat e w (DK v (P ++ L ++ Q ++ S) :: R)) (r0 - s0)
      ⟨s0, r0, rfl, rfl, Nat.le_refl _, hsr0, Nat.le_refl _, rfl, .inl rfl, .inl rfl, h1⟩ ?_
    rintro z _ _ w g ⟨s, r, rfl, rfl, hs0, hsr1, hr0, rfl, hs, hr, h2⟩ hg
    refine ltn_c (fun c4 => iff_t ?_) (fun c4 => iff_f ?_)
    · refine addn_s (by omega) (half_s (xo := fun _ => _) (yo := fun _ => _) (by omega) ?_)
      obtain ⟨c, hcc⟩ : ∃ c, c = (s + r) / 2 := ⟨_, rfl⟩
      rw [← hcc]
      have hc1 : s ≤ c := by omega
      have hc2 : c < r := by omega
      obtain ⟨x, hx⟩ := get_of_lt (l := L) (j := c - a) (by omega)
      obtain ⟨y, hy⟩ := get_of_lt (l := Q) (j := mid - 1 - c) (by omega)
      refine dr_s h2 fun w3 h3 => ?_
      refine subn_s (by omega) (by omega) ?_
      refine ixS_rd h3 0 rfl (fun g hg => own_rd hg) kept_len (x := y) (get_in (P := P ++ L) hy (by rw [List.length_append]; omega)) fun p hp => ?_
      refine ldN_of h3 0 rfl hp rfl ?_
      refine ixS_rd h3 0 rfl (fun g hg => own_rd hg) kept_len (x := x) (by rw [List.append_assoc]; exact get_in hx (by omega)) fun p hp => ?_
      refine ldN_of h3 0 rfl hp rfl ?_
      refine hc _ _ _ _ _ h3 fun w4 h4 => ?_
      refine lt_c (fun c5 => not_t (iff_f ?_)) (fun c5 => not_f (iff_t ?_))
      · exact hg _ _ _ _ (by omega) ⟨s, c, rfl, rfl, hs0, by omega, by omega, rfl, hs, .inr ⟨by omega, x, y, hx, hy, decide_eq_true c5⟩, h4⟩
      · refine inc_s (by omega) ?_
        exact hg _ _ _ _ (by omega) ⟨c + 1, r, rfl, rfl, by omega, by omega, hr0, rfl, .inr ⟨by omega, x, y, by rw [Nat.add_sub_cancel]; exact hx, by rw [show mid - (c + 1) = mid - 1 - c by omega]; exact hy, decide_eq_false c5⟩, hr, h4⟩
    obtain rfl : s = r := by omega
    have hsa : a ≤ s := by omega
    have hsm : s ≤ m := by omega
    have hsd : s ≤ mid := by omega
    have heb : mid + m - s ≤ b := by omega
    have hL1l : (L.take (s - a)).length = s - a := by rw [List.length_take]; omega
    have hL2l : (L.drop (s - a)).length = m - s := by rw [List.length_drop]; omega
    have hQ1l : (Q.take (mid - s)).length = mid - s := by rw [List.length_take]; omega
    have hQ2l : (Q.drop (mid - s)).length = b - (mid + m - s) := by rw [List.length_drop]; omega
    have p1 : ∀ x ∈ L.drop (s - a), ∀ y ∈ Q.take (mid - s), ltC cf y x = true := by
      intro x hx y hy
      rcases hr with hr | ⟨hr, x0, y0, hx0, hy0, hlt⟩
      · rcases hsr with ⟨_, hrm, _⟩ | ⟨_, hrm, _⟩
        · rw [List.drop_of_length_le (by omega)] at hx; cases hx
        · rw [show mid - s = 0 by omega, List.take_zero] at hy; cases hy
      · have h3 := asc_first o aL hx0 hlt x hx
        have h4 := asc_below o aQ hy0 h3
        rw [show mid - 1 - s + 1 = mid - s by omega] at h4
        exact h4 y hy
    have p2 : ∀ x ∈ L.take (s - a), ∀ y ∈ Q.drop (mid - s), ltC cf y x = false := by
      intro x hx y hy
      rcases hs with hs | ⟨hs, x0, y0, hx0, hy0, hlt⟩
      · rcases hsr with ⟨hsx, _, _⟩ | ⟨hsx, _, _⟩
        · rw [show s - a = 0 by omega, List.take_zero] at hx; cases hx
        · rw [List.drop_of_length_le (by omega)] at hy; cases hy
      · have h3 := asc_above o aQ hy0 hlt y hy
        have h4 := asc_last o aL hx0 h3
        rw [show s - 1 - a + 1 = s - a by omega] at h4
        exact h4 x hx
    have hmg : mg (ltC cf) L Q = mg (ltC cf) (L.take (s - a)) (Q.take (mid - s)) ++ mg (ltC cf) (L.drop (s - a)) (Q.drop (mid - s)) := by
      conv => lhs; rw [← List.take_append_drop (s - a) L, ← List.take_append_drop (mid - s) Q]
      exact mg_parts p1 p2
    have aL' : Asc (ltC cf) (L.take (s - a) ++ L.drop (s - a)) := by rw [List.take_append_drop]; exact aL
    have aQ' : Asc (ltC cf) (Q.take (mid - s) ++ Q.drop (mid - s)) := by rw [List.take_append_drop]; exact aQ
    have hLe : L = L.take (s - a) ++ L.drop (s - a) := (List.take_append_drop _ _).symm
    have hQe : Q = Q.take (mid - s) ++ Q.drop (mid - s) := (List.take_append_drop _ _).symm
    rw [hmg] at hk
    have h3 : Sat e w (DK v (P ++ (L.take (s - a) ++ L.drop (s - a)) ++ (Q.take (mid - s) ++ Q.drop (mid - s)) ++ S) :: R) := by rw [← hLe, ← hQe]; exact h2
    clear hs hr p1 p2 hmg h2 hLe hQe
    generalize L.take (s - a) = L1 at *
    generalize L.drop (s - a) = L2 at *
    generalize Q.take (mid - s) = Q1 at *
    generalize Q.drop (mid - s) = Q2 at *
    refine subn_s (by omega) (by omega) ?_
    refine ltlt_s ?_
    refine J0.cut (fun w => Sat e w (DK v (P ++ L1 ++ Q1 ++ L2 ++ Q2 ++ S) :: R)) (fun k7 hcut => ?_) ?_
    · refine iff_d (fun c5 => ?_) (fun c5 => hcut _ ?_)
      · refine rotate_s (P := P ++ L1) (A := L2) (B := Q1) (S := Q2 ++ S) (by rw [List.length_append]; omega) (by rw [List.length_append]; omega) (by rw [List.length_append]; omega) (by omega) (by omega) (by simp only [List.length_append]; omega) (by simpa using h3) fun w5 h5 => ?_
        exact hcut _ (by simpa using h5)
      · have : L2 = [] ∨ Q1 = [] := by
          by_cases h : s < m
          · exact .inr (List.length_eq_zero_iff.1 (by omega))
          · exact .inl (List.length_eq_zero_iff.1 (by omega))
        rcases this with h | h <;> subst h <;> simpa using h3
    intro w5 h5
    refine ltlt_s ?_
    refine J0.cut (fun w => Sat e w (DK v (P ++ mg (ltC cf) L1 Q1 ++ L2 ++ Q2 ++ S) :: R)) (fun k8 hcut => ?_) ?_
    · refine iff_d (fun c5 => ?_) (fun c5 => hcut _ ?_)
      · refine ih (P := P) (L := L1) (Q := Q1) (S := L2 ++ Q2 ++ S) (by omega) ha (by omega) (by omega) (by omega) (by omega) (by simp only [List.length_append]; omega) aL'.left aQ'.left (by simpa using h5) fun w6 h6 => ?_
        exact hcut _ (by simpa using h6)
      · have : L1 = [] ∨ Q1 = [] := by
          by_cases h : a < s
          · exact .inr (List.length_eq_zero_iff.1 (by omega))
          · exact .inl (List.length_eq_zero_iff.1 (by omega))
        rcases this with h | h
        · subst h; rw [mg_nil]; simpa using h5
        · subst h; rw [mg_nil']; simpa using h5
    intro w6 h6
    refine ltlt_s ?_
    refine iff_d (fun c5 => ?_) (fun c5 => hk _ ?_)
    · refine ih (P := P ++ mg (ltC cf) L1 Q1) (L := L2) (Q := Q2) (S := S) (by omega) (by rw [List.length_append, mg_length]; omega) (by rw [List.length_append, mg_length]; omega) (by rw [List.length_append, mg_length]; omega) (by omega) (by omega) (by simp only [List.length_append, mg_length]; omega) aL'.right aQ'.right (by simpa using h6) fun w7 h7 => ?_
      exact hk _ (by simpa using h7)
    · have : L2 = [] ∨ Q2 = [] := by
        by_cases h : mid < mid + m - s
        · exact .inr (List.length_eq_zero_iff.1 (by omega))
        · exact .inl (List.length_eq_zero_iff.1 (by omega))
      rcases this with h | h
      · subst h; rw [mg_nil]; simpa using h6
      · subst h; rw [mg_nil']; simpa using h6

def srt (cf : Kept → Kept → Int) (B : List (List Kept)) : List Kept := (B.map (stab (ltC cf))).flatten
theorem srt_len (B : List (List Kept)) : (srt cf B).length = B.flatten.length := by
  induction B with
  | nil => rfl
  | cons b B ih => simp only [srt, List.map_cons, List.flatten_cons, List.length_append, stab_length] at ih ⊢; rw [ih]
theorem srt_append (A B : List (List Kept)) : srt cf (A ++ B) = srt cf A ++ srt cf B := by simp [srt]
theorem srt_cons (b : List Kept) (B : List (List Kept)) : srt cf (b :: B) = stab (ltC cf) b ++ srt cf B := by simp [srt]
theorem flat_len {B : List (List Kept)} {k : Nat} (h : ∀ b ∈ B, b.length = k) : B.flatten.length = B.length * k := by
  induction B with
  | nil => simp
  | cons b B ih => rw [List.flatten_cons, List.length_append, h b List.mem_cons_self, ih fun x hx => h x (List.mem_cons_of_mem _ hx), List.length_cons, Nat.add_mul]; omega

theorem stable_s (hc : CmpOk e fv cf) (o : Ordered (ltC cf)) {l : List Kept} (hlen : l.length ≤ 1000000) (hS : Sat e w (DK v l :: R)) (hk : ∀ w', Sat e w' (DK v (stab (ltC cf) l) :: R) → K (.tuple #[]) w') :
    Cl prog 165 #[v, .int .i64 (l.length : Int), fv] w K := by
  refine slices_stableCmpFunc_gate_kept_calls ?_
  unfold slices_stableCmpFunc_gate_kept
  refine lpi2 (fun z t7 t8 w => ∃ (B : List (List Kept)) (r : List Kept), l = B.flatten ++ r ∧ (∀ b ∈ B, b.length = 20) ∧ t7 = .int .i64 (B.flatten.length : Int) ∧ t8 = .int .i64 ((B.flatten.length + 20 : Nat) : Int) ∧ z = r.length ∧ Sat e w (DK v (srt cf B ++ r) :: R)) l.length
    ⟨[], l, rfl, (fun _ h => by cases h), rfl, rfl, rfl, hS⟩ ?_
  rintro z _ _ w g ⟨B, r, hl, hB, rfl, rfl, rfl, h1⟩ hg
  have hll : l.length = B.flatten.length + r.length := by rw [hl, List.length_append]
  refine le_c (fun c1 => iff_t ?_) (fun c1 => iff_f ?_)
  · have hr20 : 20 ≤ r.length := by omega
    have htl : (r.take 20).length = 20 := by rw [List.length_take]; omega
    refine insertion_s hc o (P := srt cf B) (X := r.take 20) (S := r.drop 20) (srt_len B).symm (by rw [srt_len, htl]) (by simp only [List.length_append, List.length_take, List.length_drop, srt_len]; omega) (by simpa using h1) fun w2 h2 => ?_
    refine addn_s (b := 20) (by omega) ?_
    refine hg _ _ _ _ (by rw [List.length_drop]; omega) ⟨B ++ [r.take 20], r.drop 20, by rw [hl]; simp, fun b hb => ?_, ?_, ?_, rfl, ?_⟩
    · rcases List.mem_append.1 hb with h | h
      · exact hB b h
      · rw [List.mem_singleton.1 h]; exact htl
    · rw [List.flatten_append, List.length_append]; simp [htl]
    · rw [List.flatten_append, List.length_append]; simp [htl]
    · rw [srt_append, srt_cons]
      simpa [srt] using h2
  · have hr20 : r.length < 20 := by omega
    refine insertion_s hc o (P := srt cf B) (X := r) (S := []) (srt_len B).symm (by rw [srt_len, hll]) (by simp only [List.length_append, srt_len, List.length_nil]; omega) (by simpa using h1) fun w2 h2 => ?_
    rw [List.append_nil] at h2
    refine lpi1 (fun z t6 w => ∃ (bs : Nat) (B : List (List Kept)) (r : List Kept), l = B.flatten ++ r ∧ 0 < bs ∧ bs ≤ 2000000 ∧ (∀ b ∈ B, b.length = bs) ∧ r.length < bs ∧ t6 = .int .i64 (bs : Int) ∧ z = l.length - bs ∧ Sat e w (DK v (srt cf B ++ stab (ltC cf) r) :: R)) (l.length - 20)
      ⟨20, B, r, hl, by decide, by decide, hB, hr20, rfl, rfl, h2⟩ ?_
    clear hl hB hr20 hll h1 h2 hg c1
    rintro z _ w g2 ⟨bs, B, r, hl, hbs, hbs2, hB, hr, rfl, rfl, h1⟩ hg2
    have hll : l.length = B.flatten.length + r.length := by rw [hl, List.length_append]
    refine ltn_c (fun c2 => iff_t ?_) (fun c2 => iff_f ?_)
    · refine muln_s (a := 2) (by omega) ?_
      refine lpi2 (fun z t7 t8 w => ∃ (D B : List (List Kept)), l = D.flatten ++ B.flatten ++ r ∧ (∀ b ∈ D, b.length = 2 * bs) ∧ (∀ b ∈ B, b.length = bs) ∧ t7 = .int .i64 (D.flatten.length : Int) ∧ t8 = .int .i64 ((D.flatten.length + 2 * bs : Nat) : Int) ∧ z = B.length ∧
          Sat e w (DK v (srt cf D ++ srt cf B ++ stab (ltC cf) r) :: R)) B.length
        ⟨[], B, by simpa using hl, (fun _ h => by cases h), hB, rfl, by simp, rfl, h1⟩ ?_
      clear hl hB hll h1
      rintro z _ _ w g3 ⟨D, B, hl, hD, hB, rfl, rfl, rfl, h1⟩ hg3
      have hll : l.length = D.flatten.length + B.flatten.length + r.length := by rw [hl, List.length_append, List.length_append]
      have hBl := flat_len hB
      refine le_c (fun c3 => iff_t ?_) (fun c3 => iff_f ?_)
      · -- two blocks more
        obtain ⟨X, Y, B', rfl⟩ : ∃ X Y B', B = X :: Y :: B' := by
          match B with
          | [] => simp only [List.length_nil] at hBl; omega
          | [X] => simp only [List.length_cons, List.length_nil] at hBl; omega
          | X :: Y :: B' => exact ⟨X, Y, B', rfl⟩
        have hXl : X.length = bs := hB X (by simp)
        have hYl : Y.length = bs := hB Y (by simp)
        rw [List.flatten_cons, List.flatten_cons, List.length_append, List.length_append] at hll
        refine addn_s (by omega) ?_
        refine symMerge_s hc o _ (P := srt cf D) (L := stab (ltC cf) X) (Q := stab (ltC cf) Y) (S := srt cf B' ++ stab (ltC cf) r) (Nat.le_refl _) (srt_len D).symm (by rw [srt_len, stab_length]; omega) (by rw [srt_len, stab_length, stab_length]; omega)
          (by rw [stab_length]; omega) (by rw [stab_length]; omega) (by simp only [List.length_append, srt_len, stab_length]; omega) (stab_asc o _) (stab_asc o _) (by rw [srt_cons, srt_cons] at h1; simpa using h1) fun w4 h4 => ?_
        refine muln_s (a := 2) (by omega) (addn_s (by omega) ?_)
        refine hg3 _ _ _ _ (by simp only [List.length_cons]; omega) ⟨D ++ [X ++ Y], B', by rw [hl]; simp, fun b hb => ?_, fun b hb => hB b (by simp [hb]), ?_, ?_, rfl, ?_⟩
        · rcases List.mem_append.1 hb with h | h
          · exact hD b h
          · rw [List.mem_singleton.1 h, List.length_append]; omega
        · rw [List.flatten_append, List.length_append]; simp [hXl, hYl]; omega
        · rw [List.flatten_append, List.length_append]; simp [hXl, hYl]; omega
        · rw [srt_append, srt_cons, stab_append o]
          simpa [srt] using h4
      · -- at most one block more
        refine addn_s (by omega) (lt_d ?_)
        refine J0.cut (fun w => ∃ r', l = D.flatten ++ r' ∧ r'.length < 2 * bs ∧ Sat e w (DK v (srt cf D ++ stab (ltC cf) r') :: R)) (fun k4 hcut => ?_) ?_
        · refine iff_d (fun c4 => ?_) (fun c4 => hcut _ ?_)
          · obtain ⟨X, rfl⟩ : ∃ X, B = [X] := by
              match B with
              | [] => simp only [List.length_nil] at hBl; omega
              | [X] => exact ⟨X, rfl⟩
              | X :: Y :: B' => simp only [List.length_cons, Nat.add_mul] at hBl; omega
            have hXl : X.length = bs := hB X (by simp)
            simp only [List.flatten_cons, List.flatten_nil, List.append_nil] at hll hl
            refine symMerge_s hc o _ (P := srt cf D) (L := stab (ltC cf) X) (Q := stab (ltC cf) r) (S := []) (Nat.le_refl _) (srt_len D).symm (by rw [srt_len, stab_length]; omega) (by rw [srt_len, stab_length, stab_length]; omega)
              (by rw [stab_length]; omega) (by rw [stab_length]; omega) (by simp only [List.length_append, srt_len, stab_length, List.length_nil]; omega) (stab_asc o _) (stab_asc o _) (by rw [srt_cons] at h1; simpa [srt] using h1) fun w4 h4 => ?_
            refine hcut _ ⟨X ++ r, by rw [hl]; simp, by rw [List.length_append]; omega, ?_⟩
            rw [stab_append o]
            simpa using h4
          · match B, hB, hl, hll, hBl, h1 with
            | [], hB, hl, hll, hBl, h1 => exact ⟨r, by simpa using hl, by omega, by simpa [srt] using h1⟩
            | [X], hB, hl, hll, hBl, h1 =>
              have hXl : X.length = bs := hB X (by simp)
              simp only [List.flatten_cons, List.flatten_nil, List.append_nil] at hll
              have hr0 : r = [] := List.length_eq_zero_iff.1 (by omega)
              subst hr0
              exact ⟨X, by simpa using hl, by omega, by simpa [srt, stab] using h1⟩
            | X :: Y :: B', hB, hl, hll, hBl, h1 => simp only [List.length_cons, Nat.add_mul] at hBl; omega
        · rintro w5 ⟨r', hl', hr', h5⟩
          refine muln_s (b := 2) (by omega) ?_
          exact hg2 _ _ _ (by omega) ⟨bs * 2, D, r', hl', by omega, by omega, fun b hb => by rw [hD b hb]; omega, by omega, rfl, rfl, h5⟩
    · have hBl := flat_len hB
      refine hk _ ?_
      match B, hB, hl, hll, hBl, h1 with
      | [], hB, hl, hll, hBl, h1 => rw [show l = r by simpa using hl]; simpa [srt] using h1
      | [X], hB, hl, hll, hBl, h1 =>
        have hXl : X.length = bs := hB X (by simp)
        simp only [List.flatten_cons, List.flatten_nil, List.append_nil] at hll
        have hr0 : r = [] := List.length_eq_zero_iff.1 (by omega)
        subst hr0
        rw [show l = X by simpa using hl]
        simpa [srt, stab] using h1
      | X :: Y :: B', hB, hl, hll, hBl, h1 => simp only [List.length_cons, Nat.add_mul] at hBl; omega

theorem sortStable_s {S : HP} (hc : CmpOk e fv cf) (o : Ordered (ltC cf)) {l : List Kept} (hlen : l.length ≤ 1000000) (hS : Sat e w (DK v l :: S :: R)) (hk : ∀ w', Sat e w' (DK v (stab (ltC cf) l) :: S :: R) → K (.tuple #[]) w') :
    Cl prog 123 #[v, fv] w K := by
  refine slices_SortStableFunc_gate_kept_gate_kept_calls ?_
  unfold slices_SortStableFunc_gate_kept_gate_kept
  refine lnS_rd hS 0 rfl (fun g hg => own_rd hg) ?_
  exact stable_s hc o hlen hS hk
end Go.Proofs.YtbopajpmadlmhaaGreat
end
section
namespace Go.Proofs.YtbopajpmadlmhaaGreat
open Go Go.E
set_option maxRecDepth 100000
variable {e w : World} {R : List HP} {K : KV}

theorem drop1_s {b : Nat} {k : Key} {x : Kept} (hS : Sat e w (blk b 35 k.cs :: R)) (hk : ∀ w', Sat e w' (blk b 35 k.cs :: R) → K (.bool (decide (0 ≤ cmpK x.cause k))) w') :
    clV prog (.func (.func 174) #[] #[.pointer (some ⟨b, 0, none⟩)]) #[.agg x.cs.toArray] w K := by
  refine ⟨_, _, _, rfl, ?_⟩
  refine gate_Gate_Drop_1_calls (t0 := .agg x.cs.toArray) (t1 := .pointer (some ⟨b, 0, none⟩)) ?_
  unfold gate_Gate_Drop_1
  refine al_s (cs := x.cs) hS rfl fun b2 w1 h1 => ?_
  refine fld_at ?_
  refine ldN_at h1 0 (vs := x.cause.cs) rfl (by rfl) rfl ?_
  refine ldN_at h1 1 (vs := k.cs) rfl (by rfl) rfl ?_
  refine vtime_Cmp_s h1 fun w2 h2 => ?_
  refine ge_d ?_
  exact hk _ h2.drop

def dropP (k : Key) (x : Kept) : Bool := decide (0 ≤ cmpK x.cause k)
theorem gate_Drop_s {g : Nat} {fl : Int} {l : List Kept} (k : Key) (hS : Sat e w (IsGate g fl l :: R)) (hl : l.length ≤ 1000000)
    (hk : ∀ v w', Sat e w' (ownS 37 6 Msg.cs v ((l.filter (dropP k)).map Kept.m) :: IsGate g fl (l.filter fun x => !dropP k x) :: R) → K v w') : Cl prog 147 #[.pointer (some ⟨g, 0, none⟩), .agg k.cs.toArray] w K := by
  refine gate_Gate_Drop_calls ?_
  unfold gate_Gate_Drop
  refine al_s (cs := k.cs) hS rfl fun b3 w1 h1 => ?_
  refine gate_part_s (dropP k) h1.swap hl (fun w R K x h hk => drop1_s h hk) fun v' w2 h2 => ?_
  refine messages_s h2 (fun g hg => own_rd hg) (Nat.le_trans (List.length_filter_le _ _) hl) fun v3 w3 h3 => ?_
  exact hk _ _ (h3.selR [_, _, _, _] [_, _] [0, 2] (by decide) rfl)

end Go.Proofs.YtbopajpmadlmhaaGreat
end
section
namespace Go.Proofs.YtbopajpmadlmhaaGreat
open Go Go.E
set_option maxRecDepth 100000
variable {e w : World} {R : List HP} {K : KV}

def cfK (x y : Kept) : Int := cmpK x.cause y.cause
theorem ltC_iff {x y : Kept} : ltC cfK x y = true ↔ KeyLt x.cause y.cause := by
  unfold ltC cfK
  rw [decide_eq_true_eq]
  exact cmpK_lt
theorem ltC_no {x y : Kept} : ltC cfK x y = false ↔ ¬ KeyLt x.cause y.cause := by
  rw [← ltC_iff]
  cases ltC cfK x y <;> simp
theorem orderedK : Ordered (ltC cfK) where
  asymm a b h := ltC_no.2 (ltC_iff.1 h).asymm
  trans a b c h k := by
    rw [ltC_no] at h k ⊢
    intro hca
    rcases KeyLt.tri a.cause b.cause with h1 | h1 | h1
    · exact k (hca.trans h1)
    · rw [h1] at hca; exact k hca
    · exact h h1
def openP (t : Int) (x : Kept) : Bool := decide (x.cause.T < t)
def openR (l : List Kept) (t : Int) : List Kept := stab (ltC cfK) (l.filter (openP t))
def openL (l : List Kept) (t : Int) : List Kept := l.filter fun x => !openP t x

theorem open1_s {b : Nat} {t : Int} {x : Kept} (hS : Sat e w (blk b 3 [.int .i64 t] :: R)) (hk : ∀ w', Sat e w' (blk b 3 [.int .i64 t] :: R) → K (.bool (openP t x)) w') :
    clV prog (.func (.func 122) #[] #[.pointer (some ⟨b, 0, none⟩)]) #[.agg x.cs.toArray] w K := by
  refine ⟨_, _, _, rfl, ?_⟩
  refine gate_Gate_Open_1_calls (t0 := .agg x.cs.toArray) (t1 := .pointer (some ⟨b, 0, none⟩)) ?_
  unfold gate_Gate_Open_1
  refine al_s (cs := x.cs) hS rfl fun b2 w1 h1 => ?_
  refine fld_at (fld_at ?_)
  refine ld1_at h1 0 rfl (v := .int .i64 x.cause.T) rfl ?_
  refine ld1_at h1 1 rfl (v := .int .i64 t) rfl ?_
  refine lt_d ?_
  exact hk _ h1.drop
theorem open2_s : CmpOk e (.func (.func 124) #[] #[]) cfK := by
  intro w R K x y hS hk
  refine ⟨_, _, _, rfl, ?_⟩
  refine gate_Gate_Open_2_calls (t0 := .agg x.cs.toArray) (t1 := .agg y.cs.toArray) ?_
  unfold gate_Gate_Open_2
  refine al_s (cs := x.cs) hS rfl fun b2 w1 h1 => ?_
  refine al_s (cs := y.cs) h1 rfl fun b3 w2 h2 => ?_
  refine fld_at (ldN_at h2 1 (vs := x.cause.cs) rfl (by rfl) rfl ?_)
  refine fld_at (ldN_at h2 0 (vs := y.cause.cs) rfl (by rfl) rfl ?_)
  exact vtime_Cmp_s h2 fun w3 h3 => hk _ h3.drop.drop
theorem gate_Open_s {g : Nat} {fl : Int} {l : List Kept} (t : Int) (hS : Sat e w (IsGate g fl l :: R)) (hl : l.length ≤ 1000000)
    (hk : ∀ v w', Sat e w' (ownS 37 6 Msg.cs v ((openR l t).map Kept.m) :: IsGate g (max fl t) (openL l t) :: R) → K v w') : Cl prog 63 #[.pointer (some ⟨g, 0, none⟩), .int .i64 t] w K := by
  refine gate_Gate_Open_calls ?_
  unfold gate_Gate_Open
  refine al_s (cs := [.int .i64 t]) hS rfl fun b3 w1 h1 => ?_
  refine gate_part_s (openP t) h1.swap hl (fun w R K x h hk => open1_s h hk) fun v' w2 h2 => ?_
  have hfl := List.length_filter_le (openP t) l
  refine sortStable_s open2_s orderedK (by omega) h2 fun w3 h3 => ?_
  refine dr_s h3 fun w4 h4 => ?_
  obtain ⟨v, h5⟩ := (h4.selR [_, _, _] [_, _, _] [1, 0, 2] (by decide) rfl).ex
  have h6 := h5.split
  refine ncP_p (fld_at (ld1_at h6 0 rfl (v := .int .i64 fl) rfl ?_))
  refine ld1_at h6 3 rfl (v := .int .i64 t) rfl ?_
  refine max_s ?_
  refine ncP_p (fld_at ?_)
  refine stN_at h6 0 rfl (vs := [.int .i64 (max fl t)]) rfl rfl (Nat.le_of_ble_eq_true rfl) (by simp [flat]) (cs' := [.int .i64 (max fl t), v]) rfl fun w5 h7 => ?_
  have h8 : Sat e w5 (DK v' (openR l t) :: IsGate g (max fl t) (openL l t) :: blk b3 3 [.int .i64 t] :: R) :=
    Sat.swap (.mk_ex v (.join (l' := [_, _]) (h7.selR [_, _, _, _] [_, _, _, _] [0, 1, 2, 3] (by decide) rfl)))
  refine messages_s h8 (fun g hg => own_rd hg) (by unfold openR; rw [stab_length]; omega) fun v3 w6 h9 => ?_
  exact hk _ _ (h9.selR [_, _, _, _] [_, _] [0, 2] (by decide) rfl)
def IsGateR (g : Nat) (fl : Int) (l : List Kept) : HP := hex fun v : Value => sepL [blk g 138 [.int .i64 fl, v], ownS 196 9 Kept.cs v l]
abbrev DR (v : Value) (l : List Kept) : HP := ownS 196 9 Kept.cs v l
theorem gateR_open {g : Nat} {fl : Int} {l : List Kept} (h : Sat e w (IsGateR g fl l :: R)) : ∃ v, Sat e w (blk g 138 [.int .i64 fl, v] :: DR v l :: R) := by
  obtain ⟨v, h5⟩ := h.ex
  exact ⟨v, h5.split⟩
theorem gateR_mk {g : Nat} {fl : Int} {l : List Kept} {v : Value} (h : Sat e w (blk g 138 [.int .i64 fl, v] :: DR v l :: R)) : Sat e w (IsGateR g fl l :: R) :=
  .mk_ex v (.join (l' := [_, _]) h)
theorem ref14_New_s (hS : Sat e w R) (hk : ∀ g w', Sat e w' (IsGateR g 0 [] :: R) → K (.pointer (some ⟨g, 0, none⟩)) w') : Cl prog 73 #[] w K := by
  refine pacelineref14_New_calls ?_
  unfold pacelineref14_New
  rw [zero_138]
  refine ⟨_, rfl, ?_⟩
  refine al_s (cs := [.int .i64 0, .slice none 0 0]) hS rfl fun b w1 h1 => ?_
  exact hk _ _ (gateR_mk (h1.own_nil 196 9 Kept.cs).swap)
theorem ref14_Hold_s {g : Nat} {fl : Int} {l : List Kept} (c : Key) (m : Msg) (hS : Sat e w (IsGateR g fl l :: R)) (hl : l.length ≤ 256)
    (hk : ∀ w', Sat e w' (IsGateR g fl (holdL fl l c m) :: R) → K (.int .i64 (holdE fl l c)) w') : Cl prog 83 #[.pointer (some ⟨g, 0, none⟩), .agg c.cs.toArray, .agg m.cs.toArray] w K := by
  obtain ⟨v, h1⟩ := gateR_open hS
  refine pacelineref14_Gate_Hold_calls ?_
  unfold pacelineref14_Gate_Hold
  refine al_s (cs := c.cs) h1 rfl fun b4 w1 h2 => ?_
  refine al_s (cs := m.cs) h2 rfl fun b5 w2 h3 => ?_
  refine dr_s h3 fun w3 h4 => ?_
  refine fld_at (ld1_at h4 1 rfl (v := .int .i64 c.T) rfl ?_)
  refine ncP_p (fld_at (ld1_at h4 2 rfl (v := .int .i64 fl) rfl ?_))
  refine lt_c (fun c1 => ?_) (fun c1 => ?_)
  · refine iff_t ?_
    have := hk w3
    simp only [holdE, holdL, if_pos c1] at this
    exact this (gateR_mk h4.drop.drop)
  · refine iff_f (ncP_p (fld_at (ld1_at h4 2 rfl (v := v) rfl ?_)))
    refine lnS_rd h4 3 rfl (fun g hg => own_rd hg) ?_
    refine ge_c (fun c2 => ?_) (fun c2 => ?_)
    · refine iff_t ?_
      have := hk w3
      have c3 : 256 ≤ l.length := by omega
      simp only [holdE, holdL, if_neg c1, if_pos c3] at this
      exact this (gateR_mk h4.drop.drop)
    · refine iff_f ?_
      refine bsl0 h4 Kept.cs fun v1 w4 h5 => ?_
      refine ncP_p (fld_at (ld1_at h5 3 rfl (v := v) rfl ?_))
      replace h5 : Sat e w4 (DR v1 [] :: DR v l :: blk b5 37 m.cs :: blk b4 35 c.cs :: blk g 138 [.int .i64 fl, v] :: R) := h5.selR [_, _, _, _, _] [_, _, _, _, _] [0, 4, 1, 2, 3] (by decide) rfl
      refine apS_own te_136 und_136 (f := Kept.cs) (fun _ => rfl) (fun _ => ints_flat _) h5 (fun g hg => own_rd hg) (by simp; omega) fun v2 w5 h6 => ?_
      rw [List.nil_append] at h6
      refine ldN_at h6 3 (vs := c.cs) rfl (by rfl) rfl ?_
      refine ldN_at h6 2 (vs := m.cs) rfl (by rfl) rfl ?_
      rw [zero_196]
      refine bld_s (Kept.cs ⟨c, m⟩) (by kernel_rfl) ?_
      refine push1 te_136 (f := Kept.cs) (fun _ => rfl) (fun _ => ints_flat _) h6 (x := ⟨c, m⟩) rfl (by omega) fun v3 w6 h7 => ?_
      refine ncP_p (fld_at ?_)
      refine st1_at h7 4 rfl (h7.own_cells 0 rfl) (Nat.le_of_ble_eq_true rfl) rfl fun w7 h8 => ?_
      have := hk w7
      have c3 : ¬ 256 ≤ l.length := by omega
      simp only [holdE, holdL, if_neg c1, if_neg c3] at this
      exact this (gateR_mk (h8.selR [_, _, _, _, _] [_, _] [4, 0] (by decide) rfl))

theorem dropP_neg {k : Key} {x : Kept} : dropP k x = !decide (cmpK x.cause k < 0) := by
  unfold dropP
  by_cases h : cmpK x.cause k < 0
  · rw [decide_eq_true h, decide_eq_false (by omega)]; rfl
  · rw [decide_eq_false h, decide_eq_true (by omega)]; rfl
theorem filter_snoc {α : Type} {p : α → Bool} {l : List α} {j : Nat} {x : α} (hx : l[j]? = some x) : (l.take (j + 1)).filter p = (l.take j).filter p ++ if p x then [x] else [] := by
  rw [take_snoc hx, List.filter_append]
  cases hpx : p x <;> simp [hpx]
theorem ref14_Drop_s {g : Nat} {fl : Int} {l : List Kept} (k : Key) (hS : Sat e w (IsGateR g fl l :: R)) (hl : l.length ≤ 1000000)
    (hk : ∀ v w', Sat e w' (ownS 37 6 Msg.cs v ((l.filter (dropP k)).map Kept.m) :: IsGateR g fl (l.filter fun x => !dropP k x) :: R) → K v w') : Cl prog 131 #[.pointer (some ⟨g, 0, none⟩), .agg k.cs.toArray] w K := by
  obtain ⟨v, h1⟩ := gateR_open hS
  refine pacelineref14_Gate_Drop_calls ?_
  unfold pacelineref14_Gate_Drop
  refine al_s (cs := k.cs) h1 rfl fun b3 w1 h2 => ?_
  refine bsl0 h2 Msg.cs fun v1 w2 h3 => ?_
  refine bsl0 h3 Kept.cs fun v2 w3 h4 => ?_
  refine lpi3 (fun z t5 t6 t7 w => ∃ j : Nat, j ≤ l.length ∧ t7 = .int .i64 j ∧ z = l.length - j ∧ Sat e w (ownS 37 6 Msg.cs t5 (((l.take j).filter (dropP k)).map Kept.m) :: DR t6 ((l.take j).filter fun x => !dropP k x) :: blk b3 35 k.cs ::
      blk g 138 [.int .i64 fl, v] :: DR v l :: R)) l.length
    ⟨0, Nat.zero_le _, rfl, rfl, h4.selR [_, _, _, _, _] [_, _, _, _, _] [1, 0, 2, 3, 4] (by decide) rfl⟩ ?_
  rintro z t5 t6 _ w g1 ⟨j, hj, rfl, rfl, h5⟩ hg
  refine ncP_p (fld_at (ld1_at h5 3 rfl (v := v) rfl ?_))
  refine lnS_rd h5 4 rfl (fun g hg => own_rd hg) ?_
  refine lt_c (fun c => iff_t ?_) (fun c => iff_f ?_)
  · obtain ⟨x, hx⟩ := get_of_lt (l := l) (j := j) (by omega)
    have hn1 := List.length_filter_le (dropP k) (l.take j)
    have hn2 := List.length_filter_le (fun x => !dropP k x) (l.take j)
    have hn3 : (l.take j).length ≤ 1000000 := by simp; omega
    refine J2.cut (fun t5 t6 w => Sat e w (ownS 37 6 Msg.cs t5 (((l.take (j + 1)).filter (dropP k)).map Kept.m) :: DR t6 ((l.take (j + 1)).filter fun x => !dropP k x) :: blk b3 35 k.cs ::
      blk g 138 [.int .i64 fl, v] :: DR v l :: R)) (fun k2 hcut => ?_) (fun t5 t6 w h6 => ?_)
    · refine dr_s h5 fun w4 h6 => ?_
      refine ncP_p (fld_at (ld1_at h6 3 rfl (v := v) rfl ?_))
      refine ixS_rd h6 4 rfl (fun g hg => own_rd hg) (fun _ => rfl) hx fun p hp => ?_
      refine fld_of hp fun p1 hp1 => ?_
      refine ldN_sub (us := x.cause.cs) h6 4 rfl hp1 (by rfl) rfl ?_
      refine ldN_at h6 2 (vs := k.cs) rfl (by rfl) rfl ?_
      refine ref01_Cmp_s h6 fun w5 h7 => ?_
      rw [filter_snoc hx, filter_snoc hx] at hcut
      refine lt_c (fun c2 => iff_t ?_) (fun c2 => iff_f ?_)
      · have hd : dropP k x = false := by rw [dropP_neg, decide_eq_true c2]; rfl
        rw [hd] at hcut
        refine ncP_p (fld_at (ld1_at h7 3 rfl (v := v) rfl ?_))
        refine ixS_rd h7 4 rfl (fun g hg => own_rd hg) (fun _ => rfl) hx fun p hp => ?_
        refine ldN_of h7 4 rfl hp rfl ?_
        refine push1 te_136 (f := Kept.cs) (fun _ => rfl) (fun _ => ints_flat _) (h7.pick 1 rfl) (x := x) rfl (by omega) fun v' w6 h8 => ?_
        refine hcut _ _ _ ?_
        simp only [Bool.false_eq_true, if_false, List.append_nil, Bool.not_false, if_true]
        exact h8.selR [_, _, _, _, _] [_, _, _, _, _] [1, 0, 2, 3, 4] (by decide) rfl
      · have hd : dropP k x = true := by rw [dropP_neg, decide_eq_false c2]; rfl
        rw [hd] at hcut
        refine ncP_p (fld_at (ld1_at h7 3 rfl (v := v) rfl ?_))
        refine ixS_rd h7 4 rfl (fun g hg => own_rd hg) (fun _ => rfl) hx fun p hp => ?_
        refine fld_of hp fun p1 hp1 => ?_
        refine ldN_sub (us := x.m.cs) h7 4 rfl hp1 (by rfl) rfl ?_
        refine push1 te_33 (f := Msg.cs) (fun _ => rfl) (fun _ => ints_flat _) h7 (x := x.m) rfl (by rw [List.length_map]; omega) fun v' w6 h8 => ?_
        refine hcut _ _ _ ?_
        simp only [Bool.not_true, Bool.false_eq_true, if_false, List.append_nil, if_true, List.map_append, List.map_cons, List.map_nil]
        exact h8
    · refine inc_s (by omega) ?_
      exact hg _ _ _ _ _ (by omega) ⟨j + 1, by omega, rfl, rfl, h6⟩
  · obtain rfl : j = l.length := by omega
    rw [List.take_length] at h5
    refine ncP_p (fld_at ?_)
    refine st1_at h5 3 rfl (h5.own_cells 1 rfl) (Nat.le_of_ble_eq_true rfl) rfl fun w4 h6 => ?_
    exact hk _ _ (Sat.swap (gateR_mk (h6.selR [_, _, _, _, _] [_, _, _] [3, 1, 0] (by decide) rfl)))

end Go.Proofs.YtbopajpmadlmhaaGreat
end
section
namespace Go.Proofs.YtbopajpmadlmhaaGreat
open Go Go.E
set_option maxRecDepth 100000
variable {e w : World} {R : List HP} {K : KV}

structure Ins (G : List Kept) (x : Kept) (i : Nat) (d : Bool) (c : List Kept) : Prop where
  no : d = false → c = G.take i ∧ ∀ z ∈ G.take i, ltC cfK x z = false
  yes : d = true → ∃ p y, p < i ∧ G[p]? = some y ∧ ltC cfK x y = true ∧ (∀ z ∈ G.take p, ltC cfK x z = false) ∧ c = G.take p ++ x :: (G.take i).drop p
theorem Ins.len {G : List Kept} {x : Kept} {i : Nat} {d : Bool} {c : List Kept} (h : Ins G x i d c) (_hi : i ≤ G.length) : c.length ≤ i + 1 := by
  cases d with
  | false => rw [(h.no rfl).1, List.length_take]; omega
  | true =>
    obtain ⟨p, y, hp, _, _, _, rfl⟩ := h.yes rfl
    simp only [List.length_append, List.length_cons, List.length_take, List.length_drop]
    omega
theorem Ins.done {G : List Kept} {x : Kept} {c : List Kept} (h : Ins G x G.length true c) (ha : Asc (ltC cfK) G) : c = mg (ltC cfK) G [x] := by
  obtain ⟨p, y, hp, hy, hxy, hlo, rfl⟩ := h.yes rfl
  rw [List.take_length]
  have hhi := asc_first orderedK ha hy hxy
  have := mg_one' hlo hhi
  rw [List.take_append_drop] at this
  exact this.symm
theorem Ins.push {G : List Kept} {x : Kept} {c : List Kept} (h : Ins G x G.length false c) : c ++ [x] = mg (ltC cfK) G [x] := by
  obtain ⟨rfl, hlo⟩ := h.no rfl
  rw [List.take_length] at hlo ⊢
  have := mg_one' (lt := ltC cfK) (y := x) (L1 := G) (L2 := []) hlo (fun _ h => by cases h)
  rw [List.append_nil] at this
  exact this.symm

theorem ref14_Open_s {g : Nat} {fl : Int} {l : List Kept} (t : Int) (hS : Sat e w (IsGateR g fl l :: R)) (hl : l.length ≤ 1000000)
    (hk : ∀ v w', Sat e w' (ownS 37 6 Msg.cs v ((openR l t).map Kept.m) :: IsGateR g (max fl t) (openL l t) :: R) → K v w') : Cl prog 85 #[.pointer (some ⟨g, 0, none⟩), .int .i64 t] w K := by
  obtain ⟨v, h1⟩ := gateR_open hS
  refine pacelineref14_Gate_Open_calls ?_
  unfold pacelineref14_Gate_Open
  refine bsl0 h1 Kept.cs fun v1 w2 h2 => ?_
  refine bsl0 h2 Kept.cs fun v2 w3 h3 => ?_
  refine lpi3 (fun z t5 t6 t7 w => ∃ j : Nat, j ≤ l.length ∧ t7 = .int .i64 j ∧ z = l.length - j ∧ Sat e w (DR t5 (stab (ltC cfK) ((l.take j).filter (openP t))) :: DR t6 ((l.take j).filter fun x => !openP t x) ::
      blk g 138 [.int .i64 fl, v] :: DR v l :: R)) l.length
    ⟨0, Nat.zero_le _, rfl, rfl, h3.selR [_, _, _, _] [_, _, _, _] [1, 0, 2, 3] (by decide) rfl⟩ ?_
  rintro z t5 t6 _ w g1 ⟨j, hj, rfl, rfl, h5⟩ hg
  refine ncP_p (fld_at (ld1_at h5 2 rfl (v := v) rfl ?_))
  refine lnS_rd h5 3 rfl (fun g hg => own_rd hg) ?_
  refine lt_c (fun c => iff_t ?_) (fun c => iff_f ?_)
  · obtain ⟨x, hx⟩ := get_of_lt (l := l) (j := j) (by omega)
    have hn1 := List.length_filter_le (openP t) (l.take j)
    have hn2 := List.length_filter_le (fun x => !openP t x) (l.take j)
    have hn3 : (l.take j).length ≤ 1000000 := by simp; omega
    refine J2.cut (fun t5 t6 w => Sat e w (DR t5 (stab (ltC cfK) ((l.take (j + 1)).filter (openP t))) :: DR t6 ((l.take (j + 1)).filter fun x => !openP t x) ::
      blk g 138 [.int .i64 fl, v] :: DR v l :: R)) (fun k2 hcut => ?_) (fun t5 t6 w h6 => ?_)
    · refine ncP_p (fld_at (ld1_at h5 2 rfl (v := v) rfl ?_))
      refine ixS_rd h5 3 rfl (fun g hg => own_rd hg) (fun _ => rfl) hx fun p hp => ?_
      refine ldN_of h5 3 rfl hp rfl ?_
      rw [zero_196]
      refine al_s (cs := ints [0, 0, 0, 0, 0, 0, 0, 0, 0]) h5 rfl fun b w4 h6 => ?_
      refine stN_at h6 0 rfl (vs := x.cs) rfl rfl (Nat.le_of_ble_eq_true rfl) (ints_flat _) (cs' := x.cs) (by kernel_rfl) fun w5 h7 => ?_
      replace h7 : Sat e w5 (blk b 196 x.cs :: DR t5 (stab (ltC cfK) ((l.take j).filter (openP t))) :: DR t6 ((l.take j).filter fun x => !openP t x) :: blk g 138 [.int .i64 fl, v] :: DR v l :: R) := h7
      refine fld_at (fld_at (ld1_at h7 0 rfl (v := .int .i64 x.cause.T) rfl ?_))
      rw [filter_snoc hx, filter_snoc hx] at hcut
      refine ge_c (fun c2 => iff_t ?_) (fun c2 => iff_f ?_)
      · have hd : openP t x = false := decide_eq_false (by omega)
        rw [hd] at hcut
        refine ldN_at h7 0 (vs := x.cs) rfl (by rfl) rfl ?_
        refine push1 te_136 (f := Kept.cs) (fun _ => rfl) (fun _ => ints_flat _) (h7.pick 2 rfl) (x := x) rfl (by omega) fun v' w6 h8 => ?_
        refine hcut _ _ _ ?_
        simp only [Bool.false_eq_true, if_false, List.append_nil, Bool.not_false, if_true]
        exact h8.selR [_, _, _, _, _] [_, _, _, _] [2, 0, 3, 4] (by decide) rfl
      · have hd : openP t x = true := decide_eq_true (by omega)
        rw [hd] at hcut
        simp only [Bool.not_true, Bool.false_eq_true, if_false, List.append_nil, if_true] at hcut
        rw [stab_append orderedK, stab_one] at hcut
        have hGl : (stab (ltC cfK) ((l.take j).filter (openP t))).length ≤ 1000000 := by rw [stab_length]; omega
        have hGa : Asc (ltC cfK) (stab (ltC cfK) ((l.take j).filter (openP t))) := stab_asc orderedK _
        generalize stab (ltC cfK) ((l.take j).filter (openP t)) = G at h7 hcut hGl hGa
        refine bsl0 h7 Kept.cs fun v3 w6 h8 => ?_
        refine lpi3 (fun z t9 t10 t11 w => ∃ (i : Nat) (d : Bool) (c : List Kept), i ≤ G.length ∧ t10 = .bool d ∧ t11 = .int .i64 i ∧ z = G.length - i ∧ Ins G x i d c ∧ Sat e w (DR t9 c :: blk b 196 x.cs :: DR t5 G ::
            DR t6 ((l.take j).filter fun x => !openP t x) :: blk g 138 [.int .i64 fl, v] :: DR v l :: R)) G.length
          ⟨0, false, [], Nat.zero_le _, rfl, rfl, rfl, ⟨fun _ => ⟨rfl, fun _ h => by cases h⟩, fun h => by cases h⟩, h8⟩ ?_
        rintro z t9 _ _ w g3 ⟨i, d, c, hi, rfl, rfl, rfl, hins, h9⟩ hg3
        have hcl := hins.len hi
        refine lnS_rd h9 2 rfl (fun g hg => own_rd hg) ?_
        refine lt_c (fun c3 => iff_t ?_) (fun c3 => iff_f ?_)
        · obtain ⟨y, hy⟩ := get_of_lt (l := G) (j := i) (by omega)
          have hlast : ∀ t9 c' d' w, c'.length ≤ i + 1 → Ins G x (i + 1) d' (c' ++ [y]) → Sat e w (DR t9 c' :: blk b 196 x.cs :: DR t5 G :: DR t6 ((l.take j).filter fun x => !openP t x) :: blk g 138 [.int .i64 fl, v] :: DR v l :: R) →
              ixS 9 t5 (.int .i64 (i : Int)) w fun t68 w => ldN 9 t68 w fun t69 w => bsl 196 9 1 (ints [0, 0, 0, 0, 0, 0, 0, 0, 0]).toArray [(0, t69)] w fun t70 w => apS prog #[136, 136] 136 t9 t70 w fun t71 w =>
                bi .add .i64 (.int .i64 (i : Int)) (Value.int IntKind.i64 1) w fun t47 w => g3 [t71, .bool d', t47] w := by
            intro t9 c' d' w hc' hins' h10
            refine ixS_rd h10 2 rfl (fun g hg => own_rd hg) (fun _ => rfl) hy fun p hp => ?_
            refine ldN_of h10 2 rfl hp rfl ?_
            refine push1 te_136 (f := Kept.cs) (fun _ => rfl) (fun _ => ints_flat _) h10 (x := y) rfl (by omega) fun v' w6 h11 => ?_
            refine inc_s (by omega) ?_
            exact hg3 _ _ _ _ _ (by omega) ⟨i + 1, d', c' ++ [y], by omega, rfl, rfl, rfl, hins', h11⟩
          refine dr_s h9 fun w7 h10 => ?_
          cases d with
          | true =>
            refine not_t (gd_ft (gd_ft (gd_ft (gd_ft (gd_ft (gd_ft (gd_ft (gd_ft (gd_ft (pk_f (iff_f ?_)))))))))))
            refine hlast _ c true _ hcl ⟨(fun h => by cases h), fun _ => ?_⟩ h10
            obtain ⟨p, y', hp, hy', hxy, hlo, rfl⟩ := hins.yes rfl
            refine ⟨p, y', by omega, hy', hxy, hlo, ?_⟩
            rw [take_snoc hy, List.drop_append_of_le_length (by rw [List.length_take]; omega)]
            simp
          | false =>
            obtain ⟨rfl, hlo⟩ := hins.no rfl
            refine not_f (gd_tt (fld_at (gd_tt (ldN_at h10 1 (vs := x.cause.cs) rfl (by rfl) rfl (gd_tt (gd_tt (gd_tt ?_)))))))
            refine ixS_rd h10 2 rfl (fun g hg => own_rd hg) (fun _ => rfl) hy fun p hp => ?_
            refine gd_tt (fld_of hp fun p1 hp1 => ?_)
            refine gd_tt (ldN_sub (us := y.cause.cs) h10 2 rfl hp1 (by rfl) rfl ?_)
            refine gd_tt (ref01_Cmp_s h10 fun w8 h11 => ?_)
            refine gd_tt (lt_c (fun c4 => pk_t (iff_t ?_)) (fun c4 => pk_t (iff_f ?_)))
            · refine ldN_at h11 1 (vs := x.cs) rfl (by rfl) rfl ?_
              refine push1 te_136 (f := Kept.cs) (fun _ => rfl) (fun _ => ints_flat _) h11 (x := x) rfl (by omega) fun v' w9 h12 => ?_
              refine hlast _ (G.take i ++ [x]) true _ (by rw [List.length_append, List.length_take]; simp; omega) ⟨(fun h => by cases h), fun _ => ⟨i, y, by omega, hy, decide_eq_true c4, hlo, ?_⟩⟩ h12
              rw [take_snoc hy, List.drop_append_of_le_length (by rw [List.length_take]; omega), List.drop_of_length_le (by rw [List.length_take]; omega)]
              simp
            · refine hlast _ (G.take i) false _ hcl ⟨fun _ => ⟨(take_snoc hy).symm, fun z hz => ?_⟩, fun h => by cases h⟩ h11
              rw [take_snoc hy] at hz
              rcases List.mem_append.1 hz with h | h
              · exact hlo z h
              · rw [List.mem_singleton.1 h]; exact decide_eq_false c4
        · obtain rfl : i = G.length := by omega
          cases d with
          | true =>
            refine not_t (iff_f (hcut _ _ _ ?_))
            rw [← hins.done hGa]
            exact h9.selR [_, _, _, _, _, _] [_, _, _, _] [0, 3, 4, 5] (by decide) rfl
          | false =>
            refine not_f (iff_t ?_)
            refine ldN_at h9 1 (vs := x.cs) rfl (by rfl) rfl ?_
            refine push1 te_136 (f := Kept.cs) (fun _ => rfl) (fun _ => ints_flat _) h9 (x := x) rfl (by omega) fun v' w9 h12 => ?_
            refine hcut _ _ _ ?_
            rw [← hins.push]
            exact h12.selR [_, _, _, _, _, _] [_, _, _, _] [0, 3, 4, 5] (by decide) rfl
    · refine inc_s (by omega) ?_
      exact hg _ _ _ _ _ (by omega) ⟨j + 1, by omega, rfl, rfl, h6⟩
  · obtain rfl : j = l.length := by omega
    rw [List.take_length] at h5
    have hfl := List.length_filter_le (openP t) l
    have hGl : (openR l t).length ≤ 1000000 := by unfold openR; rw [stab_length]; omega
    replace h5 : Sat e w (DR t5 (openR l t) :: DR t6 (openL l t) :: blk g 138 [.int .i64 fl, v] :: DR v l :: R) := h5
    generalize openR l t = G at h5 hGl hk
    refine bsl0 h5 Msg.cs fun v3 w6 h8 => ?_
    refine lpi2 (fun z t12 t13 w => ∃ i : Nat, i ≤ G.length ∧ t13 = .int .i64 i ∧ z = G.length - i ∧ Sat e w (ownS 37 6 Msg.cs t12 ((G.take i).map Kept.m) :: DR t5 G :: DR t6 (openL l t) :: blk g 138 [.int .i64 fl, v] :: DR v l :: R)) G.length
      ⟨0, Nat.zero_le _, rfl, rfl, h8⟩ ?_
    rintro z t12 _ w g6 ⟨i, hi, rfl, rfl, h9⟩ hg6
    refine lnS_rd h9 1 rfl (fun g hg => own_rd hg) ?_
    refine lt_c (fun c3 => iff_t ?_) (fun c3 => iff_f ?_)
    · obtain ⟨x, hx⟩ := get_of_lt (l := G) (j := i) (by omega)
      refine ixS_rd h9 1 rfl (fun g hg => own_rd hg) (fun _ => rfl) hx fun p hp => ?_
      refine fld_of hp fun p1 hp1 => ?_
      refine ldN_sub (us := x.m.cs) h9 1 rfl hp1 (by rfl) rfl ?_
      refine push1 te_33 (f := Msg.cs) (fun _ => rfl) (fun _ => ints_flat _) h9 (x := x.m) rfl (by simp; omega) fun v' w6 h8 => ?_
      refine inc_s (by omega) ?_
      refine hg6 _ _ _ _ (by omega) ⟨i + 1, by omega, rfl, rfl, ?_⟩
      rw [take_snoc hx, List.map_append]
      exact h8
    · obtain rfl : i = G.length := by omega
      rw [List.take_length] at h9
      refine ncP_p (fld_at ?_)
      refine st1_at h9 3 rfl (h9.own_cells 2 rfl) (Nat.le_of_ble_eq_true rfl) (cs' := [.int .i64 fl, t6]) rfl fun w7 h10 => ?_
      refine ncP_p (fld_at (ld1_at h10 3 rfl (v := .int .i64 fl) rfl ?_))
      refine max_s ?_
      refine ncP_p (fld_at ?_)
      refine stN_at h10 3 rfl (vs := [.int .i64 (max fl t)]) rfl rfl (Nat.le_of_ble_eq_true rfl) (by simp [flat]) (cs' := [.int .i64 (max fl t), t6]) rfl fun w8 h11 => ?_
      exact hk _ _ (Sat.swap (gateR_mk (h11.selR [_, _, _, _, _] [_, _, _] [3, 2, 0] (by decide) rfl)))
end Go.Proofs.YtbopajpmadlmhaaGreat
end
section
namespace Go.Proofs.YtbopajpmadlmhaaGreat
open Go Go.E
set_option maxRecDepth 100000
variable {e w : World} {L Q R : List HP} {K : KV} {S S2 : HP}

abbrev DE (v : Value) (xs : List EnX) : HP := ownS 113 10 EnX.cs v xs
theorem cloneE_s {v : Value} {l : List EnX} (i : Nat) (hi : L[i]? = some S) (hl : l.length ≤ 1000000) (hff : ∀ x ∈ l, flat x.ov = true) (hS : Sat e w L) (hr : ∀ g, S g → rdS 10 EnX.cs v l g)
    (hk : ∀ v' w', Sat e w' (DE v' l :: L) → K v' w') : Cl prog 120 #[v] w K := by
  refine slices_Clone_past_Entry_past_Entry_calls ?_
  unfold slices_Clone_past_Entry_past_Entry
  have h0 := hS.pick i hi
  obtain ⟨A, c, rfl, _⟩ := h0.shape 0 rfl hr
  cases A with
  | none =>
    refine ex_oV (w' := w) (v := .bool true) (by kernel_rfl) ?_
    obtain rfl := rd_nil h0 hr
    exact iff_t (hk _ _ (unpick hi (h0.own_nil 113 10 EnX.cs)))
  | some a =>
    refine ex_oV (w' := w) (v := .bool false) (by kernel_rfl) ?_
    refine iff_f ?_
    refine bsl0 h0 EnX.cs fun v1 w2 h2 => ?_
    refine apS_ownM te_115 und_115 (f := EnX.cs) (fun _ => rfl) (fun x hx => EnX.flat (hff x hx)) h2 hr (by simp; omega) fun v2 w3 h3 => ?_
    rw [List.nil_append] at h3
    exact hk _ _ (unpick hi h3)
theorem reverseE_s {v : Value} {xs : List EnX} (hl : xs.length ≤ 1000000) (hff : ∀ x ∈ xs, flat x.ov = true) (hS : Sat e w (DE v xs :: Q)) (hk : ∀ w', Sat e w' (DE v xs.reverse :: Q) → K (.tuple #[]) w') :
    Cl prog 173 #[v] w K := by
  refine slices_Reverse_past_Entry_past_Entry_calls ?_
  unfold slices_Reverse_past_Entry_past_Entry
  refine lnS_rd hS 0 rfl (fun g hg => own_rd hg) ?_
  refine sub_s (by omega) (by omega) ?_
  refine lpi2 (fun q t2 t3 w => ∃ (i : Nat) (l : List EnX), 2 * i ≤ xs.length ∧ t2 = .int .i64 i ∧ t3 = .int .i64 ((xs.length : Int) - 1 - i) ∧ q = xs.length - i ∧ l.length = xs.length ∧ (∀ p, p < xs.length → l[p]? = if p < i ∨ xs.length ≤ p + i then xs[xs.length - 1 - p]? else xs[p]?) ∧ Sat e w (DE v l :: Q)) xs.length
    ⟨0, xs, by omega, rfl, by rw [Int.natCast_zero, Int.sub_zero], rfl, rfl, fun p hp => by rw [if_neg (by omega)], hS⟩ ?_
  rintro q _ _ w g ⟨i, l, hi2, rfl, rfl, rfl, hl2, hget, h2⟩ hg
  refine lt_c (fun c => iff_t ?_) (fun c => iff_f ?_)
  · obtain ⟨j, hj⟩ : ∃ j : Nat, (xs.length : Int) - 1 - i = j := ⟨xs.length - 1 - i, by omega⟩
    rw [hj] at c ⊢
    have hij : i < j := by omega
    have hjl : j = xs.length - 1 - i := by omega
    have gi := hget i (by omega)
    have gj := hget j (by omega)
    rw [if_neg (by omega)] at gi gj
    obtain ⟨x, hx⟩ := get_of_lt (l := xs) (j := i) (by omega)
    obtain ⟨y, hy⟩ := get_of_lt (l := xs) (j := j) (by omega)
    rw [hx] at gi
    rw [hy] at gj
    have fx := hff x (List.mem_of_getElem? hx)
    have fy := hff y (List.mem_of_getElem? hy)
    refine dr_s h2 fun w3 h3 => ?_
    refine ixS_rd h3 0 rfl (fun g hg => own_rd hg) (fun _ => rfl) gj fun a ha => ldN_of h3 0 rfl ha rfl ?_
    refine ixS_rd h3 0 rfl (fun g hg => own_rd hg) (fun _ => rfl) gi fun a ha => ldN_of h3 0 rfl ha rfl ?_
    refine st_own' h3 0 rfl (fun _ => rfl) (by omega) (x := y) rfl (EnX.flat fy) fun w4 h4 => ?_
    refine st_own' h4 0 rfl (fun _ => rfl) (by rw [List.length_set]; omega) (x := x) rfl (EnX.flat fx) fun w5 h5 => ?_
    refine add_s (by omega) (by omega) (sub_s (by omega) (by omega) ?_)
    refine hg _ _ _ _ (by omega) ⟨i + 1, (l.set i y).set j x, by omega, by rw [Int.natCast_add]; rfl, by rw [← hj, Int.natCast_add]; congr 1; omega, rfl, by rw [List.length_set, List.length_set]; exact hl2, fun p hp => ?_, h5⟩
    rw [List.getElem?_set, List.getElem?_set]
    by_cases h1 : j = p
    · subst h1
      rw [if_pos rfl, if_pos (by rw [List.length_set]; omega), if_pos (by omega), show xs.length - 1 - j = i from by omega, hx]
    · rw [if_neg h1]
      by_cases h6 : i = p
      · subst h6
        rw [if_pos rfl, if_pos (by omega), if_pos (by omega), ← hjl, hy]
      · rw [if_neg h6, hget p hp]
        by_cases h7 : p < i ∨ xs.length ≤ p + i
        · rw [if_pos h7, if_pos (by omega)]
        · rw [if_neg h7, if_neg (by omega)]
  · have he : l = xs.reverse := by
      apply List.ext_getElem?
      intro p
      by_cases hp : p < xs.length
      · rw [hget p hp, List.getElem?_reverse hp]
        by_cases h7 : p < i ∨ xs.length ≤ p + i
        · rw [if_pos h7]
        · rw [if_neg h7]
          congr 1
          omega
      · rw [List.getElem?_eq_none (by omega), List.getElem?_eq_none (by rw [List.length_reverse]; omega)]
    rw [he] at h2
    exact hk _ h2
def keepE (k : Key) (l : List En) : List En := l.filter fun x => decide (KeyLt x.m.key k)
def goneL (k : Key) (l : List En) : List En := l.filter fun x => !decide (KeyLt x.m.key k)
def frontE (t : Int) (l : List En) : List En := l.filter fun x => decide (x.m.key.T < t)
def backE (t : Int) (l : List En) : List En := l.filter fun x => !decide (x.m.key.T < t)
theorem PastOk.sub {l l' : List En} (h : PastOk l) (s : l'.Sublist l) : PastOk l' := ⟨h.up.sublist s, Nat.le_trans s.length_le h.len, fun x hx => h.outs x (s.subset hx)⟩
theorem cut_en {P : En → Bool} {xs : List EnX} {l : List En} {m : Nat} (he : xs.map EnX.e = l) (h1 : ∀ x ∈ xs.take m, P x.e = true) (h2 : ∀ x ∈ xs.drop m, P x.e = false) :
    (xs.take m).map EnX.e = l.filter P ∧ (xs.drop m).map EnX.e = l.filter fun x => !P x := by
  subst he
  constructor
  · conv => rhs; rw [← List.take_append_drop m xs]
    rw [List.map_append, List.filter_append, List.filter_eq_self.2 fun x hx => by obtain ⟨y, hy, rfl⟩ := List.mem_map.1 hx; exact h1 y hy, List.filter_eq_nil_iff.2 fun x hx => by obtain ⟨y, hy, rfl⟩ := List.mem_map.1 hx; rw [h2 y hy]; decide, List.append_nil]
  · conv => rhs; rw [← List.take_append_drop m xs]
    rw [List.map_append, List.filter_append, List.filter_eq_nil_iff.2 fun x hx => by obtain ⟨y, hy, rfl⟩ := List.mem_map.1 hx; rw [h1 y hy]; decide, List.filter_eq_self.2 fun x hx => by obtain ⟨y, hy, rfl⟩ := List.mem_map.1 hx; rw [h2 y hy]; rfl, List.nil_append]
theorem up_at {xs : List EnX} {l : List En} (he : xs.map EnX.e = l) (hp : PastOk l) {i j : Nat} {x y : EnX} (hij : i ≤ j) (hx : xs[i]? = some x) (hy : xs[j]? = some y) : x = y ∨ KeyLt x.m.key y.m.key := by
  rcases Nat.eq_or_lt_of_le hij with rfl | hlt
  · rw [hx] at hy; exact .inl (Option.some.inj hy)
  · right
    subst he
    have h1 := List.pairwise_map.1 hp.up
    obtain ⟨hi', rfl⟩ := List.getElem?_eq_some_iff.1 hx
    obtain ⟨hj', rfl⟩ := List.getElem?_eq_some_iff.1 hy
    exact List.pairwise_iff_getElem.1 h1 i j hi' hj' hlt

theorem past_Back_s {p : Nat} {fl : Int} {l : List En} {k : Key} (hS : Sat e w (IsPast p fl l :: Q)) (hk : ∀ v w', Sat e w' (IsEns v (goneL k l).reverse :: IsPast p fl (keepE k l) :: Q) → K v w') :
    Cl prog 146 #[.pointer (some ⟨p, 0, none⟩), .agg k.cs.toArray] w K := by
  refine past_Past_Back_calls ?_
  unfold past_Past_Back
  obtain ⟨lv, xs, hp, h0⟩ := past_of hS
  have hxl : xs.length ≤ 64 := by have := hp.2.len; rw [← hp.1, List.length_map] at this; exact this
  have hfl : ∀ x ∈ xs, flat x.ov = true := fun x hx => en_flat 2 h0 rfl hx
  refine al_s (cs := k.cs) h0 rfl fun b w1 h1 => ?_
  refine ldN_at h1 0 (vs := k.cs) rfl (by rfl) rfl ?_
  refine many_s (P := fun x => decide (KeyLt x.m.key k)) hxl ⟨rfl, rfl⟩ (fun i j x y hij hx hy hP => ?_) (fun x w L K h hk => aheadF_s x k h hk) (h1.selR [_, _, _, _] [_, _, _, _] [1, 2, 3, 0] (by decide) rfl) fun m w2 hm hlo hhi h2 => ?_
  · rw [decide_eq_true_iff] at *
    rcases up_at hp.1 hp.2 hij hx hy with rfl | hlt
    · exact hP
    · exact hlt.trans hP
  obtain ⟨c1, c2⟩ := cut_en (P := fun x => decide (KeyLt x.m.key k)) hp.1 hlo hhi
  refine ncP_p (fld_at (ld1_at h2 0 rfl (v := lv) rfl ?_))
  refine slc_from h2 1 rfl (fun g hg => own_rd hg) (fun _ => rfl) hm fun v1 hv1 => ?_
  refine cloneE_s 1 rfl (by rw [List.length_drop]; omega) (fun x hx => hfl x (List.mem_of_mem_drop hx)) h2 hv1 fun v2 w3 h3 => ?_
  refine reverseE_s (by rw [List.length_drop]; omega) (fun x hx => hfl x (List.mem_of_mem_drop hx)) h3 fun w4 h4 => ?_
  refine ncP_p (fld_at (ld1_at h4 1 rfl (v := lv) rfl ?_))
  refine slc_own h4 2 rfl (fun _ => rfl) hm fun v3 h5 => ?_
  replace h5 : Sat e w4 (DE v2 (xs.drop m).reverse :: blk p 157 [.int .i64 fl, lv] :: DE v3 (xs.take m) :: sepL (xs.map eOwn) :: blk b 35 k.cs :: Q) := h5
  have q3 := h5.own_cells 2 rfl
  refine ncP_p (fld_at (stN_at h5 1 rfl (vs := [v3]) q3.1 rfl (Nat.le_of_ble_eq_true rfl) (fun c hc => by rw [List.mem_singleton.1 hc]; exact q3.2) (cs' := [.int .i64 fl, v3]) (by rfl) fun w5 h6 => ?_))
  replace h6 : Sat e w5 (DE v2 (xs.drop m).reverse :: blk p 157 [.int .i64 fl, v3] :: DE v3 (xs.take m) :: sepL (xs.map eOwn) :: blk b 35 k.cs :: Q) := h6
  rw [show xs.map eOwn = (xs.take m).map eOwn ++ (xs.drop m).map eOwn from by rw [← List.map_append, List.take_append_drop]] at h6
  have h7 := sepL_parts (h6.pick 3 rfl)
  have h8 := sepL_perm (b := (xs.drop m).reverse.map eOwn) (by rw [List.map_reverse]; exact (List.reverse_perm _).symm) h7.swap
  replace h8 : Sat e w5 (sepL ((xs.drop m).reverse.map eOwn) :: sepL ((xs.take m).map eOwn) :: DE v2 (xs.drop m).reverse :: blk p 157 [.int .i64 fl, v3] :: DE v3 (xs.take m) :: blk b 35 k.cs :: Q) := h8
  have h9 := past_mk (fl := fl) (lv := v3) (xs := xs.take m) (l := keepE k l) ⟨c1, hp.2.sub List.filter_sublist⟩ (h8.selR [_, _, _, _, _, _] [_, _, _, _, _] [3, 4, 1, 2, 0] (by decide) rfl)
  have h10 := ens_mk (v := v2) (xs := (xs.drop m).reverse) (h9.selR [_, _, _] [_, _, _] [1, 2, 0] (by decide) rfl)
  rw [show (xs.drop m).reverse.map EnX.e = (goneL k l).reverse from by rw [List.map_reverse, c2]; rfl] at h10
  exact hk _ _ h10
theorem past_Settle_s {p : Nat} {fl : Int} {l : List En} {t : Int} (hS : Sat e w (IsPast p fl l :: Q)) (hk : ∀ v w', Sat e w' (IsEns v (frontE t l) :: IsPast p (max fl t) (backE t l) :: Q) → K v w') :
    Cl prog 62 #[.pointer (some ⟨p, 0, none⟩), .int .i64 t] w K := by
  refine past_Past_Settle_calls ?_
  unfold past_Past_Settle
  obtain ⟨lv, xs, hp, h1⟩ := past_of hS
  have hxl : xs.length ≤ 64 := by have := hp.2.len; rw [← hp.1, List.length_map] at this; exact this
  have hfl : ∀ x ∈ xs, flat x.ov = true := fun x hx => en_flat 2 h1 rfl hx
  refine bld_s (ints [t, 0, 0]) (by kernel_rfl) ?_
  refine many_s (k := ⟨t, 0, 0⟩) (P := fun x => decide (x.m.key.T < t)) hxl ⟨rfl, rfl⟩ (fun i j x y hij hx hy hP => ?_) (fun x w L K h hk => earlyF_s x ⟨t, 0, 0⟩ h hk) h1 fun m w2 hm hlo hhi h2 => ?_
  · rw [decide_eq_true_iff] at *
    rcases up_at hp.1 hp.2 hij hx hy with rfl | hlt
    · exact hP
    · unfold KeyLt at hlt; omega
  obtain ⟨c1, c2⟩ := cut_en (P := fun x => decide (x.m.key.T < t)) hp.1 hlo hhi
  refine ncP_p (fld_at (ld1_at h2 0 rfl (v := lv) rfl ?_))
  refine slc_to h2 1 rfl (fun g hg => own_rd hg) (fun _ => rfl) hm fun v1 hv1 => ?_
  refine cloneE_s 1 rfl (by rw [List.length_take]; omega) (fun x hx => hfl x (List.mem_of_mem_take hx)) h2 hv1 fun v2 w3 h3 => ?_
  refine ncP_p (fld_at (ld1_at h3 1 rfl (v := lv) rfl ?_))
  refine slc_from h3 2 rfl (fun g hg => own_rd hg) (fun _ => rfl) hm fun v3 hv3 => ?_
  refine cloneE_s 2 rfl (by rw [List.length_drop]; omega) (fun x hx => hfl x (List.mem_of_mem_drop hx)) h3 hv3 fun v4 w4 h4 => ?_
  have q4 := h4.own_cells 0 rfl
  refine ncP_p (fld_at (stN_at h4 2 rfl (vs := [v4]) q4.1 rfl (Nat.le_of_ble_eq_true rfl) (fun c hc => by rw [List.mem_singleton.1 hc]; exact q4.2) (cs' := [.int .i64 fl, v4]) (by rfl) fun w5 h5 => ?_))
  refine ncP_p (fld_at (ld1_at h5 2 rfl (v := .int .i64 fl) rfl (max_s ?_)))
  refine ncP_p (fld_at (stN_at h5 2 rfl (vs := ints [max fl t]) rfl rfl (Nat.le_of_ble_eq_true rfl) (ints_flat _) (cs' := [.int .i64 (max fl t), v4]) (by rfl) fun w6 h6 => ?_))
  replace h6 : Sat e w6 (DE v4 (xs.drop m) :: DE v2 (xs.take m) :: blk p 157 [.int .i64 (max fl t), v4] :: DE lv xs :: sepL (xs.map eOwn) :: Q) := h6
  rw [show xs.map eOwn = (xs.take m).map eOwn ++ (xs.drop m).map eOwn from by rw [← List.map_append, List.take_append_drop]] at h6
  have h7 := sepL_parts (h6.pick 4 rfl)
  replace h7 : Sat e w6 (sepL ((xs.take m).map eOwn) :: sepL ((xs.drop m).map eOwn) :: DE v4 (xs.drop m) :: DE v2 (xs.take m) :: blk p 157 [.int .i64 (max fl t), v4] :: DE lv xs :: Q) := h7
  have h9 := past_mk (fl := max fl t) (lv := v4) (xs := xs.drop m) (l := backE t l) ⟨c2, hp.2.sub List.filter_sublist⟩ (h7.selR [_, _, _, _, _, _] [_, _, _, _, _] [4, 2, 1, 3, 0] (by decide) rfl)
  have h10 := ens_mk (v := v2) (xs := xs.take m) (h9.selR [_, _, _] [_, _, _] [1, 2, 0] (by decide) rfl)
  rw [c1] at h10
  exact hk _ _ h10
end Go.Proofs.YtbopajpmadlmhaaGreat
end
section
namespace Go.Proofs.YtbopajpmadlmhaaGreat
open Go Go.E
set_option maxRecDepth 100000
variable {e w : World} {L Q R : List HP} {K : KV} {S : HP}

theorem bO_run {op : BinOp} {t : TypeId} {xo yo : Operand} {x y v : Value} (h1 : (eqGuard op t xo yo x y).run prog w = .ok () w) (h2 : (binOp op t x y).run prog w = .ok v w) (hk : K v w) : bO prog op t xo yo x y w K :=
  ex_oV (w' := w) (v := v) (by simp only [Sem.run_bind, h1, Result.andThen_ok, h2]) hk
noncomputable def lacksB (t a : TypeId) : Bool := match prog.underlying a, prog.info? t, prog.info? a with
  | some (.interface want), some i, some j => !(Go.lacking want i.methods).isEmpty && (match j.zero with | some .nilIface => true | _ => false)
  | _, _, _ => false
noncomputable def hasB (t a : TypeId) : Bool := match prog.underlying a, prog.info? t with
  | some (.interface want), some i => (Go.lacking want i.methods).isEmpty
  | _, _ => false
theorem tyA_lacks {t a xt : TypeId} {v : Value} (h : lacksB t a = true) (hk : K (.tuple #[.nilIface, .bool false]) w) : tyA prog (.iface t v) xt a true w K := by
  unfold lacksB at h
  split at h
  · rename_i want i j hu hi hj
    rw [Bool.and_eq_true] at h
    have hz : j.zero = some .nilIface := by
      have := h.2
      split at this
      · assumption
      · cases this
    refine ex_oV (w' := w) (v := .tuple #[.nilIface, .bool false]) ?_ hk
    exact run_typeAssert_lacks hu hi hj hz fun e => by rw [e] at h; simp at h
  · cases h
theorem tyA_has {t a xt : TypeId} {v : Value} (h : hasB t a = true) (hk : K (.tuple #[.iface t v, .bool true]) w) : tyA prog (.iface t v) xt a true w K := by
  unfold hasB at h
  split at h
  · rename_i want i hu hi
    refine ex_oV (w' := w) (v := .tuple #[.iface t v, .bool true]) ?_ hk
    exact run_typeAssert_has hu hi (List.isEmpty_iff.1 h)
  · cases h
theorem isTypeOf (v : Value) (w : World) : (Extern.ReflectliteType.typeOf #[.iface 30 v]).run prog w = .ok (.iface 241 (.agg #[typeHandle prog 30])) w := by kernel_rfl
theorem typeOf_s {n : Value} (hk : K (.iface 241 (.agg #[typeHandle prog 30])) w) : Cl prog 150 #[.iface 30 n] w K := by
  have h8 := @run_callFunc_extern prog 150 _ Extern.ReflectliteType.typeOf Tryz.func150 (by kernel_rfl) (by kernel_rfl) (by kernel_rfl) (by kernel_rfl)
  unfold Cl
  refine ex_congr (s' := oV (pure (.iface 241 (.agg #[typeHandle prog 30])))) ?_ (ex_oV (w' := w) rfl hk)
  rw [h8]
  unfold oV
  simp only [Sem.run_bind, isTypeOf, Result.andThen_ok, Sem.run_pure]
theorem clI_run {P : Program} {x r : Value} {name : String} {args : Array Value} {w : World} {K : KV} (h : (invoke (.fn (.method name) #[]) (#[x] ++ args)).run P w = .ok (.value r) w) (hk : K r w) : clI P x name args w K := by
  unfold clI ex
  rw [h]
  exact hk
theorem runComp (w : World) : (invoke (.fn (.method "Comparable") #[]) (#[.iface 241 (.agg #[typeHandle prog 30])] ++ #[])).run prog w = .ok (.value (.bool true)) w := by kernel_rfl
theorem comp_s (hk : K (.bool true) w) : clI prog (.iface 241 (.agg #[typeHandle prog 30])) "Comparable" #[] w K :=
  @clI_run prog (.iface 241 (.agg #[typeHandle prog 30])) (.bool true) "Comparable" #[] w K (runComp w) hk

abbrev erV (t : Nat) : Value := .iface 206 (.pointer (some ⟨t, 0, none⟩))
abbrev noV (n : Int) : Value := .iface 30 (.int .i64 n)
def BT (t : Nat) (k : Key) (er : Int) : HP := blk t 208 (k.cs ++ [noV er])
theorem eqE_nil {n : Int} {xo yo : Operand} (hk : K (.bool false) w) : bO prog .eql 103 xo yo (noV n) .nilIface w K := ex_oV (w' := w) (v := .bool false) (by kernel_rfl) hk
theorem eqT_nil {t : Nat} {xo yo : Operand} (hk : K (.bool false) w) : bO prog .eql 103 xo yo (erV t) .nilIface w K := ex_oV (w' := w) (v := .bool false) (by kernel_rfl) hk
theorem neT_nil {t : Nat} {xo yo : Operand} (hk : K (.bool true) w) : bO prog .neq 103 xo yo (erV t) .nilIface w K := ex_oV (w' := w) (v := .bool true) (by kernel_rfl) hk
theorem neN_nil {a : Nat} (hk : K (.bool false) w) : bO prog .neq 103 (.tmp a) (.const .nilIface) .nilIface .nilIface w K := ex_oV (w' := w) (v := .bool false) (by kernel_rfl) hk
theorem eqN_nil {a : Nat} (hk : K (.bool true) w) : bO prog .eql 103 (.tmp a) (.const .nilIface) .nilIface .nilIface w K := ex_oV (w' := w) (v := .bool true) (by kernel_rfl) hk
theorem eqN_E {n : Int} {xo yo : Operand} (hk : K (.bool false) w) : bO prog .eql 103 xo yo .nilIface (noV n) w K := ex_oV (w' := w) (v := .bool false) (by kernel_rfl) hk
theorem eqT_E {t : Nat} {n : Int} {xo yo : Operand} (hk : K (.bool false) w) : bO prog .eql 103 xo yo (erV t) (noV n) w K := ex_oV (w' := w) (v := .bool false) (by kernel_rfl) hk
theorem eqE_E {a b : Int} {xo yo : Operand} (hk : K (.bool (a == b)) w) : bO prog .eql 103 xo yo (noV a) (noV b) w K :=
  bO_run (by kernel_rfl) (Lib.run_eql_iface_int w a b Tryz.underlying103 (by kernel_rfl) Tryz.underlying30) hk
theorem is_s {t : Nat} {k : Key} {er n : Int} (i : Nat) (hi : L[i]? = some (BT t k er)) (hS : Sat e w L) (hk : K (.bool (er == n)) w) : Cl prog 151 #[erV t, noV n, .bool true] w K := by
  refine errors_is_calls ?_
  unfold errors_is
  refine lpi1 (fun q x w' => ((q = 1 ∧ x = erV t) ∨ (q = 0 ∧ x = noV er)) ∧ w' = w) 1 ⟨.inl ⟨rfl, rfl⟩, rfl⟩ ?_
  rintro q x w' g ⟨hx, rfl⟩ hg
  refine gd_tt (gd_tt (gd_tt ?_))
  rcases hx with ⟨rfl, rfl⟩ | ⟨rfl, rfl⟩
  · refine eqT_E (pk_t (iff_f ?_))
    refine tyA_lacks (by kernel_rfl) (xt_02 (xt_12 ?_))
    refine gd_ft (gd_ft (gd_ft (pk_f (iff_f ?_))))
    refine tyA_has (by kernel_rfl) (xt_12 (xt_02 (iff_t ?_)))
    refine clI_s (f := 230) (rcv := .pointer (some ⟨t, 0, none⟩)) (by kernel_rfl) ?_
    refine warp_trouble_Unwrap_calls (t0 := .pointer (some ⟨t, 0, none⟩)) ?_
    unfold warp_trouble_Unwrap
    refine ncP_p (fld_at (ld1_at hS i hi (v := noV er) rfl ?_))
    refine eqE_nil (iff_f ?_)
    exact hg _ _ _ (by omega) ⟨.inr ⟨rfl, rfl⟩, rfl⟩
  · refine eqE_E (pk_t ?_)
    cases hb : (er == n) with
    | true => rw [hb] at hk; exact iff_t hk
    | false =>
      rw [hb] at hk
      refine iff_f (tyA_lacks (by kernel_rfl) (xt_02 (xt_12 ?_)))
      refine gd_ft (gd_ft (gd_ft (pk_f (iff_f ?_))))
      refine tyA_lacks (by kernel_rfl) (xt_12 (xt_02 (iff_f ?_)))
      exact tyA_lacks (by kernel_rfl) (xt_12 (xt_02 (iff_f hk)))
theorem Is_s {t : Nat} {k : Key} {er n : Int} (i : Nat) (hi : L[i]? = some (BT t k er)) (hS : Sat e w L) (hk : K (.bool (er == n)) w) : Cl prog 105 #[erV t, noV n] w K := by
  refine errors_Is_calls ?_
  unfold errors_Is
  refine eqT_nil (gd_ff (gd_ff (eqE_nil (pk_f (iff_f ?_)))))
  exact typeOf_s (comp_s (is_s i hi hS hk))
theorem Is_nil {n : Int} (hk : K (.bool false) w) : Cl prog 105 #[.nilIface, noV n] w K := by
  refine errors_Is_calls ?_
  unfold errors_Is
  exact eqN_nil (gd_tf (gd_tf (pk_t (iff_t (eqN_E hk)))))
def oneErr (er : Int) : Prop := er = 110 ∨ er = 3 ∨ er = 4 ∨ er = 2
theorem errno_s {t : Nat} {k : Key} {er : Int} (hS : Sat e w (BT t k er :: Q)) (he : oneErr er) (hk : ∀ w', Sat e w' Q → K (.int .i64 er) w') : Cl prog 50 #[erV t] w K := by
  refine warp_errno_calls ?_
  unfold warp_errno
  refine bsl_s (ints [110, 3, 4, 2]) hS (by kernel_rfl) fun b w2 h2 => ?_
  have hr : ∀ g, blk b 30 (ints [110, 3, 4, 2]) g → rdS 1 (intsK .i64) (.slice (some ⟨b, 0, none⟩) 4 4) [110, 3, 4, 2] g := blk_rdn (f := intsK .i64) [110, 3, 4, 2] rfl (Nat.le_refl _)
  refine lnS_rd h2 0 rfl hr ?_
  refine lpi1 (fun q x w' => ∃ j : Nat, x = .int .i64 j ∧ j ≤ 4 ∧ q = 4 - j ∧ (∀ n ∈ [(110 : Int), 3, 4, 2].take j, n ≠ er) ∧ w' = w2) 4 ⟨0, rfl, by omega, rfl, by simp, rfl⟩ ?_
  rintro q x w' g ⟨j, rfl, hj, rfl, hno, rfl⟩ hg
  refine lt_c (fun c => iff_t ?_) (fun c => iff_f ?_)
  · replace c : (j : Int) < 4 := c
    obtain ⟨n, hn⟩ := get_of_lt (l := [(110 : Int), 3, 4, 2]) (j := j) (by simp; omega)
    refine ixS_rd h2 0 rfl hr (fun _ => rfl) hn fun a ha => ld1_of h2 0 rfl ha (v := .int .i64 n) rfl ?_
    refine Is_s 1 rfl h2 ?_
    by_cases hen : er = n
    · rw [beq_iff_eq.2 hen]
      refine iff_t ?_
      rw [← hen]
      exact hk _ h2.drop.drop
    · rw [beq_eq_false_iff_ne.2 hen]
      refine iff_f (inc_s (by omega) ?_)
      refine hg _ _ _ (by omega) ⟨j + 1, rfl, by omega, rfl, fun y hy => ?_, rfl⟩
      rw [take_snoc hn] at hy
      rcases List.mem_append.1 hy with h | h
      · exact hno y h
      · rw [List.mem_singleton.1 h]; exact fun h => hen h.symm
  · exfalso
    replace c : ¬ (j : Int) < 4 := c
    have ej : j = 4 := by omega
    subst ej
    rcases he with rfl | rfl | rfl | rfl
    · exact hno 110 (by decide) rfl
    · exact hno 3 (by decide) rfl
    · exact hno 4 (by decide) rfl
    · exact hno 2 (by decide) rfl
theorem errno_nil (hS : Sat e w Q) (hk : ∀ w', Sat e w' Q → K (.int .i64 0) w') : Cl prog 50 #[.nilIface] w K := by
  refine warp_errno_calls ?_
  unfold warp_errno
  refine bsl_s (ints [110, 3, 4, 2]) hS (by kernel_rfl) fun b w2 h2 => ?_
  have hr : ∀ g, blk b 30 (ints [110, 3, 4, 2]) g → rdS 1 (intsK .i64) (.slice (some ⟨b, 0, none⟩) 4 4) [110, 3, 4, 2] g := blk_rdn (f := intsK .i64) [110, 3, 4, 2] rfl (Nat.le_refl _)
  refine lnS_rd h2 0 rfl hr ?_
  refine lpi1 (fun q x w' => ∃ j : Nat, x = .int .i64 j ∧ j ≤ 4 ∧ q = 4 - j ∧ w' = w2) 4 ⟨0, rfl, by omega, rfl, rfl⟩ ?_
  rintro q x w' g ⟨j, rfl, hj, rfl, rfl⟩ hg
  refine lt_c (fun c => iff_t ?_) (fun c => iff_f (hk _ h2.drop))
  replace c : (j : Int) < 4 := c
  obtain ⟨n, hn⟩ := get_of_lt (l := [(110 : Int), 3, 4, 2]) (j := j) (by simp; omega)
  refine ixS_rd h2 0 rfl hr (fun _ => rfl) hn fun a ha => ld1_of h2 0 rfl ha (v := .int .i64 n) rfl ?_
  refine Is_nil (iff_f (inc_s (by omega) ?_))
  exact hg _ _ _ (by omega) ⟨j + 1, rfl, by omega, rfl, rfl⟩
theorem late_s {k : Key} {er : Int} (hS : Sat e w Q) (hk : ∀ t w', Sat e w' (BT t k er :: Q) → K (erV t) w') : Cl prog 100 #[.agg k.cs.toArray, .int .i64 er] w K := by
  refine warp_late_calls ?_
  unfold warp_late
  refine al_s (cs := k.cs) hS rfl fun b w1 h1 => ?_
  refine ldN_at h1 0 (vs := k.cs) rfl (by rfl) rfl ?_
  refine bld_s (k.cs ++ [noV er]) (by kernel_rfl) ?_
  refine al_s (cs := k.cs ++ [noV er]) h1 rfl fun t w2 h2 => ?_
  exact hk t _ (h2.selR [_, _] [_] [0] (by decide) rfl)
end Go.Proofs.YtbopajpmadlmhaaGreat
end
section
namespace Go.Proofs.YtbopajpmadlmhaaGreat
open Go Go.E
set_option maxRecDepth 100000
variable {e w : World} {L Q R : List HP} {K : KV} {S S2 : HP}

abbrev DER (v : Value) (xs : List EnX) : HP := ownS 140 10 EnX.cs v xs
abbrev PB (p : Nat) (fl : Int) (lv : Value) : HP := blk p 130 [.int .i64 fl, lv]
def IsPastR (p : Nat) (fl : Int) (l : List En) : HP := hex fun v : PV => sepL [pur (v.xs.map EnX.e = l ∧ PastOk l), PB p fl v.lv, DER v.lv v.xs, sepL (v.xs.map eOwn)]
theorem pastR_of {p : Nat} {fl : Int} {l : List En} (h : Sat e w (IsPastR p fl l :: R)) : ∃ lv xs, (xs.map EnX.e = l ∧ PastOk l) ∧ Sat e w (PB p fl lv :: DER lv xs :: sepL (xs.map eOwn) :: R) := by
  obtain ⟨v, h0⟩ := h.ex
  exact ⟨v.lv, v.xs, Sat.pure h0.split⟩
theorem pastR_mk {p : Nat} {fl : Int} {l : List En} {lv : Value} {xs : List EnX} (hp : xs.map EnX.e = l ∧ PastOk l) (h : Sat e w (PB p fl lv :: DER lv xs :: sepL (xs.map eOwn) :: R)) : Sat e w (IsPastR p fl l :: R) :=
  .mk_ex ⟨lv, xs⟩ (.join (l' := [_, _, _, _]) (.mk_pure hp h))
def IsEnsR (v : Value) (l : List En) : HP := hex fun xs : List EnX => sepL [pur (xs.map EnX.e = l), DER v xs, sepL (xs.map eOwn)]
theorem ensR_of {v : Value} {l : List En} (h : Sat e w (IsEnsR v l :: R)) : ∃ xs, xs.map EnX.e = l ∧ Sat e w (DER v xs :: sepL (xs.map eOwn) :: R) := by
  obtain ⟨xs, h0⟩ := h.ex
  exact ⟨xs, Sat.pure h0.split⟩
theorem ensR_mk {v : Value} {xs : List EnX} (h : Sat e w (DER v xs :: sepL (xs.map eOwn) :: R)) : Sat e w (IsEnsR v (xs.map EnX.e) :: R) := .mk_ex xs (.join (l' := [_, _, _]) (.mk_pure rfl h))

theorem ref13_New_s (hS : Sat e w R) (hk : ∀ p w', Sat e w' (IsPastR p 0 [] :: R) → K (.pointer (some ⟨p, 0, none⟩)) w') : Cl prog 72 #[] w K := by
  refine pacelineref13_New_calls ?_
  unfold pacelineref13_New
  refine bld_s [.int .i64 0, .slice none 0 0] (by kernel_rfl) ?_
  refine al_s (cs := [.int .i64 0, .slice none 0 0]) hS rfl fun p w1 h1 => ?_
  refine hk p _ (pastR_mk (lv := .slice none 0 0) (xs := []) ⟨rfl, .nil, by simp, by simp⟩ ?_)
  have h2 : Sat e w1 (sepL [] :: PB p 0 (.slice none 0 0) :: R) := Sat.join (l' := []) h1
  have h3 := h2.own_nil 140 10 EnX.cs
  exact h3.selR [_, _, _] [_, _, _] [2, 0, 1] (by decide) rfl
theorem last13_s {p b : Nat} {fl : Int} {lv : Value} {xs : List EnX} {x : EnX} {F : Value → World → Prop} (h2 : ∀ y, xs.getLast? = some y → KeyLt y.m.key x.m.key) (hS : Sat e w (blk b 140 x.cs :: PB p fl lv :: DER lv xs :: Q)) (hl : xs.length ≤ 1000) (hk : ∀ w', Sat e w' (blk b 140 x.cs :: PB p fl lv :: DER lv xs :: Q) → F (.bool false) w') :
    bi .gtr .i64 (.int .i64 (xs.length : Int)) (Value.int IntKind.i64 0) w fun t22 _ =>
    gd t22 true (fun k => k (.pointer (some ⟨p, 0, none⟩)) w) w fun t24 _ =>
    gd t22 true (fun k => nc t24 w k) w fun t25 _ =>
    gd t22 true (fun k => fld 1 t25 w k) w fun t26 _ =>
    gd t22 true (fun k => ld1 t26 w k) w fun t27 _ =>
    gd t22 true (fun k => k (.int .i64 (xs.length : Int)) w) w fun t28 _ =>
    gd t22 true (fun k => bi .sub .i64 t28 (Value.int IntKind.i64 1) w k) w fun t29 _ =>
    gd t22 true (fun k => ixS 10 t27 t29 w k) w fun t30 _ =>
    gd t22 true (fun k => fld 0 t30 w k) w fun t31 _ =>
    gd t22 true (fun k => fld 0 t31 w k) w fun t32 _ =>
    gd t22 true (fun k => ldN 3 t32 w k) w fun t33 _ =>
    gd t22 true (fun k => fld 0 (.pointer (some ⟨b, 0, none⟩)) w k) w fun t34 _ =>
    gd t22 true (fun k => fld 0 t34 w k) w fun t35 _ =>
    gd t22 true (fun k => ldN 3 t35 w k) w fun t36 _ =>
    gd t22 true (fun k => Cl prog 29 #[t33, t36] w k) w fun t37 w =>
    gd t22 true (fun k => bi .geq .i64 t37 (Value.int IntKind.i64 0) w k) w fun t38 _ =>
    pk t22 t38 (Value.bool false) w fun t39 _ => F t39 w := by
  refine gt_c (fun c => ?_) (fun c => ?_)
  · obtain ⟨y, hy⟩ := get_of_lt (l := xs) (j := xs.length - 1) (by omega)
    have hlast : xs.getLast? = some y := by rw [List.getLast?_eq_getElem?]; exact hy
    refine gd_tt (gd_tt (nc_p (gd_tt (fld_at (gd_tt (ld1_at hS 1 rfl (v := lv) rfl (gd_tt (gd_tt (sub_s (by omega) (by omega) ?_))))))))) 
    rw [show (xs.length : Int) - 1 = ((xs.length - 1 : Nat) : Int) from by omega]
    refine gd_tt (ixS_rd hS 2 rfl (fun g hg => own_rd hg) (fun _ => rfl) hy fun a ha => gd_tt (fld_of ha fun a1 ha1 => gd_tt (fld_of ha1 fun a2 ha2 => gd_tt (ldN_sub hS 2 rfl ha2 (us := y.m.key.cs) rfl rfl ?_))))
    refine gd_tt (fld_at (gd_tt (fld_at (gd_tt (ldN_at hS 0 (vs := x.m.key.cs) rfl (by rfl) rfl (gd_tt ?_))))))
    refine ref01_Cmp_s hS fun w2 h3 => ?_
    have hlt := cmpK_lt.2 (h2 y hlast)
    exact gd_tt (ge_f (by omega) (pk_t (hk _ h3)))
  · exact gd_ft (gd_ft (gd_ft (gd_ft (gd_ft (gd_ft (gd_ft (gd_ft (gd_ft (gd_ft (gd_ft (gd_ft (gd_ft (gd_ft (gd_ft (pk_f (hk _ hS))))))))))))))))
theorem ref13_Push_s {p : Nat} {fl : Int} {lv : Value} {xs : List EnX} {x : EnX} (hov : flat x.ov = true) (hfx : ∀ y ∈ xs, flat y.ov = true) (h1 : ¬ x.m.key.T < fl) (h2 : ∀ y, xs.getLast? = some y → KeyLt y.m.key x.m.key) (h3 : xs.length < 64)
    (hS : Sat e w (PB p fl lv :: DER lv xs :: Q)) (hk : ∀ lv' w', Sat e w' (PB p fl lv' :: DER lv' (xs ++ [x]) :: Q) → K (.int .i64 0) w') : Cl prog 82 #[.pointer (some ⟨p, 0, none⟩), .agg x.cs.toArray] w K := by
  refine pacelineref13_Past_Push_calls ?_
  unfold pacelineref13_Past_Push
  refine al_s (cs := x.cs) hS rfl fun b w1 h4 => ?_
  refine dr_s h4 fun w2 h5 => ?_
  refine fld_at (fld_at (fld_at (ld1_at h5 0 rfl (v := .int .i64 x.m.key.T) rfl ?_)))
  refine ncP_p (fld_at (ld1_at h5 1 rfl (v := .int .i64 fl) rfl (lt_f h1 (iff_f ?_))))
  refine ncP_p (fld_at (ld1_at h5 1 rfl (v := lv) rfl ?_))
  refine lnS_rd h5 2 rfl (fun g hg => own_rd hg) ?_
  refine dr_s h5 fun w3 h6 => ?_
  refine last13_s h2 h6 (by omega) fun w4 h7 => ?_
  refine iff_f (ge_f (by omega) (iff_f ?_))
  refine bsl0 h7 EnX.cs fun v42 w5 h8 => ?_
  refine ncP_p (fld_at (ld1_at h8 2 rfl (v := lv) rfl ?_))
  refine apS_ownM te_128 te_128.und (f := EnX.cs) (m := xs) (fun _ => rfl) (fun y hy => EnX.flat (hfx y hy)) (h8.selR [_, _, _, _] [_, _, _, _] [0, 3, 1, 2] (by decide) rfl) (fun g hg => own_rd hg) (by simp; omega) fun v48 w6 h9 => ?_
  rw [List.nil_append] at h9
  refine ldN_at h9 2 (vs := x.cs) rfl (by rfl) rfl ?_
  refine bsl1 (vs := x.cs) rfl rfl h9 fun bb w7 h10 => ?_
  refine apS_ownM te_128 te_128.und (f := EnX.cs) (m := [x]) (fun _ => rfl) (fun y hy c hc => by rw [List.mem_singleton.1 hy] at hc; exact EnX.flat hov c hc) h10.swap (blk_rd1 (f := EnX.cs) (x := x) (Nat.le_refl _)) (by simp; omega) fun lv' w8 h11 => ?_
  have q1 := h11.own_cells 0 rfl
  refine ncP_p (fld_at (stN_at h11 4 rfl (vs := [lv']) q1.1 rfl (Nat.le_of_ble_eq_true rfl) (fun c hc => by rw [List.mem_singleton.1 hc]; exact q1.2) (cs' := [.int .i64 fl, lv']) (by rfl) fun w9 h12 => ?_))
  exact hk lv' _ (h12.selR [_, _, _, _, _] [_, _] [4, 0] (by decide) rfl)
theorem parts_gen {α : Type} {p : α → Bool} : ∀ {l : List α}, (l.Pairwise fun a b => p b = true → p a = true) → l.filter p ++ l.filter (fun x => !p x) = l
  | [], _ => rfl
  | a :: l, h => by
    obtain ⟨h1, h2⟩ := List.pairwise_cons.1 h
    have ih := parts_gen h2
    cases hp : p a with
    | true => rw [List.filter_cons_of_pos hp, List.filter_cons_of_neg (by rw [hp]; decide), List.cons_append, ih]
    | false =>
      have h3 : l.filter p = [] := List.filter_eq_nil_iff.2 fun x hx hpx => by rw [h1 x hx hpx] at hp; cases hp
      have h4 : l.filter (fun x => !p x) = l := by rw [h3, List.nil_append] at ih; exact ih
      rw [List.filter_cons_of_neg (by rw [hp]; decide), List.filter_cons_of_pos (by rw [hp]; rfl), h3, h4]
      rfl
theorem push13 {v y : Value} {xs : List EnX} {x : EnX} {zero : Array Value} (hx : flat x.ov = true) (hl : xs.length ≤ 1000) (hy : y.cells.toList = x.cs) (hS : Sat e w (DER v xs :: Q)) (hk : ∀ v' w', Sat e w' (DER v' (xs ++ [x]) :: Q) → K v' w') :
    bsl 140 10 1 zero [(0, y)] w fun t w => apS prog #[128, 128] 128 v t w K := by
  refine bsl1 (vs := x.cs) hy rfl hS fun bb w7 h10 => ?_
  refine apS_ownM te_128 te_128.und (f := EnX.cs) (m := [x]) (fun _ => rfl) (fun y hy c hc => by rw [List.mem_singleton.1 hy] at hc; exact EnX.flat hx c hc) h10.swap (blk_rd1 (f := EnX.cs) (x := x) (Nat.le_refl _)) (by simp; omega) fun lv' w8 h11 => ?_
  exact hk _ _ (h11.swap.drop)
theorem ref13_Back_s {p : Nat} {fl : Int} {l : List En} {k : Key} (hS : Sat e w (IsPastR p fl l :: Q)) (hk : ∀ v w', Sat e w' (IsEnsR v (goneL k l).reverse :: IsPastR p fl (keepE k l) :: Q) → K v w') :
    Cl prog 130 #[.pointer (some ⟨p, 0, none⟩), .agg k.cs.toArray] w K := by
  refine pacelineref13_Past_Back_calls ?_
  unfold pacelineref13_Past_Back
  obtain ⟨lv, xs, hp, h0⟩ := pastR_of hS
  have hxl : xs.length ≤ 64 := by have := hp.2.len; rw [← hp.1, List.length_map] at this; exact this
  have hfl : ∀ x ∈ xs, flat x.ov = true := fun x hx => en_flat 2 h0 rfl hx
  obtain ⟨P, hP⟩ : ∃ P : EnX → Bool, P = fun x => decide (KeyLt x.m.key k) := ⟨_, rfl⟩
  have hPk : ∀ x : EnX, P x = decide (KeyLt x.m.key k) := fun x => by rw [hP]
  have hup : xs.Pairwise fun a b => KeyLt a.m.key b.m.key := by
    have h1 := hp.2.up
    rw [← hp.1] at h1
    have h2 := List.pairwise_map.1 h1
    exact h2
  have hparts : xs.filter P ++ xs.filter (fun x => !P x) = xs := parts_gen (hup.imp fun {a b} hab hb => by
    rw [hPk, decide_eq_true_iff] at *
    exact hab.trans hb)
  have ef : xs.map EnX.e = l := hp.1
  have ek : (xs.filter P).map EnX.e = keepE k l := by rw [← ef, hP]; unfold keepE; rw [List.filter_map]; rfl
  have eg : (xs.filter fun x => !P x).map EnX.e = goneL k l := by rw [← ef, hP]; unfold goneL; rw [List.filter_map]; rfl
  refine al_s (cs := k.cs) h0 rfl fun b w1 h1 => ?_
  refine bsl0 h1 EnX.cs fun t9 w2 h2 => ?_
  refine bsl0 h2 EnX.cs fun t10 w3 h3 => ?_
  refine lpi2 (fun q t6 t7 w => ∃ j : Nat, j ≤ xs.length ∧ t7 = .int .i64 j ∧ q = xs.length - j ∧ Sat e w (DER t6 ((xs.take j).filter P) :: DER t9 [] :: blk b 35 k.cs :: PB p fl lv :: DER lv xs :: sepL (xs.map eOwn) :: Q)) xs.length ⟨0, Nat.zero_le _, rfl, rfl, h3⟩ ?_
  rintro q t6 _ w g1 ⟨j, hj, rfl, rfl, h4⟩ hg
  refine ncP_p (fld_at (ld1_at h4 3 rfl (v := lv) rfl ?_))
  refine lnS_rd h4 4 rfl (fun g hg => own_rd hg) ?_
  refine lt_c (fun c => iff_t ?_) (fun c => iff_f ?_)
  · obtain ⟨x, hx⟩ := get_of_lt (l := xs) (j := j) (by omega)
    have hfil : ((xs.take j).filter P).length ≤ 64 := Nat.le_trans (List.length_filter_le _ _) (by rw [List.length_take]; omega)
    refine J1.cut (fun t6 w => Sat e w (DER t6 ((xs.take (j + 1)).filter P) :: DER t9 [] :: blk b 35 k.cs :: PB p fl lv :: DER lv xs :: sepL (xs.map eOwn) :: Q)) (fun k2 hcut => ?_) (fun t6 w h6 => ?_)
    · rw [filter_snoc hx] at hcut
      refine dr_s h4 fun w4 h5 => ?_
      refine ncP_p (fld_at (ld1_at h5 3 rfl (v := lv) rfl ?_))
      refine ixS_rd h5 4 rfl (fun g hg => own_rd hg) (fun _ => rfl) hx fun a ha => fld_of ha fun a1 ha1 => fld_of ha1 fun a2 ha2 => ldN_sub h5 4 rfl ha2 (us := x.m.key.cs) rfl rfl ?_
      refine ldN_at h5 2 (vs := k.cs) rfl (by rfl) rfl ?_
      refine ref01_Cmp_s h5 fun w5 h6 => ?_
      refine lt_c (fun c2 => iff_t ?_) (fun c2 => iff_f ?_)
      · rw [show P x = true from by rw [hPk]; exact decide_eq_true (cmpK_lt.1 c2)] at hcut
        refine ncP_p (fld_at (ld1_at h6 3 rfl (v := lv) rfl ?_))
        refine ixS_rd h6 4 rfl (fun g hg => own_rd hg) (fun _ => rfl) hx fun a ha => ldN_of h6 4 rfl ha rfl ?_
        refine push13 (x := x) (hfl x (List.mem_of_getElem? hx)) (by omega) rfl h6 fun v' w7 h7 => ?_
        exact hcut _ _ h7
      · rw [show P x = false from by rw [hPk]; exact decide_eq_false fun h => c2 (cmpK_lt.2 h)] at hcut
        refine hcut _ _ ?_
        rw [if_neg (by decide), List.append_nil]
        exact h6
    · refine inc_s (by omega) ?_
      exact hg _ _ _ _ (by omega) ⟨j + 1, by omega, rfl, rfl, h6⟩
  · obtain rfl : j = xs.length := by omega
    rw [List.take_length] at h4
    obtain ⟨m, hm⟩ : ∃ m, m = (xs.filter P).length := ⟨_, rfl⟩
    have hml : m ≤ xs.length := by rw [hm]; exact List.length_filter_le _ _
    have hdrop : xs.drop m = xs.filter fun x => !P x := by
      conv => lhs; rw [← hparts]
      rw [hm, List.drop_left]
    refine ncP_p (fld_at (ld1_at h4 3 rfl (v := lv) rfl ?_))
    refine lnS_rd h4 4 rfl (fun g hg => own_rd hg) ?_
    refine sub_s (by omega) (by omega) ?_
    refine lpi2 (fun q t5 t8 w => ∃ i : Nat, m ≤ i ∧ i ≤ xs.length ∧ t8 = .int .i64 ((i : Int) - 1) ∧ q = i ∧ Sat e w (DER t5 (xs.drop i).reverse :: DER t6 (xs.filter P) :: blk b 35 k.cs :: PB p fl lv :: DER lv xs :: sepL (xs.map eOwn) :: Q)) xs.length
      ⟨xs.length, hml, Nat.le_refl _, rfl, rfl, by rw [List.drop_length]; exact h4.swap⟩ ?_
    rintro q t5 _ w g3 ⟨i, hi1, hi2, rfl, hq, h5⟩ hg3
    refine lnS_rd h5 1 rfl (fun g hg => own_rd hg) ?_
    refine ge_c (fun c1 => iff_t ?_) (fun c1 => iff_f ?_)
    · obtain ⟨i', rfl⟩ : ∃ i', i = i' + 1 := ⟨i - 1, by omega⟩
      obtain ⟨x, hx⟩ := get_of_lt (l := xs) (j := i') (by omega)
      rw [show ((i' + 1 : Nat) : Int) - 1 = (i' : Int) from by omega] at c1 ⊢
      refine ncP_p (fld_at (ld1_at h5 3 rfl (v := lv) rfl ?_))
      refine ixS_rd h5 4 rfl (fun g hg => own_rd hg) (fun _ => rfl) hx fun a ha => ldN_of h5 4 rfl ha rfl ?_
      refine push13 (x := x) (hfl x (List.mem_of_getElem? hx)) (by rw [List.length_reverse, List.length_drop]; omega) rfl h5 fun v' w7 h7 => ?_
      refine sub_s (by omega) (by omega) ?_
      refine hg3 _ _ _ _ (by omega) ⟨i', by omega, by omega, rfl, rfl, ?_⟩
      rw [drop_cons hx, List.reverse_cons]
      exact h7
    · obtain rfl : i = m := by omega
      have q3 := h5.own_cells 1 rfl
      refine ncP_p (fld_at (stN_at h5 3 rfl (vs := [t6]) q3.1 rfl (Nat.le_of_ble_eq_true rfl) (fun c hc => by rw [List.mem_singleton.1 hc]; exact q3.2) (cs' := [.int .i64 fl, t6]) (by rfl) fun w5 h6 => ?_))
      replace h6 : Sat e w5 (DER t5 (xs.drop i).reverse :: DER t6 (xs.filter P) :: blk b 35 k.cs :: PB p fl t6 :: DER lv xs :: sepL (xs.map eOwn) :: Q) := h6
      rw [hdrop] at h6
      rw [show xs.map eOwn = (xs.filter P).map eOwn ++ (xs.filter fun x => !P x).map eOwn from by rw [← List.map_append, hparts]] at h6
      have h7 := sepL_parts (h6.pick 5 rfl)
      have h8 := sepL_perm (b := (xs.filter fun x => !P x).reverse.map eOwn) (by rw [List.map_reverse]; exact (List.reverse_perm _).symm) h7.swap
      replace h8 : Sat e w5 (sepL ((xs.filter fun x => !P x).reverse.map eOwn) :: sepL ((xs.filter P).map eOwn) :: DER t5 (xs.filter fun x => !P x).reverse :: DER t6 (xs.filter P) :: blk b 35 k.cs :: PB p fl t6 :: DER lv xs :: Q) := h8
      have h9 := pastR_mk (fl := fl) (lv := t6) (xs := xs.filter P) (l := keepE k l) ⟨ek, hp.2.sub List.filter_sublist⟩ (h8.selR [_, _, _, _, _, _, _] [_, _, _, _, _] [5, 3, 1, 2, 0] (by decide) rfl)
      have h10 := ensR_mk (v := t5) (xs := (xs.filter fun x => !P x).reverse) (h9.selR [_, _, _] [_, _, _] [1, 2, 0] (by decide) rfl)
      rw [show (xs.filter fun x => !P x).reverse.map EnX.e = (goneL k l).reverse from by rw [List.map_reverse, eg]] at h10
      exact hk _ _ h10
theorem ref13_Settle_s {p : Nat} {fl : Int} {l : List En} {t : Int} (hS : Sat e w (IsPastR p fl l :: Q)) (hk : ∀ v w', Sat e w' (IsEnsR v (frontE t l) :: IsPastR p (max fl t) (backE t l) :: Q) → K v w') :
    Cl prog 84 #[.pointer (some ⟨p, 0, none⟩), .int .i64 t] w K := by
  refine pacelineref13_Past_Settle_calls ?_
  unfold pacelineref13_Past_Settle
  obtain ⟨lv, xs, hp, h0⟩ := pastR_of hS
  have hxl : xs.length ≤ 64 := by have := hp.2.len; rw [← hp.1, List.length_map] at this; exact this
  have hfl : ∀ x ∈ xs, flat x.ov = true := fun x hx => en_flat 2 h0 rfl hx
  obtain ⟨P, hP⟩ : ∃ P : EnX → Bool, P = fun x => decide (x.m.key.T < t) := ⟨_, rfl⟩
  have hPk : ∀ x : EnX, P x = decide (x.m.key.T < t) := fun x => by rw [hP]
  have ef : xs.map EnX.e = l := hp.1
  have ek : (xs.filter P).map EnX.e = frontE t l := by rw [← ef, hP]; unfold frontE; rw [List.filter_map]; rfl
  have eg : (xs.filter fun x => !P x).map EnX.e = backE t l := by rw [← ef, hP]; unfold backE; rw [List.filter_map]; rfl
  refine bsl0 h0 EnX.cs fun t8 w2 h2 => ?_
  refine bsl0 h2 EnX.cs fun t9 w3 h3 => ?_
  refine lpi3 (fun q t5 t6 t7 w => ∃ j : Nat, j ≤ xs.length ∧ t7 = .int .i64 j ∧ q = xs.length - j ∧ Sat e w (DER t6 ((xs.take j).filter fun x => !P x) :: DER t5 ((xs.take j).filter P) :: PB p fl lv :: DER lv xs :: sepL (xs.map eOwn) :: Q)) xs.length ⟨0, Nat.zero_le _, rfl, rfl, h3⟩ ?_
  rintro q t5 t6 _ w g1 ⟨j, hj, rfl, rfl, h4⟩ hg
  refine ncP_p (fld_at (ld1_at h4 2 rfl (v := lv) rfl ?_))
  refine lnS_rd h4 3 rfl (fun g hg => own_rd hg) ?_
  refine lt_c (fun c => iff_t ?_) (fun c => iff_f ?_)
  · obtain ⟨x, hx⟩ := get_of_lt (l := xs) (j := j) (by omega)
    have hfil : ((xs.take j).filter P).length ≤ 64 := Nat.le_trans (List.length_filter_le _ _) (by rw [List.length_take]; omega)
    have hfil2 : ((xs.take j).filter fun x => !P x).length ≤ 64 := Nat.le_trans (List.length_filter_le _ _) (by rw [List.length_take]; omega)
    refine J2.cut (fun t5 t6 w => Sat e w (DER t6 ((xs.take (j + 1)).filter fun x => !P x) :: DER t5 ((xs.take (j + 1)).filter P) :: PB p fl lv :: DER lv xs :: sepL (xs.map eOwn) :: Q)) (fun k2 hcut => ?_) (fun t5 t6 w h6 => ?_)
    · rw [filter_snoc hx, filter_snoc hx] at hcut
      refine ncP_p (fld_at (ld1_at h4 2 rfl (v := lv) rfl ?_))
      refine ixS_rd h4 3 rfl (fun g hg => own_rd hg) (fun _ => rfl) hx fun a ha => fld_of ha fun a1 ha1 => fld_of ha1 fun a2 ha2 => fld_of ha2 fun a3 ha3 => ld1_of h4 3 rfl ha3 (v := .int .i64 x.m.key.T) rfl ?_
      refine lt_c (fun c2 => iff_t ?_) (fun c2 => iff_f ?_)
      · rw [show P x = true from by rw [hPk]; exact decide_eq_true c2] at hcut
        refine ncP_p (fld_at (ld1_at h4 2 rfl (v := lv) rfl ?_))
        refine ixS_rd h4 3 rfl (fun g hg => own_rd hg) (fun _ => rfl) hx fun a ha => ldN_of h4 3 rfl ha rfl ?_
        refine push13 (x := x) (hfl x (List.mem_of_getElem? hx)) (by omega) rfl h4.swap fun v' w7 h7 => ?_
        refine hcut _ _ _ ?_
        rw [if_neg (show ¬ (!true) = true by decide), List.append_nil]
        exact h7.swap
      · rw [show P x = false from by rw [hPk]; exact decide_eq_false c2] at hcut
        refine ncP_p (fld_at (ld1_at h4 2 rfl (v := lv) rfl ?_))
        refine ixS_rd h4 3 rfl (fun g hg => own_rd hg) (fun _ => rfl) hx fun a ha => ldN_of h4 3 rfl ha rfl ?_
        refine push13 (x := x) (hfl x (List.mem_of_getElem? hx)) (by omega) rfl h4 fun v' w7 h7 => ?_
        refine hcut _ _ _ ?_
        rw [if_neg (show ¬ false = true by decide), List.append_nil]
        exact h7
    · refine inc_s (by omega) ?_
      exact hg _ _ _ _ _ (by omega) ⟨j + 1, by omega, rfl, rfl, h6⟩
  · obtain rfl : j = xs.length := by omega
    rw [List.take_length] at h4
    have q3 := h4.own_cells 0 rfl
    refine ncP_p (fld_at (stN_at h4 2 rfl (vs := [t6]) q3.1 rfl (Nat.le_of_ble_eq_true rfl) (fun c hc => by rw [List.mem_singleton.1 hc]; exact q3.2) (cs' := [.int .i64 fl, t6]) (by rfl) fun w5 h6 => ?_))
    refine ncP_p (fld_at (ld1_at h6 2 rfl (v := .int .i64 fl) rfl (max_s ?_)))
    refine ncP_p (fld_at (stN_at h6 2 rfl (vs := ints [max fl t]) rfl rfl (Nat.le_of_ble_eq_true rfl) (ints_flat _) (cs' := [.int .i64 (max fl t), t6]) (by rfl) fun w6 h7 => ?_))
    replace h7 : Sat e w6 (DER t6 (xs.filter fun x => !P x) :: DER t5 (xs.filter P) :: PB p (max fl t) t6 :: DER lv xs :: sepL (xs.map eOwn) :: Q) := h7
    have h8 := sepL_perm (b := (xs.filter P).map eOwn ++ (xs.filter fun x => !P x).map eOwn) (by rw [← List.map_append]; exact ((List.filter_append_perm P xs).map eOwn).symm) (h7.pick 4 rfl)
    have h9 := sepL_parts h8
    replace h9 : Sat e w6 (sepL ((xs.filter P).map eOwn) :: sepL ((xs.filter fun x => !P x).map eOwn) :: DER t6 (xs.filter fun x => !P x) :: DER t5 (xs.filter P) :: PB p (max fl t) t6 :: DER lv xs :: Q) := h9
    have h10 := pastR_mk (fl := max fl t) (lv := t6) (xs := xs.filter fun x => !P x) (l := backE t l) ⟨eg, hp.2.sub List.filter_sublist⟩ (h9.selR [_, _, _, _, _, _] [_, _, _, _, _] [4, 2, 1, 3, 0] (by decide) rfl)
    have h11 := ensR_mk (v := t5) (xs := xs.filter P) (h10.selR [_, _, _] [_, _, _] [1, 2, 0] (by decide) rfl)
    rw [ek] at h11
    exact hk _ _ h11
end Go.Proofs.YtbopajpmadlmhaaGreat
end
section
namespace Go.Proofs.YtbopajpmadlmhaaGreat
open Go Go.E
set_option maxRecDepth 100000
variable {e w : World} {L Q : List HP} {K : KV} {S S2 : HP}

structure FedS where
  st : Int
  sent : Int
  lv : Value
  log : List Done
def FedS.cs (f : FedS) : List Value := [.int .i64 f.st, .int .i64 f.sent, f.lv]
def FedS.a (f : FedS) : FA := ⟨f.st, f.sent, f.log⟩
end Go.Proofs.YtbopajpmadlmhaaGreat
namespace Go.Proofs.YtbopajpmadlmhaaGreat
open Go Go.E
set_option maxRecDepth 100000
variable {e w : World} {L Q : List HP} {K : KV} {S S2 : HP}

end Go.Proofs.YtbopajpmadlmhaaGreat
namespace Go.Proofs.YtbopajpmadlmhaaGreat
open Go Go.E
set_option maxRecDepth 100000
variable {e w : World} {L Q : List HP} {K : KV} {S S2 : HP}

end Go.Proofs.YtbopajpmadlmhaaGreat
namespace Go.Proofs.YtbopajpmadlmhaaGreat
open Go Go.E
set_option maxRecDepth 100000
variable {e w : World} {L Q : List HP} {K : KV} {S S2 : HP}

def w0 : Wd := ⟨[-1], [⟨0, 1, 0, [], [0], [], [⟨0, 4, 2⟩]⟩, ⟨0, 1, 3, [], [], [0], []⟩], 9⟩
theorem MLt.time {a b : Msg} (h : MLt a b) : a.key.T ≤ b.key.T := by
  rcases h with h | h
  · unfold KeyLt at h; omega
  · rw [h.1]; omega
end Go.Proofs.YtbopajpmadlmhaaGreat
namespace Go.Proofs.YtbopajpmadlmhaaGreat
open Go Go.E
set_option maxRecDepth 100000
variable {e w : World} {L Q : List HP} {K : KV} {S S2 : HP}

end Go.Proofs.YtbopajpmadlmhaaGreat
namespace Go.Proofs.YtbopajpmadlmhaaGreat
open Go Go.E
set_option maxRecDepth 100000
variable {e w : World} {L Q : List HP} {K : KV} {S S2 : HP}

end Go.Proofs.YtbopajpmadlmhaaGreat
end
section
namespace Go.Proofs.YtbopajpmadlmhaaGreat
open Go Go.E
set_option maxRecDepth 100000
variable {e w : World} {L R : List HP} {K : KV} {S S2 : HP}

theorem ref05_Above_s {v : Value} {ps : List Int} {a : Int} (i : Nat) (hi : L[i]? = some S) (hS : Sat e w L) (hr : ∀ g, S g → rdS 1 (intsK .i64) v ps g) (ht : okTree ps) (ha : 0 ≤ a ∧ a < ps.length)
    (hk : ∀ v w', Sat e w' (ownS 3 1 (intsK .i64) v (above ps a) :: L) → K v w') : Cl prog 126 #[v, .int .i64 a] w K := by
  refine pacelineref05_Above_calls ?_
  unfold pacelineref05_Above
  refine bsl0 hS (intsK .i64) fun v0 w1 h1 => ?_
  have hi1 : ∀ X : HP, (X :: L)[i + 1]? = some S := fun X => by simpa using hi
  refine ref05_Check_s (i + 1) (hi1 _) h1 hr ?_
  have htE : treeE ps = 0 := by unfold treeE; exact if_pos ht
  rw [htE]
  refine ne_f rfl (gd_ff (gd_ff (lt_f (by omega) (pk_f (gd_ff (gd_ff (gd_ff (lnS_rd h1 (i + 1) (hi1 _) hr ?_))))))))
  refine gd_ff (ge_f (by omega) (pk_f (iff_f ?_)))
  have hpl := ht.2.1
  refine lpi2 (fun q t1 t5 w => ∃ (z : Int) (acc : List Int), t1 = .int .i64 z ∧ q = (z + 1).toNat ∧ -1 ≤ z ∧ z < ps.length ∧ acc.length + (z + 1).toNat ≤ 17 ∧ (∃ n : Nat, z < n ∧ acc ++ upL ps n z = above ps a) ∧ Sat e w (ownS 3 1 (intsK .i64) t5 acc :: L)) (a + 1).toNat
    ⟨a, [], rfl, rfl, by omega, ha.2, by simp; omega, ⟨a.toNat + 1, by omega, rfl⟩, h1⟩ ?_
  rintro q _ t5 w g ⟨z, acc, rfl, rfl, hz1, hzl, hacc, ⟨n, hzn, heq⟩, h2⟩ hg
  refine ge_c (fun c1 => iff_t ?_) (fun c1 => iff_f ?_)
  · obtain ⟨m, rfl⟩ : ∃ m, n = m + 1 := ⟨n - 1, by omega⟩
    rw [upL_succ, if_neg (by omega)] at heq
    obtain ⟨y, hy⟩ := get_of_lt (l := ps) (j := z.toNat) (by omega)
    have hzN : z = ((z.toNat : Nat) : Int) := by omega
    have hp := ht.2.2 z.toNat y hy
    have hgd : ps.getD z.toNat (-1) = y := by rw [List.getD_eq_getElem?_getD, hy]; rfl
    rw [hgd] at heq
    refine push1 te_24 (f := intsK .i64) (fun _ => rfl) (fun _ _ h => by simp [intsK] at h; subst h; rfl) h2 (x := z) rfl (by omega) fun v' w8 h8 => ?_
    rw [show Value.int .i64 z = .int .i64 ((z.toNat : Nat) : Int) from by rw [← hzN]]
    refine ixS_rd h8 (i + 1) (hi1 _) hr (fun _ => rfl) hy fun q hq => ?_
    refine ld1_of h8 (i + 1) (hi1 _) hq (v := .int .i64 y) rfl ?_
    refine hg (y + 1).toNat _ _ _ (by omega) ⟨y, acc ++ [z], rfl, rfl, by omega, by omega, by rw [List.length_append, List.length_singleton]; omega, ⟨m, by omega, ?_⟩, h8⟩
    rw [List.append_assoc]
    exact heq
  · rw [upL_neg ps (by omega), List.append_nil] at heq
    refine hk _ _ ?_
    rw [← heq]
    exact h2
theorem hears_above (ps : List Int) (c : Int) (f : Fed) : hearsB ps c f = (above ps c).any fun s => decide (s ∈ f.Subs) := by
  unfold hearsB
  rw [Bool.eq_iff_iff, List.any_eq_true, List.any_eq_true]
  constructor
  · rintro ⟨s, h1, h2⟩
    exact ⟨s, of_decide_eq_true h2, decide_eq_true h1⟩
  · rintro ⟨s, h1, h2⟩
    exact ⟨s, of_decide_eq_true h2, decide_eq_true h1⟩
theorem upL_len (ps : List Int) : ∀ (n : Nat) (a : Int), (upL ps n a).length ≤ n
  | 0, _ => Nat.le_refl _
  | n + 1, a => by
    rw [upL_succ]
    split
    · simp
    · have := upL_len ps n (ps.getD a.toNat (-1))
      rw [List.length_cons]
      omega
theorem ref08_Routes_s {x : WdX} {f c : Int} (i : Nat) (hi : L[i]? = some S) (hS : Sat e w L) (hr : ∀ g, S g → RdWd x g) (hs : x.short) (ht : okTree x.Parents) (hc : 0 ≤ c ∧ c < x.Parents.length)
    (hk : ∀ v w', Sat e w' (ownS 3 1 (intsK .i64) v (routesL x.w.Parents f c x.w.Feds) :: L) → K v w') : Cl prog 67 #[.agg x.cs.toArray, .int .i64 f, .int .i64 c] w K := by
  refine pacelineref08_Routes_calls ?_
  unfold pacelineref08_Routes
  refine al_s (cs := x.cs) hS rfl fun b w1 h1 => ?_
  refine fld_at (ld1_at h1 0 rfl (v := x.pv) rfl ?_)
  refine ref05_Above_s (i + 1) (by simpa using hi) h1 (fun g hg => (hr g hg).par) ht hc fun av w2 h2 => ?_
  have hal : (above x.Parents c).length ≤ 1000 := by
    have h3 := upL_len x.Parents (c.toNat + 1) c
    have h4 := ht.2.1
    unfold above
    omega
  have hab := fun f => hears_above x.Parents c f
  generalize above x.Parents c = ab at h2 hal hab
  refine bsl0 h2 (intsK .i64) fun v0 w3 h3 => ?_
  have hfl := hs.feds
  refine lpi2 (fun q t7 t13 w => ∃ j : Nat, j ≤ x.Feds.length ∧ t13 = .int .i64 j ∧ q = x.Feds.length - j ∧ Sat e w (ownS 3 1 (intsK .i64) t7 (routesL x.Parents f c ((x.Feds.take j).map FedX.f)) :: ownS 3 1 (intsK .i64) av ab :: blk b 27 x.cs :: L)) x.Feds.length
    ⟨0, Nat.zero_le _, rfl, rfl, h3⟩ ?_
  rintro q t7 _ w g ⟨j, hj, rfl, rfl, h4⟩ hg
  have hi3 : (ownS 3 1 (intsK .i64) t7 (routesL x.Parents f c ((x.Feds.take j).map FedX.f)) :: ownS 3 1 (intsK .i64) av ab :: blk b 27 x.cs :: L)[i + 3]? = some S := by simpa using hi
  refine fld_at (ld1_at h4 2 rfl (v := x.fv) rfl ?_)
  refine lnS_rd h4 (i + 3) hi3 (fun g hg => (hr g hg).feds) ?_
  refine lt_c (fun c0 => iff_t ?_) (fun c0 => iff_f ?_)
  · obtain ⟨fd, hf⟩ := get_of_lt (l := x.Feds) (j := j) (by omega)
    have hfm := List.mem_of_getElem? hf
    have hlen : ((x.Feds.take j).map FedX.f).length = j := by rw [List.length_map, List.length_take]; omega
    have hsn : routesL x.Parents f c ((x.Feds.take (j + 1)).map FedX.f) = routesL x.Parents f c ((x.Feds.take j).map FedX.f) ++ if (j : Int) ≠ f ∧ hearsB x.Parents c fd.f = true then [(j : Int)] else [] := by
      rw [take_snoc hf, List.map_append, List.map_singleton, routesL_snoc, hlen]
    have hrl := routesL_len x.Parents f c ((x.Feds.take j).map FedX.f)
    rw [hlen] at hrl
    refine J1.cut (fun t7 w => Sat e w (ownS 3 1 (intsK .i64) t7 (routesL x.Parents f c ((x.Feds.take (j + 1)).map FedX.f)) :: ownS 3 1 (intsK .i64) av ab :: blk b 27 x.cs :: L)) (fun k2 hcut => ?_) (fun t7 w h5 => ?_)
    · rw [hsn, hab] at hcut
      refine lpi2 (fun q t10 t11 w => ∃ n : Nat, n ≤ ab.length ∧ t11 = .int .i64 n ∧ q = ab.length - n ∧ t10 = .bool ((ab.take n).any fun s => decide (s ∈ fd.f.Subs)) ∧ Sat e w (ownS 3 1 (intsK .i64) t7 (routesL x.Parents f c ((x.Feds.take j).map FedX.f)) :: ownS 3 1 (intsK .i64) av ab :: blk b 27 x.cs :: L)) ab.length
        ⟨0, Nat.zero_le _, rfl, rfl, by simp, h4⟩ ?_
      rintro q _ _ w g2 ⟨n, hn, rfl, rfl, rfl, h5⟩ hg2
      refine lnS_rd h5 1 rfl (fun g hg => own_rd hg) ?_
      refine lt_c (fun c1 => iff_t ?_) (fun c1 => iff_f ?_)
      · obtain ⟨s, hsn2⟩ := get_of_lt (l := ab) (j := n) (by omega)
        refine dr_s h5 fun w6 h6 => ?_
        have hgo : ∀ w', Sat e w' (ownS 3 1 (intsK .i64) t7 (routesL x.Parents f c ((x.Feds.take j).map FedX.f)) :: ownS 3 1 (intsK .i64) av ab :: blk b 27 x.cs :: L) → bi .add .i64 (.int .i64 n) (.int .i64 1) w' fun t29 w => g2 [.bool ((ab.take (n + 1)).any fun s => decide (s ∈ fd.f.Subs)), t29] w := fun w' h' => by
          refine inc_s (by omega) ?_
          exact hg2 _ _ _ _ (by omega) ⟨n + 1, by omega, rfl, rfl, rfl, h'⟩
        have hst : ((ab.take (n + 1)).any fun s => decide (s ∈ fd.f.Subs)) = (((ab.take n).any fun s => decide (s ∈ fd.f.Subs)) || decide (s ∈ fd.f.Subs)) := by
          rw [take_snoc hsn2, List.any_append]
          simp
        rw [hst] at hgo
        cases hb : (ab.take n).any fun s => decide (s ∈ fd.f.Subs) with
        | true =>
          rw [hb] at hgo
          repeat (first | refine gd_tt ?_ | refine gd_ff ?_ | refine gd_tf ?_ | refine gd_ft ?_ | refine gd_u ?_ | refine pk_t ?_ | refine pk_f ?_ | refine iff_t ?_ | refine iff_f ?_ | refine not_t ?_ | refine not_f ?_ | refine beq_s ?_ | refine bne_s ?_ | refine ncP_p ?_ | refine nc_p ?_ | refine fld_at ?_ | refine xt_02 ?_ | refine xt_12 ?_ | refine xt_03 ?_ | refine xt_13 ?_ | refine xt_23 ?_ | refine eq_t (by omega) ?_ | refine eq_f (by omega) ?_ | refine ne_t (by omega) ?_ | refine ne_f (by omega) ?_ | refine lt_t (by omega) ?_ | refine lt_f (by omega) ?_ | refine gt_t (by omega) ?_ | refine gt_f (by omega) ?_ | refine ge_t (by omega) ?_ | refine ge_f (by omega) ?_ | refine le_t (by omega) ?_ | refine le_f (by omega) ?_)
          exact hgo _ h6
        | false =>
          rw [hb] at hgo
          refine gd_ff (fld_at (gd_ff (ld1_at h6 2 rfl (v := x.fv) rfl (gd_ff ?_))))
          refine gd_ff (ixS_rd h6 (i + 3) hi3 (fun g hg => (hr g hg).feds) (fun _ => rfl) hf fun a ha => ?_)
          refine gd_ff (fld_of ha fun a1 ha1 => gd_ff (ld1_of h6 (i + 3) hi3 ha1 (v := fd.sv) rfl ?_))
          refine gd_ff (gd_ff (gd_ff (ixS_rd h6 1 rfl (fun g hg => own_rd hg) (fun _ => rfl) hsn2 fun a ha => ?_)))
          refine gd_ff (ld1_of h6 1 rfl ha (v := .int .i64 s) rfl (gd_ff ?_))
          refine ref05_Has_s (i + 3) hi3 h6 (fun g hg => ((hr g hg).fed fd hfm).subs) (by have := (hs.fed fd hfm).subs; omega) ?_
          refine pk_f ?_
          exact hgo _ h6
      · have en : n = ab.length := by omega
        rw [en, List.take_length]
        have hskip : ¬ ((j : Int) ≠ f ∧ (ab.any fun s => decide (s ∈ fd.f.Subs)) = true) → k2 t7 w := fun h => by
          rw [if_neg h, List.append_nil] at hcut
          exact hcut _ _ h5
        refine ne_c (fun c2 => ?_) (fun c2 => ?_)
        · refine gd_tt ?_
          cases hb : ab.any fun s => decide (s ∈ fd.f.Subs) with
          | true =>
            refine pk_t (iff_t ?_)
            refine push1 te_24 (f := intsK .i64) (fun _ => rfl) (fun _ _ h => by simp [intsK] at h; subst h; rfl) h5 (x := (j : Int)) rfl (by omega) fun v' w8 h8 => ?_
            refine hcut _ _ ?_
            rw [if_pos ⟨c2, hb⟩]
            exact h8
          | false =>
            refine pk_t (iff_f (hskip fun h => ?_))
            rw [hb] at h
            cases h.2
        · repeat (first | refine gd_tt ?_ | refine gd_ff ?_ | refine gd_tf ?_ | refine gd_ft ?_ | refine gd_u ?_ | refine pk_t ?_ | refine pk_f ?_ | refine iff_t ?_ | refine iff_f ?_ | refine not_t ?_ | refine not_f ?_ | refine beq_s ?_ | refine bne_s ?_ | refine ncP_p ?_ | refine nc_p ?_ | refine fld_at ?_ | refine xt_02 ?_ | refine xt_12 ?_ | refine xt_03 ?_ | refine xt_13 ?_ | refine xt_23 ?_ | refine eq_t (by omega) ?_ | refine eq_f (by omega) ?_ | refine ne_t (by omega) ?_ | refine ne_f (by omega) ?_ | refine lt_t (by omega) ?_ | refine lt_f (by omega) ?_ | refine gt_t (by omega) ?_ | refine gt_f (by omega) ?_ | refine ge_t (by omega) ?_ | refine ge_f (by omega) ?_ | refine le_t (by omega) ?_ | refine le_f (by omega) ?_)
          exact hskip fun h => h.1 c2
    · refine inc_s (by omega) ?_
      exact hg _ _ _ _ (by omega) ⟨j + 1, by omega, rfl, rfl, h5⟩
  · have ej : j = x.Feds.length := by omega
    rw [ej, List.take_length] at h4
    exact hk _ _ (h4.selR [_, _, _] [_] [0] (by decide) rfl)

theorem ref07_Sent_s {f seq now body : Int} {o : Out} (hS : Sat e w L) (hk : ∀ w', Sat e w' L → K (.agg (sentM f seq now body o).cs.toArray) w') :
    Cl prog 66 #[.int .i64 f, .int .i64 seq, .int .i64 now, .int .i64 body, .agg o.cs.toArray] w K := by
  refine pacelineref07_Sent_calls ?_
  unfold pacelineref07_Sent
  refine al_s (cs := o.cs) hS rfl fun t9 w1 h1 => ?_
  rw [zero_37]
  refine al_s (cs := Msg.zero.cs) h1 rfl fun t10 w2 h2 => ?_
  refine rem_s (by decide) ?_
  obtain ⟨k1, a1, a2, a3⟩ := tmodK body
  generalize hr1 : body.tmod 1000 = r1 at a1 a2 a3
  refine fld_at (ld1_at h2 1 rfl (v := .int .i64 o.Add) rfl ?_)
  refine rem_s (by decide) ?_
  obtain ⟨k2, b1, b2, b3⟩ := tmodK o.Add
  generalize hr2 : o.Add.tmod 1000 = r2 at b1 b2 b3
  refine add_s (by omega) (by omega) ?_
  refine rem_s (by decide) ?_
  obtain ⟨k3, c1, c2, c3⟩ := tmodK (r1 + r2)
  generalize hr3 : (r1 + r2).tmod 1000 = r3 at c1 c2 c3
  refine add_s (by omega) (by omega) ?_
  refine dr_s h2 fun w3 h3 => ?_
  refine fld_at (ld1_at h3 1 rfl (v := .int .i64 o.Delay) rfl ?_)
  refine fld_at (ld1_at h3 1 rfl (v := .int .i64 o.Class) rfl ?_)
  refine rem_s (by decide) ?_
  rw [Int.tmod_eq_emod_of_nonneg (by omega)]
  refine ref01_Add_s ?_
  have oC : ld1 (.pointer (some ⟨t9, 0 + 0, none⟩)) w3 (fun v' w'' => v' = .int .i64 o.Class ∧ w'' = w3) := ld1_at h3 1 rfl (v := .int .i64 o.Class) rfl ⟨rfl, rfl⟩
  refine ⟨oC, bld_s (ints [addT now o.Delay, f, seq]) (by kernel_rfl) ⟨oC, ?_⟩⟩
  rw [show (r3 + 1000) % 1000 = (body + o.Add) % 1000 from by omega]
  refine bld_s (sentM f seq now body o).cs (by kernel_rfl) ?_
  refine stN_at h3 0 rfl (vs := (sentM f seq now body o).cs) rfl rfl (by simp [ints, Msg.ns, Msg.zero]) (ints_flat _) (cs' := (sentM f seq now body o).cs) (by rfl) fun w4 h4 => ?_
  refine ldN_at h4 0 (vs := (sentM f seq now body o).cs) rfl (by rfl) rfl ?_
  exact hk _ h4.drop.drop

theorem ref08_Spread_s {x : WdX} {f seq now body : Int} {v : Value} {outs : List Out} (i k : Nat) (hi : L[i]? = some S) (hk2 : L[k]? = some S2) (hS : Sat e w L) (hr : ∀ g, S g → RdWd x g) (hr2 : ∀ g, S2 g → rdS 3 Out.cs v outs g) (hs : x.short) (ht : okTree x.Parents)
    (ho : ∀ o ∈ outs, okSend x.Parents.length o) (hl : outs.length ≤ 1000) (hq : 0 ≤ seq ∧ seq ≤ 1125899906842624)
    (hk : ∀ v w', Sat e w' (ownS 37 6 Msg.cs v (spreadL x.w.Parents x.w.Feds f seq now body outs) :: L) → K v w') : Cl prog 26 #[.agg x.cs.toArray, .int .i64 f, .int .i64 seq, .int .i64 now, .int .i64 body, v] w K := by
  refine pacelineref08_Spread_calls ?_
  unfold pacelineref08_Spread
  refine al_s (cs := x.cs) hS rfl fun b w1 h1 => ?_
  have hi1 : (blk b 27 x.cs :: L)[i + 1]? = some S := by simpa using hi
  have hk1 : (blk b 27 x.cs :: L)[k + 1]? = some S2 := by simpa using hk2
  have hfl := hs.feds
  rw [zero_37]
  refine bsl0 h1 Msg.cs fun v0 w1b h1b => ?_
  have hflat := wd_cells i hi hS hr
  refine lpi2 (fun q t13 t21 w => ∃ j : Nat, j ≤ outs.length ∧ t21 = .int .i64 j ∧ q = outs.length - j ∧ Sat e w (ownS 37 6 Msg.cs t13 (spreadL x.w.Parents x.w.Feds f seq now body (outs.take j)) :: blk b 27 x.cs :: L)) outs.length
    ⟨0, Nat.zero_le _, rfl, rfl, h1b⟩ ?_
  rintro q t13 _ w g ⟨j, hj, rfl, rfl, h2⟩ hg
  refine lnS_rd h2 (k + 2) (by simpa using hk2) hr2 ?_
  refine lt_c (fun c0 => iff_t ?_) (fun c0 => iff_f ?_)
  · obtain ⟨o, hoj⟩ := get_of_lt (l := outs) (j := j) (by omega)
    obtain ⟨o1, o2, o3⟩ := ho o (List.mem_of_getElem? hoj)
    have hlen : (outs.take j).length = j := by rw [List.length_take]; omega
    have hsn : spreadL x.w.Parents x.w.Feds f seq now body (outs.take (j + 1)) = spreadL x.w.Parents x.w.Feds f seq now body (outs.take j) ++ (routesL x.w.Parents f o.Class x.w.Feds).map fun to => { sentM f (seq + j) now body o with To := to } := by
      rw [take_snoc hoj, spreadL_snoc, hlen]
    have hsl := spreadL_len x.w.Parents x.w.Feds f seq now body (outs.take j)
    have hfl2 : x.w.Feds.length ≤ 1000 := by simp only [WdX.w, List.length_map]; exact hfl
    rw [hlen] at hsl
    have hsl2 : j * x.w.Feds.length ≤ 1000 * 1000 := Nat.mul_le_mul (by omega) hfl2
    have hi2 : (ownS 37 6 Msg.cs t13 (spreadL x.w.Parents x.w.Feds f seq now body (outs.take j)) :: blk b 27 x.cs :: L)[i + 2]? = some S := by simpa using hi
    have hk3 : (ownS 37 6 Msg.cs t13 (spreadL x.w.Parents x.w.Feds f seq now body (outs.take j)) :: blk b 27 x.cs :: L)[k + 2]? = some S2 := by simpa using hk2
    refine add_s (by omega) (by omega) ?_
    refine ixS_rd h2 (k + 2) hk3 hr2 (fun _ => rfl) hoj fun a ha => ?_
    refine ldN_of h2 (k + 2) hk3 ha rfl ?_
    refine ref07_Sent_s h2 fun w5 h5 => ?_
    refine al_s (cs := Msg.zero.cs) h5 rfl fun tm w6 h6 => ?_
    generalize hm : sentM f (seq + j) now body o = m at hsn h6 ⊢
    have hmc : m.Class = o.Class := by rw [← hm]; rfl
    refine stN_at h6 0 rfl (vs := m.cs) rfl rfl (by decide) (ints_flat _) (cs' := m.cs) (by rfl) fun w7 h7 => ?_
    refine ldN_at h7 2 (vs := x.cs) rfl (by rfl) rfl ?_
    refine fld_at (ld1_at h7 0 rfl (v := .int .i64 m.Class) rfl ?_)
    rw [hmc]
    refine ref08_Routes_s (x := x) (i + 3) (by simpa using hi) h7 hr hs ht ⟨o1, o2⟩ fun tv w8 h8 => ?_
    generalize hrt : routesL x.w.Parents f o.Class x.w.Feds = rt at hsn h8 ⊢
    have hrtl : rt.length ≤ 1000 := by rw [← hrt]; exact Nat.le_trans (routesL_len _ _ _ _) hfl2
    refine lpi2 (fun q t13 t40 w => ∃ (n : Nat) (m' : Msg), n ≤ rt.length ∧ t40 = .int .i64 n ∧ q = rt.length - n ∧ (∀ to, { m' with To := to } = { m with To := to }) ∧
        Sat e w (ownS 37 6 Msg.cs t13 (spreadL x.w.Parents x.w.Feds f seq now body (outs.take j) ++ (rt.take n).map fun to => { m with To := to }) :: ownS 3 1 (intsK .i64) tv rt :: blk tm 37 m'.cs :: blk b 27 x.cs :: L)) rt.length
      ⟨0, m, Nat.zero_le _, rfl, rfl, fun _ => rfl, by simpa using h8.selR [_, _, _, _] [_, _, _, _] [2, 0, 1, 3] (by decide) rfl⟩ ?_
    rintro q t13' _ w g2 ⟨n, m', hn, rfl, rfl, hmm, h9⟩ hg2
    refine lnS_rd h9 1 rfl (fun g hg => own_rd hg) ?_
    refine lt_c (fun c1 => iff_t ?_) (fun c1 => iff_f ?_)
    · obtain ⟨to, hto⟩ := get_of_lt (l := rt) (j := n) (by omega)
      refine ixS_rd h9 1 rfl (fun g hg => own_rd hg) (fun _ => rfl) hto fun a ha => ?_
      refine ld1_of h9 1 rfl ha (v := .int .i64 to) rfl ?_
      refine fld_at (stN_at h9 2 rfl (vs := ints [to]) rfl rfl (Nat.le_of_ble_eq_true rfl) (ints_flat _) (cs' := ({ m' with To := to } : Msg).cs) (by rfl) fun w10 h10 => ?_)
      refine ldN_at h10 2 (vs := ({ m' with To := to } : Msg).cs) rfl (by rfl) rfl ?_
      refine push1 te_33 (f := Msg.cs) (fun _ => rfl) (fun _ => ints_flat _) h10 (x := { m' with To := to }) rfl (by rw [List.length_append, List.length_map, List.length_take]; omega) fun v' w11 h11 => ?_
      refine inc_s (by omega) ?_
      refine hg2 _ _ _ _ (by omega) ⟨n + 1, { m' with To := to }, by omega, rfl, rfl, fun to' => hmm to', ?_⟩
      rw [take_snoc hto, List.map_append, ← List.append_assoc, List.map_singleton, ← hmm to]
      exact h11
    · have en : n = rt.length := by omega
      rw [en, List.take_length, ← hsn] at h9
      refine inc_s (by omega) ?_
      exact hg _ _ _ _ (by omega) ⟨j + 1, by omega, rfl, rfl, h9.selR [_, _, _, _] [_, _] [0, 3] (by decide) rfl⟩
  · have ej : j = outs.length := by omega
    rw [ej, List.take_length] at h2
    exact hk _ _ (h2.selR [_, _] [_] [0] (by decide) rfl)
theorem ref07_Step_s {v : Value} {l : List RuleX} {s c : Int} (hS : Sat e w (S :: R)) (hr : ∀ g, S g → RdRules v l g) (hl : l.length ≤ 1000) (hl2 : ∀ r ∈ l, r.Sends.length ≤ 1000)
    (hk : ∀ v' w', Sat e w' (ownS 87 3 Out.cs v' (stepR (l.map RuleX.r) s c).2 :: S :: R) → K (.tuple #[.int .i64 (stepR (l.map RuleX.r) s c).1, v']) w') : Cl prog 25 #[v, .int .i64 s, .int .i64 c] w K := by
  refine pacelineref07_Step_calls ?_
  unfold pacelineref07_Step
  refine ref07_Find_s 0 rfl hS (fun g hg => (hr g hg).s) (by omega) (fun hno => ?_) (fun j r hj hon hlo => ?_)
  · rw [stepR_none hno] at hk
    refine lt_t (by omega) (iff_t ?_)
    exact hk _ _ (hS.own_nil 87 3 Out.cs)
  · rw [stepR_some hj hon hlo] at hk
    have hrm := List.mem_of_getElem? hj
    refine lt_f (by omega) (iff_f ?_)
    refine bsl0 hS Out.cs fun v0 w1 h1 => ?_
    refine dr_s h1 fun w2 h2 => ?_
    refine ixS_rd h2 1 rfl (fun g hg => (hr g hg).s) (fun _ => rfl) hj fun a ha => ?_
    refine fld_of ha fun a1 ha1 => ?_
    refine ld1_of h2 1 rfl ha1 (v := .int .i64 r.Next) rfl ?_
    refine ixS_rd h2 1 rfl (fun g hg => (hr g hg).s) (fun _ => rfl) hj fun a2 ha2 => ?_
    refine fld_of ha2 fun a3 ha3 => ?_
    refine ld1_of h2 1 rfl ha3 (v := r.sv) rfl ?_
    refine apS_ownM te_61 und_61 (f := Out.cs) (m := r.Sends) (fun _ => rfl) (fun _ _ => ints_flat _) h2 (fun g hg => (hr g hg).e r hrm) (by have := hl2 r hrm; simp; omega) fun v' w6 h6 => ?_
    rw [List.nil_append] at h6
    exact ⟨ld1_of h6 1 rfl ha1 (v := .int .i64 r.Next) rfl ⟨rfl, rfl⟩, hk _ _ h6⟩

end Go.Proofs.YtbopajpmadlmhaaGreat
namespace Go.Proofs.YtbopajpmadlmhaaGreat
open Go Go.E
set_option maxRecDepth 100000
variable {e w : World} {L Q : List HP} {K : KV} {S S2 : HP}

end Go.Proofs.YtbopajpmadlmhaaGreat
namespace Go.Proofs.YtbopajpmadlmhaaGreat
open Go Go.E
set_option maxRecDepth 100000
variable {e w : World} {L Q : List HP} {K : KV} {S S2 : HP}

theorem Sat.unpick {X : HP} {l : List HP} (i : Nat) (hi : l[i]? = some S) (h : Sat e w (X :: S :: l.eraseIdx i)) : Sat e w (X :: l) := h.perm (List.Perm.cons X (pick_perm l i S hi).symm)
end Go.Proofs.YtbopajpmadlmhaaGreat
end
