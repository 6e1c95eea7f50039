/- slices.SortStableFunc over what a gate keeps: the stable order by the function. Conditions: at most a million elements, and the function is a strict weak order's. -/
import Derived.Test.YtdiglafiimnfoaaGateA
import Derived.Test.YtdiglafiimnfoaaSortP
import Derived.Test.YtdiglafiimnfoaaEngR
namespace Go.Proofs.Ytdiglafiimnfoaa
open Go Go.E
set_option maxRecDepth 100000
variable {e w : World} {R : List HP} {K : KV} {v fv : Value} {cf : Kept → Kept → Int}

abbrev DK (v : Value) (l : List Kept) : HP := ownS 163 9 Kept.cs v l
def CmpOk (e : World) (fv : Value) (cf : Kept → Kept → Int) : Prop :=
  ∀ (w : World) (R : List HP) (K : KV) (x y : Kept), Sat e w R → (∀ w', Sat e w' R → K (.int .i64 (cf x y)) w') → clV prog fv #[.agg x.cs.toArray, .agg y.cs.toArray] w K
def ltC (cf : Kept → Kept → Int) (x y : Kept) : Bool := decide (cf x y < 0)
theorem kept_len (x : Kept) : (Kept.cs x).length = 9 := rfl

theorem swapRange_s {P A M B S : List Kept} {a b n : Nat} (ha : a = P.length) (hb : b = P.length + A.length + M.length) (hn : n = A.length) (hAB : A.length = B.length) (hlen : (P ++ A ++ M ++ B ++ S).length ≤ 1000000)
    (hS : Sat e w (DK v (P ++ A ++ M ++ B ++ S) :: R)) (hk : ∀ w', Sat e w' (DK v (P ++ B ++ M ++ A ++ S) :: R) → K (.tuple #[]) w') :
    Cl prog 121 #[v, .int .i64 (a : Int), .int .i64 (b : Int), .int .i64 (n : Int), fv] w K := by
  refine slices_swapRangeCmpFunc_gate_kept_calls ?_
  unfold slices_swapRangeCmpFunc_gate_kept
  simp only [List.length_append] at hlen
  refine lpi1 (fun m t10 w => ∃ i : Nat, i ≤ n ∧ t10 = .int .i64 i ∧ m = n - i ∧ Sat e w (DK v (P ++ (B.take i ++ A.drop i) ++ M ++ (A.take i ++ B.drop i) ++ S) :: R)) n
    ⟨0, Nat.zero_le _, rfl, rfl, by simpa using hS⟩ ?_
  rintro m _ w g ⟨i, hi, rfl, rfl, h1⟩ hg
  refine ltn_c (fun c => iff_t ?_) (fun c => iff_f ?_)
  · obtain ⟨x, hx⟩ := get_of_lt (l := A) (j := i) (by omega)
    obtain ⟨y, hy⟩ := get_of_lt (l := B) (j := i) (by omega)
    have hsh : P ++ (B.take i ++ A.drop i) ++ M ++ (A.take i ++ B.drop i) ++ S = (P ++ B.take i) ++ x :: ((A.drop (i + 1) ++ M ++ A.take i) ++ y :: (B.drop (i + 1) ++ S)) := by
      rw [drop_cons hx, drop_cons hy]; simp
    rw [hsh] at h1
    have l1 : a + i = (P ++ B.take i).length := by rw [List.length_append, List.length_take]; omega
    have l2 : b + i = (P ++ B.take i).length + 1 + (A.drop (i + 1) ++ M ++ A.take i).length := by simp only [List.length_append, List.length_take, List.length_drop]; omega
    refine dr_s h1 fun w2 h2 => ?_
    refine addn_s (by omega) (addn_s (by omega) (addn_s (by omega) ?_))
    refine ixS_rd h2 0 rfl (fun g hg => own_rd hg) kept_len (get_mid2 l2) fun p hp => ?_
    refine ldN_of h2 0 rfl hp rfl ?_
    refine addn_s (by omega) ?_
    refine ixS_rd h2 0 rfl (fun g hg => own_rd hg) kept_len (get_mid l1) fun p hp => ?_
    refine ldN_of h2 0 rfl hp rfl ?_
    refine st_own' h2 0 rfl kept_len (by rw [List.length_append, List.length_cons]; omega) (x := y) rfl (ints_flat _) fun w3 h3 => ?_
    refine st_own' h3 0 rfl kept_len (by rw [List.length_set, l2]; simp only [List.length_append, List.length_cons]; omega) (x := x) rfl (ints_flat _) fun w4 h4 => ?_
    replace h4 : Sat e w4 (DK v ((((P ++ B.take i) ++ x :: ((A.drop (i + 1) ++ M ++ A.take i) ++ y :: (B.drop (i + 1) ++ S))).set (a + i) y).set (b + i) x) :: R) := h4
    rw [swap_mid l1 l2] at h4
    refine inc_s (by omega) ?_
    refine hg _ _ _ (by omega) ⟨i + 1, by omega, rfl, rfl, ?_⟩
    rw [take_snoc hx, take_snoc hy]
    simpa using h4
  · obtain rfl : i = n := by omega
    subst hn
    rw [List.take_of_length_le (by omega), List.drop_of_length_le (by omega), List.take_of_length_le (l := A) (by omega), List.drop_of_length_le (l := B) (by omega)] at h1
    exact hk _ (by simpa using h1)

theorem rotate_s {P A B S : List Kept} {a m b : Nat} (ha : a = P.length) (hm : m = P.length + A.length) (hb : b = P.length + A.length + B.length) (hA : 0 < A.length) (hB : 0 < B.length) (hlen : (P ++ A ++ B ++ S).length ≤ 1000000)
    (hS : Sat e w (DK v (P ++ A ++ B ++ S) :: R)) (hk : ∀ w', Sat e w' (DK v (P ++ B ++ A ++ S) :: R) → K (.tuple #[]) w') :
    Cl prog 120 #[v, .int .i64 (a : Int), .int .i64 (m : Int), .int .i64 (b : Int), fv] w K := by
  refine slices_rotateCmpFunc_gate_kept_calls ?_
  unfold slices_rotateCmpFunc_gate_kept
  simp only [List.length_append] at hlen
  refine subn_s (by omega) (by omega) (subn_s (by omega) (by omega) ?_)
  refine lpi2 (fun q t10 t11 w => ∃ (P' X Y S' : List Kept), t10 = .int .i64 X.length ∧ t11 = .int .i64 Y.length ∧ q = X.length + Y.length ∧ P'.length + X.length = m ∧ 0 < X.length ∧ 0 < Y.length ∧
      P' ++ Y ++ X ++ S' = P ++ B ++ A ++ S ∧ (P' ++ X ++ Y ++ S').length = (P ++ A ++ B ++ S).length ∧ Sat e w (DK v (P' ++ X ++ Y ++ S') :: R)) (A.length + B.length)
    ⟨P, A, B, S, by rw [show m - a = A.length by omega], by rw [show b - m = B.length by omega], rfl, by omega, hA, hB, rfl, rfl, hS⟩ ?_
  rintro q _ _ w g ⟨P', X, Y, S', rfl, rfl, rfl, hpm, hX, hY, heq, hle, h1⟩ hg
  simp only [List.length_append] at hle
  refine ne_c (fun c => iff_t ?_) (fun c => iff_f ?_)
  · refine gt_c (fun c2 => iff_t ?_) (fun c2 => iff_f ?_)
    · -- X is longer
      refine subn_s (by omega) (by omega) ?_
      have hX' : X = X.take Y.length ++ X.drop Y.length := (List.take_append_drop _ _).symm
      have hl1 : (X.take Y.length).length = Y.length := by rw [List.length_take]; omega
      have hl2 : (X.drop Y.length).length = X.length - Y.length := List.length_drop
      refine swapRange_s (P := P') (A := X.take Y.length) (M := X.drop Y.length) (B := Y) (S := S') (by omega) (by omega) (by omega) hl1 (by simp only [List.length_append]; omega) (by rw [hX'] at h1; simpa using h1) fun w2 h2 => ?_
      refine subn_s (by omega) (by omega) ?_
      refine hg _ _ _ _ (by simp only [hl1, hl2]; omega) ⟨P' ++ Y, X.drop Y.length, X.take Y.length, S', by rw [hl2], by rw [hl1], rfl, by rw [List.length_append, hl2]; omega, by omega, by omega, ?_, by simp only [List.length_append]; omega, by simpa using h2⟩
      rw [← heq]
      conv => rhs; rw [hX']
      simp
    · refine subn_s (by omega) (by omega) (addn_s (by omega) (subn_s (by omega) (by omega) ?_))
      have hXY : X.length < Y.length := by omega
      have hY' : Y = Y.take (Y.length - X.length) ++ Y.drop (Y.length - X.length) := (List.take_append_drop _ _).symm
      have hl1 : (Y.take (Y.length - X.length)).length = Y.length - X.length := by rw [List.length_take]; omega
      have hl2 : (Y.drop (Y.length - X.length)).length = X.length := by rw [List.length_drop]; omega
      refine swapRange_s (P := P') (A := X) (M := Y.take (Y.length - X.length)) (B := Y.drop (Y.length - X.length)) (S := S') (by omega) (by omega) rfl hl2.symm (by simp only [List.length_append]; omega) (by rw [hY'] at h1; simpa using h1) fun w2 h2 => ?_
      refine subn_s (by omega) (by omega) ?_
      refine hg _ _ _ _ (by simp only [hl1, hl2]; omega) ⟨P', Y.drop (Y.length - X.length), Y.take (Y.length - X.length), X ++ S', by rw [hl2], by rw [hl1], rfl, by omega, by omega, by omega, ?_, by simp only [List.length_append]; omega, by simpa using h2⟩
      rw [← heq]
      conv => rhs; rw [hY']
      simp
  · have hXY : X.length = Y.length := by omega
    refine subn_s (by omega) (by omega) ?_
    refine swapRange_s (P := P') (A := X) (M := []) (B := Y) (S := S') (by omega) (by simp; omega) rfl hXY (by simp only [List.length_append, List.length_nil]; omega) (by simpa using h1) fun w2 h2 => ?_
    refine hk _ ?_
    rw [← heq]
    simpa using h2

theorem insertion_s (hc : CmpOk e fv cf) (o : Ordered (ltC cf)) {P X S : List Kept} {a b : Nat} (ha : a = P.length) (hb : b = P.length + X.length) (hlen : (P ++ X ++ S).length ≤ 1000000)
    (hS : Sat e w (DK v (P ++ X ++ S) :: R)) (hk : ∀ w', Sat e w' (DK v (P ++ stab (ltC cf) X ++ S) :: R) → K (.tuple #[]) w') :
    Cl prog 116 #[v, .int .i64 (a : Int), .int .i64 (b : Int), fv] w K := by
  refine slices_insertionSortCmpFunc_gate_kept_calls ?_
  unfold slices_insertionSortCmpFunc_gate_kept
  simp only [List.length_append] at hlen
  refine inc_s (by omega) ?_
  by_cases hX0 : X.length = 0
  · have hX : X = [] := List.length_eq_zero_iff.1 hX0
    subst hX
    refine lpi1 (fun q t8 w => t8 = .int .i64 ((a + 1 : Nat) : Int) ∧ Sat e w (DK v (P ++ [] ++ S) :: R)) 0 ⟨rfl, hS⟩ ?_
    rintro q _ w g ⟨rfl, h1⟩ hg
    refine ltn_c (fun c => ?_) (fun c => iff_f (hk _ h1))
    simp at hb
    omega
  refine lpi1 (fun q t8 w => ∃ r : Nat, 1 ≤ r ∧ r ≤ X.length ∧ t8 = .int .i64 ((a + r : Nat) : Int) ∧ q = X.length - r ∧ Sat e w (DK v (P ++ stab (ltC cf) (X.take r) ++ X.drop r ++ S) :: R)) (X.length - 1)
    ⟨1, Nat.le_refl _, by omega, rfl, rfl, ?_⟩ ?_
  · obtain ⟨x, hx⟩ := get_of_lt (l := X) (j := 0) (by omega)
    rw [take_snoc hx, List.take_zero, List.nil_append, stab_one]
    have : X = x :: X.drop 1 := by rw [← List.drop_zero (l := X), drop_cons hx]; simp
    rw [this] at hS
    simpa using hS
  rintro q _ w g ⟨r, hr1, hr2, rfl, rfl, h1⟩ hg
  refine ltn_c (fun c => iff_t ?_) (fun c => iff_f ?_)
  · obtain ⟨x, hx⟩ := get_of_lt (l := X) (j := r) (by omega)
    have hsl : (stab (ltC cf) (X.take r)).length = r := by rw [stab_length, List.length_take]; omega
    refine lpi1 (fun q t9 w => ∃ (U V : List Kept), U ++ V = stab (ltC cf) (X.take r) ∧ t9 = .int .i64 ((a + U.length : Nat) : Int) ∧ q = U.length ∧ (∀ z ∈ V, ltC cf x z = true) ∧
        Sat e w (DK v (P ++ (U ++ x :: V) ++ X.drop (r + 1) ++ S) :: R)) r
      ⟨stab (ltC cf) (X.take r), [], by simp, by rw [hsl], hsl.symm, (fun _ h => by cases h), by rw [drop_cons hx] at h1; simpa using h1⟩ ?_
    rintro q _ w g2 ⟨U, V, hUV, rfl, rfl, hV, h2⟩ hg2
    have hUVl : U.length + V.length = r := by rw [← hsl, ← hUV, List.length_append]
    have hasc : Asc (ltC cf) (U ++ V) := by rw [hUV]; exact stab_asc o _
    -- what is left to do where x stands right
    have hdone : ∀ w', Sat e w' (DK v (P ++ (U ++ x :: V) ++ X.drop (r + 1) ++ S) :: R) → (∀ z ∈ U, ltC cf x z = false) → bi .add .i64 (.int .i64 ((a + r : Nat) : Int)) (Value.int IntKind.i64 1) w' fun t16 w => g [t16] w := by
      intro w' h3 hU
      refine inc_s (by omega) ?_
      refine hg _ _ _ (by omega) ⟨r + 1, by omega, by omega, rfl, rfl, ?_⟩
      rw [take_snoc hx, stab_append o, stab_one, ← hUV, mg_one' hU hV]
      simpa using h3
    refine dr_s h2 fun w3 h3 => ?_
    refine gt_c (fun c2 => ?_) (fun c2 => ?_)
    · have hU0 : 0 < U.length := by omega
      obtain ⟨u, hu⟩ := get_of_lt (l := U) (j := U.length - 1) (by omega)
      have hU' : U = U.take (U.length - 1) ++ [u] := by
        have h5 := take_snoc hu
        rw [show U.length - 1 + 1 = U.length by omega, List.take_length] at h5
        exact h5
      generalize hU1 : U.take (U.length - 1) = U1 at hU'
      have hU1l : U1.length + 1 = U.length := by rw [hU']; simp
      have hsh : P ++ (U ++ x :: V) ++ X.drop (r + 1) ++ S = (P ++ U1) ++ u :: ([] ++ x :: (V ++ X.drop (r + 1) ++ S)) := by rw [hU']; simp
      rw [hsh] at h3
      have l1 : a + U.length - 1 = (P ++ U1).length := by rw [List.length_append]; omega
      have l2 : a + U.length = (P ++ U1).length + 1 + ([] : List Kept).length := by rw [List.length_append, List.length_nil]; omega
      refine gd_tt (gd_tt (gd_tt (gd_tt ?_)))
      refine ixS_rd h3 0 rfl (fun g hg => own_rd hg) kept_len (get_mid2 l2) fun p hp => ?_
      refine gd_tt (ldN_of h3 0 rfl hp rfl ?_)
      refine gd_tt (gd_tt (gd_tt (dec_s (by omega) (by omega) ?_)))
      refine gd_tt (ixS_rd h3 0 rfl (fun g hg => own_rd hg) kept_len (get_mid l1) fun p hp => ?_)
      refine gd_tt (ldN_of h3 0 rfl hp rfl ?_)
      refine gd_tt (hc _ _ _ _ _ h3 fun w4 h4 => ?_)
      refine gd_tt (lt_c (fun c3 => pk_t (iff_t ?_)) (fun c3 => pk_t (iff_f ?_)))
      · refine dr_s h4 fun w5 h5 => ?_
        refine dec_s (by omega) (by omega) (dec_s (by omega) (by omega) ?_)
        refine swap_s (l := (P ++ U1) ++ u :: ([] ++ x :: (V ++ X.drop (r + 1) ++ S))) kept_len (fun _ => ints_flat _) (get_mid2 l2) (get_mid l1) h5 fun w6 h6 => ?_
        rw [swap_mid' l1 l2] at h6
        refine dec_s (by omega) (by omega) ?_
        refine hg2 _ _ _ (by omega) ⟨U1, u :: V, by rw [← hUV, hU']; simp, by rw [show a + U.length - 1 = a + U1.length by omega], rfl, fun z hz => ?_, by simpa using h6⟩
        rcases List.mem_cons.1 hz with rfl | hz
        · exact decide_eq_true c3
        · exact hV z hz
      · refine hdone _ (by rw [hsh]; exact h4) ?_
        have := asc_last o hasc.left hu (decide_eq_false c3)
        rw [show U.length - 1 + 1 = U.length by omega, List.take_length] at this
        exact this
    · have hU0 : U = [] := List.length_eq_zero_iff.1 (by omega)
      refine gd_ft (gd_ft (gd_ft (gd_ft (gd_ft (gd_ft (gd_ft (gd_ft (gd_ft (gd_ft (gd_ft (gd_ft (pk_f (iff_f (hdone _ h3 ?_))))))))))))))
      rw [hU0]
      exact fun _ h => by cases h
  · obtain rfl : r = X.length := by omega
    rw [List.take_length, List.drop_length, List.append_nil] at h1
    exact hk _ h1
end Go.Proofs.Ytdiglafiimnfoaa
