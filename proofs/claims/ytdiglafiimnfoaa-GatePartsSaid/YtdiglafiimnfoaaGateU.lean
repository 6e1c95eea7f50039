/- slices.SortStableFunc over what a gate keeps: merging in place, and the whole. Conditions: at most a million elements, and the function is a strict weak order's. -/
import Derived.Test.YtdiglafiimnfoaaGateS
namespace Go.Proofs.Ytdiglafiimnfoaa
open Go Go.E
set_option maxRecDepth 100000
variable {e w : World} {R : List HP} {K : KV} {v fv : Value} {cf : Kept → Kept → Int}

theorem get_in {P L S : List Kept} {i n : Nat} {x : Kept} (h : L[i]? = some x) (hn : n = P.length + i) : (P ++ L ++ S)[n]? = some x := by
  have hi := (List.getElem?_eq_some_iff.1 h).1
  subst hn
  rw [List.append_assoc, List.getElem?_append_right (by omega), Nat.add_sub_cancel_left, List.getElem?_append_left hi, h]

theorem ltlt_s {a b x y : Int} (hk : K (.bool (decide (a < b ∧ x < y))) w) : bi .lss .i64 (.int .i64 a) (.int .i64 b) w fun t1 w => gd t1 true (fun k => k (.int .i64 x) w) w fun t2 w => gd t1 true (fun k => k (.int .i64 y) w) w fun t3 w =>
    gd t1 true (fun k => bi .lss .i64 t2 t3 w k) w fun t4 w => pk t1 t4 (.bool false) w K := by
  refine lt_c (fun c => gd_tt (gd_tt (gd_tt (lt_d (pk_t ?_))))) (fun c => gd_ft (gd_ft (gd_ft (pk_f ?_))))
  · rw [show decide (a < b ∧ x < y) = decide (x < y) from by simp [c]] at hk
    exact hk
  · rw [show decide (a < b ∧ x < y) = false from by simp [c]] at hk
    exact hk

theorem symMerge_s (hc : CmpOk e fv cf) (o : Ordered (ltC cf)) : ∀ (N : Nat) {w : World} {R : List HP} {K : KV} {P L Q S : List Kept} {a m b : Nat}, L.length + Q.length ≤ N → a = P.length → m = P.length + L.length → b = P.length + L.length + Q.length →
    0 < L.length → 0 < Q.length → (P ++ L ++ Q ++ S).length ≤ 1000000 → Asc (ltC cf) L → Asc (ltC cf) Q →
    Sat e w (DK v (P ++ L ++ Q ++ S) :: R) → (∀ w', Sat e w' (DK v (P ++ mg (ltC cf) L Q ++ S) :: R) → K (.tuple #[]) w') →
    Cl prog 117 #[v, .int .i64 (a : Int), .int .i64 (m : Int), .int .i64 (b : Int), fv] w K := by
  intro N
  induction N with
  | zero => intro w R K P L Q S a m b h1 _ _ _ h2; omega
  | succ N ih =>
    intro w R K P L Q S a m b hN ha hm hb hL hQ hlen aL aQ hS hk
    refine slices_symMergeCmpFunc_gate_kept_calls ?_
    unfold slices_symMergeCmpFunc_gate_kept
    simp only [List.length_append] at hlen
    refine subn_s (by omega) (by omega) (eq_c (fun c1 => iff_t ?_) (fun c1 => iff_f ?_))
    · -- one from the left
      obtain ⟨x, rfl⟩ : ∃ x, L = [x] := List.length_eq_one_iff.1 (by omega)
      simp only [List.length_cons, List.length_nil] at *
      refine lpi2 (fun z t10 t11 w => ∃ p q : Nat, t10 = .int .i64 ((m + p : Nat) : Int) ∧ t11 = .int .i64 ((m + q : Nat) : Int) ∧ p ≤ q ∧ q ≤ Q.length ∧ z = q - p ∧
          (p = 0 ∨ ∃ y, Q[p - 1]? = some y ∧ ltC cf y x = true) ∧ (q = Q.length ∨ ∃ y, Q[q]? = some y ∧ ltC cf y x = false) ∧ Sat e w (DK v (P ++ [x] ++ Q ++ S) :: R)) Q.length
        ⟨0, Q.length, by simp, by rw [show b = m + Q.length by omega], Nat.zero_le _, Nat.le_refl _, rfl, .inl rfl, .inl rfl, hS⟩ ?_
      rintro z _ _ w g ⟨p, q, rfl, rfl, hpq, hqQ, rfl, hp, hq, h1⟩ hg
      refine ltn_c (fun c2 => iff_t ?_) (fun c2 => iff_f ?_)
      · refine addn_s (by omega) (half_s (xo := fun _ => _) (yo := fun _ => _) (by omega) ?_)
        rw [show (m + p + (m + q)) / 2 = m + (p + q) / 2 by omega]
        have hh : (p + q) / 2 < Q.length := by omega
        obtain ⟨y, hy⟩ := get_of_lt hh
        refine dr_s h1 fun w2 h2 => ?_
        refine ixS_rd h2 0 rfl (fun g hg => own_rd hg) kept_len (get_in (P := P ++ [x]) hy (by simp; omega)) fun r hr => ?_
        refine ldN_of h2 0 rfl hr rfl ?_
        refine ixS_rd (j := a) h2 0 rfl (fun g hg => own_rd hg) kept_len (x := x) (by rw [ha]; simp) fun r hr => ?_
        refine ldN_of h2 0 rfl hr rfl ?_
        refine hc _ _ _ _ _ h2 fun w3 h3 => ?_
        refine lt_c (fun c3 => iff_t ?_) (fun c3 => iff_f ?_)
        · refine inc_s (by omega) ?_
          refine hg _ _ _ _ (by omega) ⟨(p + q) / 2 + 1, q, rfl, rfl, by omega, hqQ, rfl, .inr ⟨y, by rw [Nat.add_sub_cancel]; exact hy, decide_eq_true c3⟩, hq, h3⟩
        · refine hg _ _ _ _ (by omega) ⟨p, (p + q) / 2, rfl, rfl, by omega, by omega, rfl, hp, .inr ⟨y, hy, decide_eq_false c3⟩, h3⟩
      · obtain rfl : p = q := by omega
        have hlow : ∀ y ∈ Q.take p, ltC cf y x = true := by
          rcases hp with rfl | ⟨y, hy, hyx⟩
          · simp
          · have hp0 : p - 1 + 1 = p := by
              by_cases h0 : p = 0
              · exfalso
                subst h0
                rcases hq with h | ⟨y', hy', hyx'⟩
                · omega
                · rw [show 0 - 1 = 0 from rfl, hy'] at hy
                  cases hy
                  rw [hyx] at hyx'
                  cases hyx'
              · omega
            have := asc_below o aQ hy hyx
            rw [hp0] at this
            exact this
        have hhigh : ∀ y ∈ Q.drop p, ltC cf y x = false := by
          rcases hq with rfl | ⟨y, hy, hyx⟩
          · simp
          · exact asc_above o aQ hy hyx
        have hmg : mg (ltC cf) [x] Q = Q.take p ++ x :: Q.drop p := by
          conv => lhs; rw [← List.take_append_drop p Q]
          exact mg_one hlow hhigh
        rw [hmg] at hk
        have hQp : (Q.take p).length = p := by rw [List.length_take]; omega
        obtain ⟨Q1, hQ1⟩ : ∃ Q1, Q1 = Q.take p := ⟨_, rfl⟩
        obtain ⟨Q2, hQ2⟩ : ∃ Q2, Q2 = Q.drop p := ⟨_, rfl⟩
        have hQs : Q = Q1 ++ Q2 := by rw [hQ1, hQ2, List.take_append_drop]
        rw [← hQ1, ← hQ2] at hk
        rw [← hQ1] at hQp
        rw [hQs] at h1
        refine lpi1 (fun z t13 w => ∃ i : Nat, i ≤ p ∧ t13 = .int .i64 ((a + i : Nat) : Int) ∧ z = p - i ∧ Sat e w (DK v (P ++ Q1.take i ++ x :: Q1.drop i ++ Q2 ++ S) :: R)) p
          ⟨0, Nat.zero_le _, rfl, rfl, by simpa using h1⟩ ?_
        rintro z _ w g2 ⟨i, hi, rfl, rfl, h2⟩ hg2
        refine dec_s (by omega) (by omega) (ltn_c (fun c3 => iff_t ?_) (fun c3 => iff_f ?_))
        · obtain ⟨y, hy⟩ := get_of_lt (l := Q1) (j := i) (by omega)
          have hsh : P ++ Q1.take i ++ x :: Q1.drop i ++ Q2 ++ S = (P ++ Q1.take i) ++ x :: ([] ++ y :: (Q1.drop (i + 1) ++ Q2 ++ S)) := by rw [drop_cons hy]; simp
          rw [hsh] at h2
          have l1 : a + i = (P ++ Q1.take i).length := by rw [List.length_append, List.length_take]; omega
          have l2 : a + i + 1 = (P ++ Q1.take i).length + 1 + ([] : List Kept).length := by rw [← l1]; rfl
          refine dr_s h2 fun w3 h3 => ?_
          refine inc_s (by omega) (inc_s (by omega) ?_)
          refine swap_s (l := (P ++ Q1.take i) ++ x :: ([] ++ y :: (Q1.drop (i + 1) ++ Q2 ++ S))) kept_len (fun _ => ints_flat _) (get_mid l1) (get_mid2 l2) h3 fun w4 h4 => ?_
          rw [swap_mid l1 l2] at h4
          refine inc_s (by omega) ?_
          refine hg2 _ _ _ (by omega) ⟨i + 1, by omega, rfl, rfl, ?_⟩
          rw [take_snoc hy]
          simpa using h4
        · obtain rfl : i = p := by omega
          rw [List.take_of_length_le (by omega), List.drop_of_length_le (by omega)] at h2
          exact hk _ (by simpa using h2)
    refine subn_s (by omega) (by omega) (eq_c (fun c2 => iff_t ?_) (fun c2 => iff_f ?_))
    · -- one from the right
      obtain ⟨y, rfl⟩ : ∃ y, Q = [y] := List.length_eq_one_iff.1 (by omega)
      simp only [List.length_cons, List.length_nil] at *
      refine lpi2 (fun z t14 t15 w => ∃ p q : Nat, t14 = .int .i64 ((a + p : Nat) : Int) ∧ t15 = .int .i64 ((a + q : Nat) : Int) ∧ p ≤ q ∧ q ≤ L.length ∧ z = q - p ∧
          (p = 0 ∨ ∃ x, L[p - 1]? = some x ∧ ltC cf y x = false) ∧ (q = L.length ∨ ∃ x, L[q]? = some x ∧ ltC cf y x = true) ∧ Sat e w (DK v (P ++ L ++ [y] ++ S) :: R)) L.length
        ⟨0, L.length, by simp, by rw [show m = a + L.length by omega], Nat.zero_le _, Nat.le_refl _, rfl, .inl rfl, .inl rfl, hS⟩ ?_
      rintro z _ _ w g ⟨p, q, rfl, rfl, hpq, hqL, rfl, hp, hq, h1⟩ hg
      refine ltn_c (fun c2 => iff_t ?_) (fun c2 => iff_f ?_)
      · refine addn_s (by omega) (half_s (xo := fun _ => _) (yo := fun _ => _) (by omega) ?_)
        rw [show (a + p + (a + q)) / 2 = a + (p + q) / 2 by omega]
        have hh : (p + q) / 2 < L.length := by omega
        obtain ⟨x, hx⟩ := get_of_lt hh
        refine dr_s h1 fun w2 h2 => ?_
        refine ixS_rd (j := m) h2 0 rfl (fun g hg => own_rd hg) kept_len (x := y) (get_in (P := P ++ L) (L := [y]) (i := 0) rfl (by simp; omega)) fun r hr => ?_
        refine ldN_of h2 0 rfl hr rfl ?_
        refine ixS_rd h2 0 rfl (fun g hg => own_rd hg) kept_len (x := x) (by rw [List.append_assoc]; exact get_in hx (by omega)) fun r hr => ?_
        refine ldN_of h2 0 rfl hr rfl ?_
        refine hc _ _ _ _ _ h2 fun w3 h3 => ?_
        refine lt_c (fun c3 => not_t (iff_f ?_)) (fun c3 => not_f (iff_t ?_))
        · refine hg _ _ _ _ (by omega) ⟨p, (p + q) / 2, rfl, rfl, by omega, by omega, rfl, hp, .inr ⟨x, hx, decide_eq_true c3⟩, h3⟩
        · refine inc_s (by omega) ?_
          refine hg _ _ _ _ (by omega) ⟨(p + q) / 2 + 1, q, rfl, rfl, by omega, hqL, rfl, .inr ⟨x, by rw [Nat.add_sub_cancel]; exact hx, decide_eq_false c3⟩, hq, h3⟩
      · obtain rfl : p = q := by omega
        have hlow : ∀ x ∈ L.take p, ltC cf y x = false := by
          rcases hp with rfl | ⟨x, hx, hyx⟩
          · simp
          · have hp0 : p - 1 + 1 = p := by
              by_cases h0 : p = 0
              · exfalso
                subst h0
                rcases hq with h | ⟨x', hx', hyx'⟩
                · omega
                · rw [show 0 - 1 = 0 from rfl, hx'] at hx
                  cases hx
                  rw [hyx] at hyx'
                  cases hyx'
              · omega
            have := asc_last o aL hx hyx
            rw [hp0] at this
            exact this
        have hhigh : ∀ x ∈ L.drop p, ltC cf y x = true := by
          rcases hq with rfl | ⟨x, hx, hyx⟩
          · simp
          · exact asc_first o aL hx hyx
        have hmg : mg (ltC cf) L [y] = L.take p ++ y :: L.drop p := by
          conv => lhs; rw [← List.take_append_drop p L]
          exact mg_one' hlow hhigh
        rw [hmg] at hk
        have hL2l : (L.drop p).length = L.length - p := List.length_drop
        have hL1l : (L.take p).length = p := by rw [List.length_take]; omega
        obtain ⟨L1, hL1⟩ : ∃ L1, L1 = L.take p := ⟨_, rfl⟩
        obtain ⟨L2, hL2⟩ : ∃ L2, L2 = L.drop p := ⟨_, rfl⟩
        have hLs : L = L1 ++ L2 := by rw [hL1, hL2, List.take_append_drop]
        rw [← hL1, ← hL2] at hk
        rw [← hL1] at hL1l
        rw [← hL2] at hL2l
        rw [hLs] at h1
        refine lpi1 (fun z t17 w => z ≤ L2.length ∧ t17 = .int .i64 ((a + p + z : Nat) : Int) ∧ Sat e w (DK v (P ++ L1 ++ L2.take z ++ y :: L2.drop z ++ S) :: R)) L2.length
          ⟨Nat.le_refl _, by rw [show m = a + p + L2.length by omega], by simpa using h1⟩ ?_
        rintro z _ w g2 ⟨hz, rfl, h2⟩ hg2
        refine gt_c (fun c3 => iff_t ?_) (fun c3 => iff_f ?_)
        · obtain ⟨u, hu⟩ := get_of_lt (l := L2) (j := z - 1) (by omega)
          have hz1 : z - 1 + 1 = z := by omega
          have htk := take_snoc hu
          rw [hz1] at htk
          have hsh : P ++ L1 ++ L2.take z ++ y :: L2.drop z ++ S = (P ++ L1 ++ L2.take (z - 1)) ++ u :: ([] ++ y :: (L2.drop z ++ S)) := by rw [htk]; simp
          rw [hsh] at h2
          have l1 : a + p + z - 1 = (P ++ L1 ++ L2.take (z - 1)).length := by simp only [List.length_append, List.length_take]; omega
          have l2 : a + p + z = (P ++ L1 ++ L2.take (z - 1)).length + 1 + ([] : List Kept).length := by rw [← l1, List.length_nil]; omega
          refine dr_s h2 fun w3 h3 => ?_
          refine dec_s (by omega) (by omega) (dec_s (by omega) (by omega) ?_)
          refine swap_s (l := (P ++ L1 ++ L2.take (z - 1)) ++ u :: ([] ++ y :: (L2.drop z ++ S))) kept_len (fun _ => ints_flat _) (get_mid2 l2) (get_mid l1) h3 fun w4 h4 => ?_
          rw [swap_mid' l1 l2] at h4
          refine dec_s (by omega) (by omega) ?_
          refine hg2 (z - 1) _ _ (by omega) ⟨by omega, by rw [show a + p + z - 1 = a + p + (z - 1) by omega], ?_⟩
          have hdc := drop_cons hu
          rw [hz1] at hdc
          rw [hdc]
          simpa using h4
        · obtain rfl : z = 0 := by omega
          exact hk _ (by simpa using h2)
    -- the middle
    refine addn_s (by omega) (half_s (xo := fun _ => _) (yo := fun _ => _) (by omega) ?_)
    obtain ⟨mid, hmid⟩ : ∃ mid, mid = (a + b) / 2 := ⟨_, rfl⟩
    rw [← hmid]
    refine addn_s (by omega) ?_
    refine gt_d ?_
    refine J2.cut (fun t20 t21 w => ∃ s0 r0 : Nat, t20 = .int .i64 (s0 : Int) ∧ t21 = .int .i64 (r0 : Int) ∧ ((s0 = a ∧ r0 = m ∧ m ≤ mid) ∨ (s0 = mid + m - b ∧ r0 = mid ∧ mid < m)) ∧ Sat e w (DK v (P ++ L ++ Q ++ S) :: R)) (fun k5 hcut => ?_) ?_
    · refine iff_d (fun c3 => ?_) (fun c3 => ?_)
      · refine subn_s (by omega) (by omega) ?_
        exact hcut _ _ _ ⟨_, _, rfl, rfl, .inr ⟨rfl, rfl, by omega⟩, hS⟩
      · exact hcut _ _ _ ⟨_, _, rfl, rfl, .inl ⟨rfl, rfl, by omega⟩, hS⟩
    rintro _ _ w ⟨s0, r0, rfl, rfl, hsr, h1⟩
    refine dec_s (by omega) (by omega) ?_
    have hsr0 : s0 ≤ r0 := by omega
    refine lpi2 (fun z t20 t21 w => ∃ s r : Nat, t20 = .int .i64 (s : Int) ∧ t21 = .int .i64 (r : Int) ∧ s0 ≤ s ∧ s ≤ r ∧ r ≤ r0 ∧ z = r - s ∧
        (s = s0 ∨ (s0 < s ∧ ∃ x y, L[s - 1 - a]? = some x ∧ Q[mid - s]? = some y ∧ ltC cf y x = false)) ∧ (r = r0 ∨ (r < r0 ∧ ∃ x y, L[r - a]? = some x ∧ Q[mid - 1 - r]? = some y ∧ ltC cf y x = true)) ∧ Sat e w (DK v (P ++ L ++ Q ++ S) :: R)) (r0 - s0)
      ⟨s0, r0, rfl, rfl, Nat.le_refl _, hsr0, Nat.le_refl _, rfl, .inl rfl, .inl rfl, h1⟩ ?_
    rintro z _ _ w g ⟨s, r, rfl, rfl, hs0, hsr1, hr0, rfl, hs, hr, h2⟩ hg
    refine ltn_c (fun c4 => iff_t ?_) (fun c4 => iff_f ?_)
    · refine addn_s (by omega) (half_s (xo := fun _ => _) (yo := fun _ => _) (by omega) ?_)
      obtain ⟨c, hcc⟩ : ∃ c, c = (s + r) / 2 := ⟨_, rfl⟩
      rw [← hcc]
      have hc1 : s ≤ c := by omega
      have hc2 : c < r := by omega
      obtain ⟨x, hx⟩ := get_of_lt (l := L) (j := c - a) (by omega)
      obtain ⟨y, hy⟩ := get_of_lt (l := Q) (j := mid - 1 - c) (by omega)
      refine dr_s h2 fun w3 h3 => ?_
      refine subn_s (by omega) (by omega) ?_
      refine ixS_rd h3 0 rfl (fun g hg => own_rd hg) kept_len (x := y) (get_in (P := P ++ L) hy (by rw [List.length_append]; omega)) fun p hp => ?_
      refine ldN_of h3 0 rfl hp rfl ?_
      refine ixS_rd h3 0 rfl (fun g hg => own_rd hg) kept_len (x := x) (by rw [List.append_assoc]; exact get_in hx (by omega)) fun p hp => ?_
      refine ldN_of h3 0 rfl hp rfl ?_
      refine hc _ _ _ _ _ h3 fun w4 h4 => ?_
      refine lt_c (fun c5 => not_t (iff_f ?_)) (fun c5 => not_f (iff_t ?_))
      · exact hg _ _ _ _ (by omega) ⟨s, c, rfl, rfl, hs0, by omega, by omega, rfl, hs, .inr ⟨by omega, x, y, hx, hy, decide_eq_true c5⟩, h4⟩
      · refine inc_s (by omega) ?_
        exact hg _ _ _ _ (by omega) ⟨c + 1, r, rfl, rfl, by omega, by omega, hr0, rfl, .inr ⟨by omega, x, y, by rw [Nat.add_sub_cancel]; exact hx, by rw [show mid - (c + 1) = mid - 1 - c by omega]; exact hy, decide_eq_false c5⟩, hr, h4⟩
    obtain rfl : s = r := by omega
    have hsa : a ≤ s := by omega
    have hsm : s ≤ m := by omega
    have hsd : s ≤ mid := by omega
    have heb : mid + m - s ≤ b := by omega
    have hL1l : (L.take (s - a)).length = s - a := by rw [List.length_take]; omega
    have hL2l : (L.drop (s - a)).length = m - s := by rw [List.length_drop]; omega
    have hQ1l : (Q.take (mid - s)).length = mid - s := by rw [List.length_take]; omega
    have hQ2l : (Q.drop (mid - s)).length = b - (mid + m - s) := by rw [List.length_drop]; omega
    have p1 : ∀ x ∈ L.drop (s - a), ∀ y ∈ Q.take (mid - s), ltC cf y x = true := by
      intro x hx y hy
      rcases hr with hr | ⟨hr, x0, y0, hx0, hy0, hlt⟩
      · rcases hsr with ⟨_, hrm, _⟩ | ⟨_, hrm, _⟩
        · rw [List.drop_of_length_le (by omega)] at hx; cases hx
        · rw [show mid - s = 0 by omega, List.take_zero] at hy; cases hy
      · have h3 := asc_first o aL hx0 hlt x hx
        have h4 := asc_below o aQ hy0 h3
        rw [show mid - 1 - s + 1 = mid - s by omega] at h4
        exact h4 y hy
    have p2 : ∀ x ∈ L.take (s - a), ∀ y ∈ Q.drop (mid - s), ltC cf y x = false := by
      intro x hx y hy
      rcases hs with hs | ⟨hs, x0, y0, hx0, hy0, hlt⟩
      · rcases hsr with ⟨hsx, _, _⟩ | ⟨hsx, _, _⟩
        · rw [show s - a = 0 by omega, List.take_zero] at hx; cases hx
        · rw [List.drop_of_length_le (by omega)] at hy; cases hy
      · have h3 := asc_above o aQ hy0 hlt y hy
        have h4 := asc_last o aL hx0 h3
        rw [show s - 1 - a + 1 = s - a by omega] at h4
        exact h4 x hx
    have hmg : mg (ltC cf) L Q = mg (ltC cf) (L.take (s - a)) (Q.take (mid - s)) ++ mg (ltC cf) (L.drop (s - a)) (Q.drop (mid - s)) := by
      conv => lhs; rw [← List.take_append_drop (s - a) L, ← List.take_append_drop (mid - s) Q]
      exact mg_parts p1 p2
    have aL' : Asc (ltC cf) (L.take (s - a) ++ L.drop (s - a)) := by rw [List.take_append_drop]; exact aL
    have aQ' : Asc (ltC cf) (Q.take (mid - s) ++ Q.drop (mid - s)) := by rw [List.take_append_drop]; exact aQ
    have hLe : L = L.take (s - a) ++ L.drop (s - a) := (List.take_append_drop _ _).symm
    have hQe : Q = Q.take (mid - s) ++ Q.drop (mid - s) := (List.take_append_drop _ _).symm
    rw [hmg] at hk
    have h3 : Sat e w (DK v (P ++ (L.take (s - a) ++ L.drop (s - a)) ++ (Q.take (mid - s) ++ Q.drop (mid - s)) ++ S) :: R) := by rw [← hLe, ← hQe]; exact h2
    clear hs hr p1 p2 hmg h2 hLe hQe
    generalize L.take (s - a) = L1 at *
    generalize L.drop (s - a) = L2 at *
    generalize Q.take (mid - s) = Q1 at *
    generalize Q.drop (mid - s) = Q2 at *
    refine subn_s (by omega) (by omega) ?_
    refine ltlt_s ?_
    refine J0.cut (fun w => Sat e w (DK v (P ++ L1 ++ Q1 ++ L2 ++ Q2 ++ S) :: R)) (fun k7 hcut => ?_) ?_
    · refine iff_d (fun c5 => ?_) (fun c5 => hcut _ ?_)
      · refine rotate_s (P := P ++ L1) (A := L2) (B := Q1) (S := Q2 ++ S) (by rw [List.length_append]; omega) (by rw [List.length_append]; omega) (by rw [List.length_append]; omega) (by omega) (by omega) (by simp only [List.length_append]; omega) (by simpa using h3) fun w5 h5 => ?_
        exact hcut _ (by simpa using h5)
      · have : L2 = [] ∨ Q1 = [] := by
          by_cases h : s < m
          · exact .inr (List.length_eq_zero_iff.1 (by omega))
          · exact .inl (List.length_eq_zero_iff.1 (by omega))
        rcases this with h | h <;> subst h <;> simpa using h3
    intro w5 h5
    refine ltlt_s ?_
    refine J0.cut (fun w => Sat e w (DK v (P ++ mg (ltC cf) L1 Q1 ++ L2 ++ Q2 ++ S) :: R)) (fun k8 hcut => ?_) ?_
    · refine iff_d (fun c5 => ?_) (fun c5 => hcut _ ?_)
      · refine ih (P := P) (L := L1) (Q := Q1) (S := L2 ++ Q2 ++ S) (by omega) ha (by omega) (by omega) (by omega) (by omega) (by simp only [List.length_append]; omega) aL'.left aQ'.left (by simpa using h5) fun w6 h6 => ?_
        exact hcut _ (by simpa using h6)
      · have : L1 = [] ∨ Q1 = [] := by
          by_cases h : a < s
          · exact .inr (List.length_eq_zero_iff.1 (by omega))
          · exact .inl (List.length_eq_zero_iff.1 (by omega))
        rcases this with h | h
        · subst h; rw [mg_nil]; simpa using h5
        · subst h; rw [mg_nil']; simpa using h5
    intro w6 h6
    refine ltlt_s ?_
    refine iff_d (fun c5 => ?_) (fun c5 => hk _ ?_)
    · refine ih (P := P ++ mg (ltC cf) L1 Q1) (L := L2) (Q := Q2) (S := S) (by omega) (by rw [List.length_append, mg_length]; omega) (by rw [List.length_append, mg_length]; omega) (by rw [List.length_append, mg_length]; omega) (by omega) (by omega) (by simp only [List.length_append, mg_length]; omega) aL'.right aQ'.right (by simpa using h6) fun w7 h7 => ?_
      exact hk _ (by simpa using h7)
    · have : L2 = [] ∨ Q2 = [] := by
        by_cases h : mid < mid + m - s
        · exact .inr (List.length_eq_zero_iff.1 (by omega))
        · exact .inl (List.length_eq_zero_iff.1 (by omega))
      rcases this with h | h
      · subst h; rw [mg_nil]; simpa using h6
      · subst h; rw [mg_nil']; simpa using h6

/-- What is sorted by blocks. -/
def srt (cf : Kept → Kept → Int) (B : List (List Kept)) : List Kept := (B.map (stab (ltC cf))).flatten
theorem srt_len (B : List (List Kept)) : (srt cf B).length = B.flatten.length := by
  induction B with
  | nil => rfl
  | cons b B ih => simp only [srt, List.map_cons, List.flatten_cons, List.length_append, stab_length] at ih ⊢; rw [ih]
theorem srt_append (A B : List (List Kept)) : srt cf (A ++ B) = srt cf A ++ srt cf B := by simp [srt]
theorem srt_cons (b : List Kept) (B : List (List Kept)) : srt cf (b :: B) = stab (ltC cf) b ++ srt cf B := by simp [srt]
theorem flat_len {B : List (List Kept)} {k : Nat} (h : ∀ b ∈ B, b.length = k) : B.flatten.length = B.length * k := by
  induction B with
  | nil => simp
  | cons b B ih => rw [List.flatten_cons, List.length_append, h b List.mem_cons_self, ih fun x hx => h x (List.mem_cons_of_mem _ hx), List.length_cons, Nat.add_mul]; omega

theorem stable_s (hc : CmpOk e fv cf) (o : Ordered (ltC cf)) {l : List Kept} (hlen : l.length ≤ 1000000) (hS : Sat e w (DK v l :: R)) (hk : ∀ w', Sat e w' (DK v (stab (ltC cf) l) :: R) → K (.tuple #[]) w') :
    Cl prog 112 #[v, .int .i64 (l.length : Int), fv] w K := by
  refine slices_stableCmpFunc_gate_kept_calls ?_
  unfold slices_stableCmpFunc_gate_kept
  refine lpi2 (fun z t7 t8 w => ∃ (B : List (List Kept)) (r : List Kept), l = B.flatten ++ r ∧ (∀ b ∈ B, b.length = 20) ∧ t7 = .int .i64 (B.flatten.length : Int) ∧ t8 = .int .i64 ((B.flatten.length + 20 : Nat) : Int) ∧ z = r.length ∧ Sat e w (DK v (srt cf B ++ r) :: R)) l.length
    ⟨[], l, rfl, (fun _ h => by cases h), rfl, rfl, rfl, hS⟩ ?_
  rintro z _ _ w g ⟨B, r, hl, hB, rfl, rfl, rfl, h1⟩ hg
  have hll : l.length = B.flatten.length + r.length := by rw [hl, List.length_append]
  refine le_c (fun c1 => iff_t ?_) (fun c1 => iff_f ?_)
  · have hr20 : 20 ≤ r.length := by omega
    have htl : (r.take 20).length = 20 := by rw [List.length_take]; omega
    refine insertion_s hc o (P := srt cf B) (X := r.take 20) (S := r.drop 20) (srt_len B).symm (by rw [srt_len, htl]) (by simp only [List.length_append, List.length_take, List.length_drop, srt_len]; omega) (by simpa using h1) fun w2 h2 => ?_
    refine addn_s (b := 20) (by omega) ?_
    refine hg _ _ _ _ (by rw [List.length_drop]; omega) ⟨B ++ [r.take 20], r.drop 20, by rw [hl]; simp, fun b hb => ?_, ?_, ?_, rfl, ?_⟩
    · rcases List.mem_append.1 hb with h | h
      · exact hB b h
      · rw [List.mem_singleton.1 h]; exact htl
    · rw [List.flatten_append, List.length_append]; simp [htl]
    · rw [List.flatten_append, List.length_append]; simp [htl]
    · rw [srt_append, srt_cons]
      simpa [srt] using h2
  · have hr20 : r.length < 20 := by omega
    refine insertion_s hc o (P := srt cf B) (X := r) (S := []) (srt_len B).symm (by rw [srt_len, hll]) (by simp only [List.length_append, srt_len, List.length_nil]; omega) (by simpa using h1) fun w2 h2 => ?_
    rw [List.append_nil] at h2
    refine lpi1 (fun z t6 w => ∃ (bs : Nat) (B : List (List Kept)) (r : List Kept), l = B.flatten ++ r ∧ 0 < bs ∧ bs ≤ 2000000 ∧ (∀ b ∈ B, b.length = bs) ∧ r.length < bs ∧ t6 = .int .i64 (bs : Int) ∧ z = l.length - bs ∧ Sat e w (DK v (srt cf B ++ stab (ltC cf) r) :: R)) (l.length - 20)
      ⟨20, B, r, hl, by decide, by decide, hB, hr20, rfl, rfl, h2⟩ ?_
    clear hl hB hr20 hll h1 h2 hg c1
    rintro z _ w g2 ⟨bs, B, r, hl, hbs, hbs2, hB, hr, rfl, rfl, h1⟩ hg2
    have hll : l.length = B.flatten.length + r.length := by rw [hl, List.length_append]
    refine ltn_c (fun c2 => iff_t ?_) (fun c2 => iff_f ?_)
    · refine muln_s (a := 2) (by omega) ?_
      refine lpi2 (fun z t7 t8 w => ∃ (D B : List (List Kept)), l = D.flatten ++ B.flatten ++ r ∧ (∀ b ∈ D, b.length = 2 * bs) ∧ (∀ b ∈ B, b.length = bs) ∧ t7 = .int .i64 (D.flatten.length : Int) ∧ t8 = .int .i64 ((D.flatten.length + 2 * bs : Nat) : Int) ∧ z = B.length ∧
          Sat e w (DK v (srt cf D ++ srt cf B ++ stab (ltC cf) r) :: R)) B.length
        ⟨[], B, by simpa using hl, (fun _ h => by cases h), hB, rfl, by simp, rfl, h1⟩ ?_
      clear hl hB hll h1
      rintro z _ _ w g3 ⟨D, B, hl, hD, hB, rfl, rfl, rfl, h1⟩ hg3
      have hll : l.length = D.flatten.length + B.flatten.length + r.length := by rw [hl, List.length_append, List.length_append]
      have hBl := flat_len hB
      refine le_c (fun c3 => iff_t ?_) (fun c3 => iff_f ?_)
      · -- two blocks more
        obtain ⟨X, Y, B', rfl⟩ : ∃ X Y B', B = X :: Y :: B' := by
          match B with
          | [] => simp only [List.length_nil] at hBl; omega
          | [X] => simp only [List.length_cons, List.length_nil] at hBl; omega
          | X :: Y :: B' => exact ⟨X, Y, B', rfl⟩
        have hXl : X.length = bs := hB X (by simp)
        have hYl : Y.length = bs := hB Y (by simp)
        rw [List.flatten_cons, List.flatten_cons, List.length_append, List.length_append] at hll
        refine addn_s (by omega) ?_
        refine symMerge_s hc o _ (P := srt cf D) (L := stab (ltC cf) X) (Q := stab (ltC cf) Y) (S := srt cf B' ++ stab (ltC cf) r) (Nat.le_refl _) (srt_len D).symm (by rw [srt_len, stab_length]; omega) (by rw [srt_len, stab_length, stab_length]; omega)
          (by rw [stab_length]; omega) (by rw [stab_length]; omega) (by simp only [List.length_append, srt_len, stab_length]; omega) (stab_asc o _) (stab_asc o _) (by rw [srt_cons, srt_cons] at h1; simpa using h1) fun w4 h4 => ?_
        refine muln_s (a := 2) (by omega) (addn_s (by omega) ?_)
        refine hg3 _ _ _ _ (by simp only [List.length_cons]; omega) ⟨D ++ [X ++ Y], B', by rw [hl]; simp, fun b hb => ?_, fun b hb => hB b (by simp [hb]), ?_, ?_, rfl, ?_⟩
        · rcases List.mem_append.1 hb with h | h
          · exact hD b h
          · rw [List.mem_singleton.1 h, List.length_append]; omega
        · rw [List.flatten_append, List.length_append]; simp [hXl, hYl]; omega
        · rw [List.flatten_append, List.length_append]; simp [hXl, hYl]; omega
        · rw [srt_append, srt_cons, stab_append o]
          simpa [srt] using h4
      · -- at most one block more
        refine addn_s (by omega) (lt_d ?_)
        refine J0.cut (fun w => ∃ r', l = D.flatten ++ r' ∧ r'.length < 2 * bs ∧ Sat e w (DK v (srt cf D ++ stab (ltC cf) r') :: R)) (fun k4 hcut => ?_) ?_
        · refine iff_d (fun c4 => ?_) (fun c4 => hcut _ ?_)
          · obtain ⟨X, rfl⟩ : ∃ X, B = [X] := by
              match B with
              | [] => simp only [List.length_nil] at hBl; omega
              | [X] => exact ⟨X, rfl⟩
              | X :: Y :: B' => simp only [List.length_cons, Nat.add_mul] at hBl; omega
            have hXl : X.length = bs := hB X (by simp)
            simp only [List.flatten_cons, List.flatten_nil, List.append_nil] at hll hl
            refine symMerge_s hc o _ (P := srt cf D) (L := stab (ltC cf) X) (Q := stab (ltC cf) r) (S := []) (Nat.le_refl _) (srt_len D).symm (by rw [srt_len, stab_length]; omega) (by rw [srt_len, stab_length, stab_length]; omega)
              (by rw [stab_length]; omega) (by rw [stab_length]; omega) (by simp only [List.length_append, srt_len, stab_length, List.length_nil]; omega) (stab_asc o _) (stab_asc o _) (by rw [srt_cons] at h1; simpa [srt] using h1) fun w4 h4 => ?_
            refine hcut _ ⟨X ++ r, by rw [hl]; simp, by rw [List.length_append]; omega, ?_⟩
            rw [stab_append o]
            simpa using h4
          · match B, hB, hl, hll, hBl, h1 with
            | [], hB, hl, hll, hBl, h1 => exact ⟨r, by simpa using hl, by omega, by simpa [srt] using h1⟩
            | [X], hB, hl, hll, hBl, h1 =>
              have hXl : X.length = bs := hB X (by simp)
              simp only [List.flatten_cons, List.flatten_nil, List.append_nil] at hll
              have hr0 : r = [] := List.length_eq_zero_iff.1 (by omega)
              subst hr0
              exact ⟨X, by simpa using hl, by omega, by simpa [srt, stab] using h1⟩
            | X :: Y :: B', hB, hl, hll, hBl, h1 => simp only [List.length_cons, Nat.add_mul] at hBl; omega
        · rintro w5 ⟨r', hl', hr', h5⟩
          refine muln_s (b := 2) (by omega) ?_
          exact hg2 _ _ _ (by omega) ⟨bs * 2, D, r', hl', by omega, by omega, fun b hb => by rw [hD b hb]; omega, by omega, rfl, rfl, h5⟩
    · have hBl := flat_len hB
      refine hk _ ?_
      match B, hB, hl, hll, hBl, h1 with
      | [], hB, hl, hll, hBl, h1 => rw [show l = r by simpa using hl]; simpa [srt] using h1
      | [X], hB, hl, hll, hBl, h1 =>
        have hXl : X.length = bs := hB X (by simp)
        simp only [List.flatten_cons, List.flatten_nil, List.append_nil] at hll
        have hr0 : r = [] := List.length_eq_zero_iff.1 (by omega)
        subst hr0
        rw [show l = X by simpa using hl]
        simpa [srt, stab] using h1
      | X :: Y :: B', hB, hl, hll, hBl, h1 => simp only [List.length_cons, Nat.add_mul] at hBl; omega

theorem sortStable_s {S : HP} (hc : CmpOk e fv cf) (o : Ordered (ltC cf)) {l : List Kept} (hlen : l.length ≤ 1000000) (hS : Sat e w (DK v l :: S :: R)) (hk : ∀ w', Sat e w' (DK v (stab (ltC cf) l) :: S :: R) → K (.tuple #[]) w') :
    Cl prog 97 #[v, fv] w K := by
  refine slices_SortStableFunc_gate_kept_gate_kept_calls ?_
  unfold slices_SortStableFunc_gate_kept_gate_kept
  refine lnS_rd hS 0 rfl (fun g hg => own_rd hg) ?_
  exact stable_s hc o hlen hS hk
end Go.Proofs.Ytdiglafiimnfoaa
