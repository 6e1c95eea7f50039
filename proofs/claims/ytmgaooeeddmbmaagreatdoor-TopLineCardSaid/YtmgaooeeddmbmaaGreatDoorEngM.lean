/- The engine, part M: maps. Conditions: none. -/
import Derived.Test.YtmgaooeeddmbmaaGreatDoorEngH
import Derived.Maps.RangeRun
namespace Go.E
open Go.RowKit

/-! ### Tests whose answer is kept -/
theorem lt_d {k : IntKind} {a b : Int} {w : World} {K : KV} (h : K (.bool (decide (a < b))) w) : bi .lss k (.int k a) (.int k b) w K := by
  by_cases c : a < b
  · rw [decide_eq_true c] at h; exact lt_t c h
  · rw [decide_eq_false c] at h; exact lt_f c h
theorem le_d {k : IntKind} {a b : Int} {w : World} {K : KV} (h : K (.bool (decide (a ≤ b))) w) : bi .leq k (.int k a) (.int k b) w K := by
  by_cases c : a ≤ b
  · rw [decide_eq_true c] at h; exact le_t c h
  · rw [decide_eq_false c] at h; exact le_f c h
theorem gt_d {k : IntKind} {a b : Int} {w : World} {K : KV} (h : K (.bool (decide (b < a))) w) : bi .gtr k (.int k a) (.int k b) w K := by
  by_cases c : b < a
  · rw [decide_eq_true c] at h; exact gt_t c h
  · rw [decide_eq_false c] at h; exact gt_f c h
theorem ge_d {k : IntKind} {a b : Int} {w : World} {K : KV} (h : K (.bool (decide (b ≤ a))) w) : bi .geq k (.int k a) (.int k b) w K := by
  by_cases c : b ≤ a
  · rw [decide_eq_true c] at h; exact ge_t c h
  · rw [decide_eq_false c] at h; exact ge_f c h
theorem eq_d {k : IntKind} {a b : Int} {w : World} {K : KV} (h : K (.bool (decide (a = b))) w) : bi .eql k (.int k a) (.int k b) w K := by
  by_cases c : a = b
  · rw [decide_eq_true c] at h; exact eq_t c h
  · rw [decide_eq_false c] at h; exact eq_f c h
theorem ne_d {k : IntKind} {a b : Int} {w : World} {K : KV} (h : K (.bool (decide (¬ a = b))) w) : bi .neq k (.int k a) (.int k b) w K := by
  by_cases c : ¬ a = b
  · rw [decide_eq_true c] at h; exact ne_t c h
  · rw [decide_eq_false c] at h; exact ne_f (Decidable.not_not.1 c) h
theorem xt_02 {a b : Value} {w : World} {K : KV} (h : K a w) : xt 0 (.tuple #[a, b]) w K := ⟨_, a, rfl, rfl, h⟩
theorem xt_12 {a b : Value} {w : World} {K : KV} (h : K b w) : xt 1 (.tuple #[a, b]) w K := ⟨_, b, rfl, rfl, h⟩
theorem xt_03 {a b c : Value} {w : World} {K : KV} (h : K a w) : xt 0 (.tuple #[a, b, c]) w K := ⟨_, a, rfl, rfl, h⟩
theorem xt_13 {a b c : Value} {w : World} {K : KV} (h : K b w) : xt 1 (.tuple #[a, b, c]) w K := ⟨_, b, rfl, rfl, h⟩
theorem xt_23 {a b c : Value} {w : World} {K : KV} (h : K c w) : xt 2 (.tuple #[a, b, c]) w K := ⟨_, c, rfl, rfl, h⟩
theorem gd_u {s : Bool} {body : KV → Prop} {w : World} {K : KV} (h : K undef w) : gd undef s body w K := ⟨fun e => (by cases e), fun _ => h⟩
theorem not_d {q : Bool} {w : World} {K : KV} (h : K (.bool (!q)) w) : bnot (.bool q) w K := ⟨q, rfl, h⟩
theorem iff_d {p : Prop} [Decidable p] {A B : Prop} (h1 : p → A) (h2 : ¬ p → B) : iff' (.bool (decide p)) A B := ⟨decide p, rfl, fun h => h1 (of_decide_eq_true h), fun h => h2 (of_decide_eq_false h)⟩
/-! ### Loops with a measure that stands in what holds -/
theorem least_nat (p : Nat → Prop) : ∀ n, p n → ∃ n, p n ∧ ∀ m, p m → n ≤ m := by
  intro n
  induction n using Nat.strongRecOn with
  | _ n ih =>
    intro h
    by_cases hq : ∃ m, m < n ∧ p m
    · obtain ⟨m, hm, hpm⟩ := hq
      exact ih m hm hpm
    · exact ⟨n, h, fun m hm => by
        by_cases hl : m < n
        · exact absurd ⟨m, hl, hm⟩ hq
        · omega⟩
open Classical in
noncomputable def lst (p : Nat → Prop) : Nat := if h : ∃ n, p n ∧ ∀ m, p m → n ≤ m then Classical.choose h else 0
theorem lst_spec {p : Nat → Prop} {n : Nat} (h : p n) : p (lst p) ∧ ∀ m, p m → lst p ≤ m := by
  have := least_nat p n h
  unfold lst
  rw [dif_pos this]
  exact Classical.choose_spec this
theorem lpi0 {w : World} {f : World → Again → Prop} (I : Nat → World → Prop) (n : Nat) (h0 : I n w)
    (hr : ∀ n w (g : Again), I n w → (∀ n' w', n' < n → I n' w' → g [] w') → f w g) : lp [] w (b0 f) := by
  refine lp0 (fun w => ∃ n, I n w) (fun w => lst fun n => I n w) ⟨n, h0⟩ ?_
  rintro w g ⟨n, hI⟩ hg
  have hs := lst_spec (p := fun n => I n w) hI
  exact hr _ w g hs.1 fun n' w' hn hI' => hg _ ⟨n', hI'⟩ (Nat.lt_of_le_of_lt ((lst_spec (p := fun n => I n w') hI').2 n' hI') hn)
theorem lpi1 {x0 : Value} {w : World} {f : Value → World → Again → Prop} (I : Nat → Value → World → Prop) (n : Nat) (h0 : I n x0 w)
    (hr : ∀ n x0 w (g : Again), I n x0 w → (∀ n' x0' w', n' < n → I n' x0' w' → g [x0'] w') → f x0 w g) : lp [x0] w (b1 f) := by
  refine lp1 (fun x0 w => ∃ n, I n x0 w) (fun x0 w => lst fun n => I n x0 w) ⟨n, h0⟩ ?_
  rintro x0 w g ⟨n, hI⟩ hg
  have hs := lst_spec (p := fun n => I n x0 w) hI
  exact hr _ x0 w g hs.1 fun n' x0' w' hn hI' => hg _ _ ⟨n', hI'⟩ (Nat.lt_of_le_of_lt ((lst_spec (p := fun n => I n x0' w') hI').2 n' hI') hn)
theorem lpi2 {x0 x1 : Value} {w : World} {f : Value → Value → World → Again → Prop} (I : Nat → Value → Value → World → Prop) (n : Nat) (h0 : I n x0 x1 w)
    (hr : ∀ n x0 x1 w (g : Again), I n x0 x1 w → (∀ n' x0' x1' w', n' < n → I n' x0' x1' w' → g [x0', x1'] w') → f x0 x1 w g) : lp [x0, x1] w (b2 f) := by
  refine lp2 (fun x0 x1 w => ∃ n, I n x0 x1 w) (fun x0 x1 w => lst fun n => I n x0 x1 w) ⟨n, h0⟩ ?_
  rintro x0 x1 w g ⟨n, hI⟩ hg
  have hs := lst_spec (p := fun n => I n x0 x1 w) hI
  exact hr _ x0 x1 w g hs.1 fun n' x0' x1' w' hn hI' => hg _ _ _ ⟨n', hI'⟩ (Nat.lt_of_le_of_lt ((lst_spec (p := fun n => I n x0' x1' w') hI').2 n' hI') hn)
theorem lpi3 {x0 x1 x2 : Value} {w : World} {f : Value → Value → Value → World → Again → Prop} (I : Nat → Value → Value → Value → World → Prop) (n : Nat) (h0 : I n x0 x1 x2 w)
    (hr : ∀ n x0 x1 x2 w (g : Again), I n x0 x1 x2 w → (∀ n' x0' x1' x2' w', n' < n → I n' x0' x1' x2' w' → g [x0', x1', x2'] w') → f x0 x1 x2 w g) : lp [x0, x1, x2] w (b3 f) := by
  refine lp3 (fun x0 x1 x2 w => ∃ n, I n x0 x1 x2 w) (fun x0 x1 x2 w => lst fun n => I n x0 x1 x2 w) ⟨n, h0⟩ ?_
  rintro x0 x1 x2 w g ⟨n, hI⟩ hg
  have hs := lst_spec (p := fun n => I n x0 x1 x2 w) hI
  exact hr _ x0 x1 x2 w g hs.1 fun n' x0' x1' x2' w' hn hI' => hg _ _ _ _ ⟨n', hI'⟩ (Nat.lt_of_le_of_lt ((lst_spec (p := fun n => I n x0' x1' x2' w') hI').2 n' hI') hn)
theorem lpi4 {x0 x1 x2 x3 : Value} {w : World} {f : Value → Value → Value → Value → World → Again → Prop} (I : Nat → Value → Value → Value → Value → World → Prop) (n : Nat) (h0 : I n x0 x1 x2 x3 w)
    (hr : ∀ n x0 x1 x2 x3 w (g : Again), I n x0 x1 x2 x3 w → (∀ n' x0' x1' x2' x3' w', n' < n → I n' x0' x1' x2' x3' w' → g [x0', x1', x2', x3'] w') → f x0 x1 x2 x3 w g) : lp [x0, x1, x2, x3] w (b4 f) := by
  refine lp4 (fun x0 x1 x2 x3 w => ∃ n, I n x0 x1 x2 x3 w) (fun x0 x1 x2 x3 w => lst fun n => I n x0 x1 x2 x3 w) ⟨n, h0⟩ ?_
  rintro x0 x1 x2 x3 w g ⟨n, hI⟩ hg
  have hs := lst_spec (p := fun n => I n x0 x1 x2 x3 w) hI
  exact hr _ x0 x1 x2 x3 w g hs.1 fun n' x0' x1' x2' x3' w' hn hI' => hg _ _ _ _ _ ⟨n', hI'⟩ (Nat.lt_of_le_of_lt ((lst_spec (p := fun n => I n x0' x1' x2' x3' w') hI').2 n' hI') hn)
theorem lpi5 {x0 x1 x2 x3 x4 : Value} {w : World} {f : Value → Value → Value → Value → Value → World → Again → Prop} (I : Nat → Value → Value → Value → Value → Value → World → Prop) (n : Nat) (h0 : I n x0 x1 x2 x3 x4 w)
    (hr : ∀ n x0 x1 x2 x3 x4 w (g : Again), I n x0 x1 x2 x3 x4 w → (∀ n' x0' x1' x2' x3' x4' w', n' < n → I n' x0' x1' x2' x3' x4' w' → g [x0', x1', x2', x3', x4'] w') → f x0 x1 x2 x3 x4 w g) : lp [x0, x1, x2, x3, x4] w (b5 f) := by
  refine lp5 (fun x0 x1 x2 x3 x4 w => ∃ n, I n x0 x1 x2 x3 x4 w) (fun x0 x1 x2 x3 x4 w => lst fun n => I n x0 x1 x2 x3 x4 w) ⟨n, h0⟩ ?_
  rintro x0 x1 x2 x3 x4 w g ⟨n, hI⟩ hg
  have hs := lst_spec (p := fun n => I n x0 x1 x2 x3 x4 w) hI
  exact hr _ x0 x1 x2 x3 x4 w g hs.1 fun n' x0' x1' x2' x3' x4' w' hn hI' => hg _ _ _ _ _ _ ⟨n', hI'⟩ (Nat.lt_of_le_of_lt ((lst_spec (p := fun n => I n x0' x1' x2' x3' x4' w') hI').2 n' hI') hn)
theorem lpi6 {x0 x1 x2 x3 x4 x5 : Value} {w : World} {f : Value → Value → Value → Value → Value → Value → World → Again → Prop} (I : Nat → Value → Value → Value → Value → Value → Value → World → Prop) (n : Nat) (h0 : I n x0 x1 x2 x3 x4 x5 w)
    (hr : ∀ n x0 x1 x2 x3 x4 x5 w (g : Again), I n x0 x1 x2 x3 x4 x5 w → (∀ n' x0' x1' x2' x3' x4' x5' w', n' < n → I n' x0' x1' x2' x3' x4' x5' w' → g [x0', x1', x2', x3', x4', x5'] w') → f x0 x1 x2 x3 x4 x5 w g) : lp [x0, x1, x2, x3, x4, x5] w (b6 f) := by
  refine lp6 (fun x0 x1 x2 x3 x4 x5 w => ∃ n, I n x0 x1 x2 x3 x4 x5 w) (fun x0 x1 x2 x3 x4 x5 w => lst fun n => I n x0 x1 x2 x3 x4 x5 w) ⟨n, h0⟩ ?_
  rintro x0 x1 x2 x3 x4 x5 w g ⟨n, hI⟩ hg
  have hs := lst_spec (p := fun n => I n x0 x1 x2 x3 x4 x5 w) hI
  exact hr _ x0 x1 x2 x3 x4 x5 w g hs.1 fun n' x0' x1' x2' x3' x4' x5' w' hn hI' => hg _ _ _ _ _ _ _ ⟨n', hI'⟩ (Nat.lt_of_le_of_lt ((lst_spec (p := fun n => I n x0' x1' x2' x3' x4' x5' w') hI').2 n' hI') hn)
theorem lpi7 {x0 x1 x2 x3 x4 x5 x6 : Value} {w : World} {f : Value → Value → Value → Value → Value → Value → Value → World → Again → Prop} (I : Nat → Value → Value → Value → Value → Value → Value → Value → World → Prop) (n : Nat) (h0 : I n x0 x1 x2 x3 x4 x5 x6 w)
    (hr : ∀ n x0 x1 x2 x3 x4 x5 x6 w (g : Again), I n x0 x1 x2 x3 x4 x5 x6 w → (∀ n' x0' x1' x2' x3' x4' x5' x6' w', n' < n → I n' x0' x1' x2' x3' x4' x5' x6' w' → g [x0', x1', x2', x3', x4', x5', x6'] w') → f x0 x1 x2 x3 x4 x5 x6 w g) : lp [x0, x1, x2, x3, x4, x5, x6] w (b7 f) := by
  refine lp7 (fun x0 x1 x2 x3 x4 x5 x6 w => ∃ n, I n x0 x1 x2 x3 x4 x5 x6 w) (fun x0 x1 x2 x3 x4 x5 x6 w => lst fun n => I n x0 x1 x2 x3 x4 x5 x6 w) ⟨n, h0⟩ ?_
  rintro x0 x1 x2 x3 x4 x5 x6 w g ⟨n, hI⟩ hg
  have hs := lst_spec (p := fun n => I n x0 x1 x2 x3 x4 x5 x6 w) hI
  exact hr _ x0 x1 x2 x3 x4 x5 x6 w g hs.1 fun n' x0' x1' x2' x3' x4' x5' x6' w' hn hI' => hg _ _ _ _ _ _ _ _ ⟨n', hI'⟩ (Nat.lt_of_le_of_lt ((lst_spec (p := fun n => I n x0' x1' x2' x3' x4' x5' x6' w') hI').2 n' hI') hn)
theorem lpi8 {x0 x1 x2 x3 x4 x5 x6 x7 : Value} {w : World} {f : Value → Value → Value → Value → Value → Value → Value → Value → World → Again → Prop} (I : Nat → Value → Value → Value → Value → Value → Value → Value → Value → World → Prop) (n : Nat) (h0 : I n x0 x1 x2 x3 x4 x5 x6 x7 w)
    (hr : ∀ n x0 x1 x2 x3 x4 x5 x6 x7 w (g : Again), I n x0 x1 x2 x3 x4 x5 x6 x7 w → (∀ n' x0' x1' x2' x3' x4' x5' x6' x7' w', n' < n → I n' x0' x1' x2' x3' x4' x5' x6' x7' w' → g [x0', x1', x2', x3', x4', x5', x6', x7'] w') → f x0 x1 x2 x3 x4 x5 x6 x7 w g) : lp [x0, x1, x2, x3, x4, x5, x6, x7] w (b8 f) := by
  refine lp8 (fun x0 x1 x2 x3 x4 x5 x6 x7 w => ∃ n, I n x0 x1 x2 x3 x4 x5 x6 x7 w) (fun x0 x1 x2 x3 x4 x5 x6 x7 w => lst fun n => I n x0 x1 x2 x3 x4 x5 x6 x7 w) ⟨n, h0⟩ ?_
  rintro x0 x1 x2 x3 x4 x5 x6 x7 w g ⟨n, hI⟩ hg
  have hs := lst_spec (p := fun n => I n x0 x1 x2 x3 x4 x5 x6 x7 w) hI
  exact hr _ x0 x1 x2 x3 x4 x5 x6 x7 w g hs.1 fun n' x0' x1' x2' x3' x4' x5' x6' x7' w' hn hI' => hg _ _ _ _ _ _ _ _ _ ⟨n', hI'⟩ (Nat.lt_of_le_of_lt ((lst_spec (p := fun n => I n x0' x1' x2' x3' x4' x5' x6' x7' w') hI').2 n' hI') hn)
theorem lpi9 {x0 x1 x2 x3 x4 x5 x6 x7 x8 : Value} {w : World} {f : Value → Value → Value → Value → Value → Value → Value → Value → Value → World → Again → Prop} (I : Nat → Value → Value → Value → Value → Value → Value → Value → Value → Value → World → Prop) (n : Nat) (h0 : I n x0 x1 x2 x3 x4 x5 x6 x7 x8 w)
    (hr : ∀ n x0 x1 x2 x3 x4 x5 x6 x7 x8 w (g : Again), I n x0 x1 x2 x3 x4 x5 x6 x7 x8 w → (∀ n' x0' x1' x2' x3' x4' x5' x6' x7' x8' w', n' < n → I n' x0' x1' x2' x3' x4' x5' x6' x7' x8' w' → g [x0', x1', x2', x3', x4', x5', x6', x7', x8'] w') → f x0 x1 x2 x3 x4 x5 x6 x7 x8 w g) : lp [x0, x1, x2, x3, x4, x5, x6, x7, x8] w (b9 f) := by
  refine lp9 (fun x0 x1 x2 x3 x4 x5 x6 x7 x8 w => ∃ n, I n x0 x1 x2 x3 x4 x5 x6 x7 x8 w) (fun x0 x1 x2 x3 x4 x5 x6 x7 x8 w => lst fun n => I n x0 x1 x2 x3 x4 x5 x6 x7 x8 w) ⟨n, h0⟩ ?_
  rintro x0 x1 x2 x3 x4 x5 x6 x7 x8 w g ⟨n, hI⟩ hg
  have hs := lst_spec (p := fun n => I n x0 x1 x2 x3 x4 x5 x6 x7 x8 w) hI
  exact hr _ x0 x1 x2 x3 x4 x5 x6 x7 x8 w g hs.1 fun n' x0' x1' x2' x3' x4' x5' x6' x7' x8' w' hn hI' => hg _ _ _ _ _ _ _ _ _ _ ⟨n', hI'⟩ (Nat.lt_of_le_of_lt ((lst_spec (p := fun n => I n x0' x1' x2' x3' x4' x5' x6' x7' x8' w') hI').2 n' hI') hn)
theorem lpi10 {x0 x1 x2 x3 x4 x5 x6 x7 x8 x9 : Value} {w : World} {f : Value → Value → Value → Value → Value → Value → Value → Value → Value → Value → World → Again → Prop} (I : Nat → Value → Value → Value → Value → Value → Value → Value → Value → Value → Value → World → Prop) (n : Nat) (h0 : I n x0 x1 x2 x3 x4 x5 x6 x7 x8 x9 w)
    (hr : ∀ n x0 x1 x2 x3 x4 x5 x6 x7 x8 x9 w (g : Again), I n x0 x1 x2 x3 x4 x5 x6 x7 x8 x9 w → (∀ n' x0' x1' x2' x3' x4' x5' x6' x7' x8' x9' w', n' < n → I n' x0' x1' x2' x3' x4' x5' x6' x7' x8' x9' w' → g [x0', x1', x2', x3', x4', x5', x6', x7', x8', x9'] w') → f x0 x1 x2 x3 x4 x5 x6 x7 x8 x9 w g) : lp [x0, x1, x2, x3, x4, x5, x6, x7, x8, x9] w (b10 f) := by
  refine lp10 (fun x0 x1 x2 x3 x4 x5 x6 x7 x8 x9 w => ∃ n, I n x0 x1 x2 x3 x4 x5 x6 x7 x8 x9 w) (fun x0 x1 x2 x3 x4 x5 x6 x7 x8 x9 w => lst fun n => I n x0 x1 x2 x3 x4 x5 x6 x7 x8 x9 w) ⟨n, h0⟩ ?_
  rintro x0 x1 x2 x3 x4 x5 x6 x7 x8 x9 w g ⟨n, hI⟩ hg
  have hs := lst_spec (p := fun n => I n x0 x1 x2 x3 x4 x5 x6 x7 x8 x9 w) hI
  exact hr _ x0 x1 x2 x3 x4 x5 x6 x7 x8 x9 w g hs.1 fun n' x0' x1' x2' x3' x4' x5' x6' x7' x8' x9' w' hn hI' => hg _ _ _ _ _ _ _ _ _ _ _ ⟨n', hI'⟩ (Nat.lt_of_le_of_lt ((lst_spec (p := fun n => I n x0' x1' x2' x3' x4' x5' x6' x7' x8' x9' w') hI').2 n' hI') hn)
theorem find_uniq {κ ν : Type} [DecidableEq κ] : ∀ {m : List (κ × ν)}, (m.map (·.1)).Nodup → ∀ {p : κ × ν}, p ∈ m → (m.find? fun q => decide (q.1 = p.1)) = some p
  | [], _, p, h => by cases h
  | q :: m, hn, p, h => by
    rw [List.map_cons, List.nodup_cons] at hn
    rw [List.find?_cons]
    cases h with
    | head => simp
    | tail _ h =>
      have : ¬ q.1 = p.1 := fun e => hn.1 (List.mem_map.2 ⟨p, h, e.symm⟩)
      simp only [this, decide_false]
      exact find_uniq hn.2 h

section
variable {κ ν : Type}
/-- What is asked of a key's type. -/
structure KeyT [DecidableEq κ] (P : Program) (kt : TypeId) (kf : κ → Value) : Prop where
  chk : ∀ (b : Bool) (k : κ) (w : World), (Instr.checkKey b 10000 kt (kf k)).run P w = .ok () w
  fnd : ∀ (k : κ) (es : List MapEntry) (ks : List κ), es.map (·.key) = ks.map kf → ∀ w : World, (Instr.findKey kt (kf k) es).run P w = .ok ((ks.findIdx? fun x => decide (x = k)).bind fun i => (es[i]?).map fun e => (i, e.val)) w
  sam : ∀ k, Instr.sameBits 10000 (kf k) (kf k) = true

structure MapT (P : Program) (t kt vt : TypeId) (zv : Value) : Prop where
  und : P.underlying t = some (.map kt vt)
  zero : ∃ i, P.info? vt = some i ∧ i.zero = some zv

/-- Stamps rise, all below the clock. -/
def Born (es : List MapEntry) (clock : Nat) : Prop := es.Pairwise (fun a b => a.born < b.born) ∧ ∀ e ∈ es, e.born < clock
def pairOf (kf : κ → Value) (vf : ν → Value) (p : κ × ν) : Value × Value := (kf p.1, vf p.2)
/-- Block b is a map that holds m, in the order in which the keys came. -/
def isMap (kf : κ → Value) (vf : ν → Value) (b : Nat) (m : List (κ × ν)) : HP := fun h =>
  ∃ es clock, h b = some (.map es clock) ∧ es.toList.map (fun e => (e.key, e.val)) = m.map (pairOf kf vf) ∧ Born es.toList clock
def lkA [DecidableEq κ] (m : List (κ × ν)) (k : κ) : Option ν := (m.find? fun p => decide (p.1 = k)).map (·.2)
def upA [DecidableEq κ] (m : List (κ × ν)) (k : κ) (x : ν) : List (κ × ν) := if (lkA m k).isSome then m.map (fun p => if p.1 = k then (k, x) else p) else m ++ [(k, x)]
def Uniq (m : List (κ × ν)) : Prop := (m.map (·.1)).Nodup

variable {P : Program} {kt vt t : TypeId} {kf : κ → Value} {vf : ν → Value} {zv : Value} {e w : World} {L : List HP} {K : KV} {b : Nat} {m : List (κ × ν)}

theorem es_keys {es : List MapEntry} (h : es.map (fun e => (e.key, e.val)) = m.map (pairOf kf vf)) : es.map (·.key) = (m.map (·.1)).map kf := by
  have := congrArg (List.map Prod.fst) h
  simpa [List.map_map, Function.comp_def, pairOf] using this
theorem es_val {es : List MapEntry} (h : es.map (fun e => (e.key, e.val)) = m.map (pairOf kf vf)) (i : Nat) : (es[i]?).map (·.val) = (m[i]?).map fun p => vf p.2 := by
  have := congrArg (fun l => (l[i]?).map Prod.snd) h
  simpa [List.getElem?_map, Option.map_map, Function.comp_def, pairOf] using this
theorem es_key {es : List MapEntry} (h : es.map (fun e => (e.key, e.val)) = m.map (pairOf kf vf)) (i : Nat) : (es[i]?).map (·.key) = (m[i]?).map fun p => kf p.1 := by
  have := congrArg (fun l => (l[i]?).map Prod.fst) h
  simpa [List.getElem?_map, Option.map_map, Function.comp_def, pairOf] using this

theorem fidx_lk [DecidableEq κ] : ∀ (m : List (κ × ν)) (k : κ), ((m.map (·.1)).findIdx? fun x => decide (x = k)).bind (fun i => (m[i]?).map (·.2)) = lkA m k
  | [], k => rfl
  | p :: m, k => by
    simp only [List.map_cons, List.findIdx?_cons, lkA, List.find?_cons]
    by_cases h : p.1 = k
    · simp [h]
    · have ih := fidx_lk m k
      simp only [lkA] at ih
      simp only [h, decide_false, Bool.false_eq_true, if_false, ← ih]
      cases hf : (m.map (·.1)).findIdx? (fun x => decide (x = k)) with
      | none => simp
      | some i => simp

theorem Sat.getMap (hS : Sat e w L) (i : Nat) (hi : L[i]? = some (isMap kf vf b m)) : ∃ es clock, w.heap[b]? = some (.map es clock) ∧ es.toList.map (fun e => (e.key, e.val)) = m.map (pairOf kf vf) ∧ Born es.toList clock := by
  obtain ⟨g, ⟨es, clock, h1, h2, h3⟩, hs⟩ := hS.get i hi
  exact ⟨es, clock, hs _ _ h1, h2, h3⟩

theorem mkMap_s (kf : κ → Value) (vf : ν → Value) (hS : Sat e w L) (hk : ∀ b w', Sat e w' (isMap kf vf b [] :: L) → K (.map (some b)) w') : mkMap w K := by
  refine hk _ _ ((hS.alloc (.map #[] 0)).imp fun g hg => ⟨#[], 0, hg, rfl, ?_⟩)
  exact ⟨List.Pairwise.nil, fun e he => by cases he⟩

theorem run_getObj {b : Nat} {es : Array MapEntry} {clock : Nat} (h : w.heap[b]? = some (.map es clock)) : (getObj b).run P w = .ok (.map es clock) w := by
  simp only [getObj, Sem.run, h]

theorem lkM_s [DecidableEq κ] (KT : KeyT P kt kf) (MT : MapT P t kt vt zv) (hS : Sat e w L) (i : Nat) (hi : L[i]? = some (isMap kf vf b m)) (k : κ)
    (hk : K (.tuple #[match lkA m k with | some x => vf x | none => zv, .bool (lkA m k).isSome]) w) : lkM P t (.map (some b)) (kf k) true w K := by
  obtain ⟨es, clock, h1, h2, h3⟩ := hS.getMap i hi
  obtain ⟨inf, hi1, hi2⟩ := MT.zero
  refine ex_oV (w' := w) ?_ hk
  have hf := KT.fnd k es.toList (m.map (·.1)) (es_keys h2) w
  unfold Instr.lookup
  simp only [Sem.run_bind, run_und MT.und, Result.andThen_ok, run_getObj h1, Sem.run_pure, KT.chk, hf]
  have hl := fidx_lk m k
  cases hx : (m.map (·.1)).findIdx? (fun x => decide (x = k)) with
  | none =>
    rw [hx] at hl
    simp only [Option.bind_none] at hl ⊢
    rw [← hl]
    simp only [Sem.run_bind, run_zero hi1 hi2, Result.andThen_ok, Sem.run_pure]
    rfl
  | some j =>
    rw [hx] at hl
    simp only [Option.bind_some] at hl ⊢
    have hv := es_val h2 j
    have hjl : j < m.length := by
      obtain ⟨hj, _⟩ := List.findIdx?_eq_some_iff_getElem.1 hx
      simpa using hj
    rw [List.getElem?_eq_getElem hjl] at hv hl
    simp only [Option.map_some] at hv hl
    obtain ⟨e', he, hev⟩ := Option.map_eq_some_iff.1 hv
    rw [he, ← hl]
    simp only [Option.map_some, hev]
    rfl

theorem findNow_int {k0 : IntKind} (k : Int) : ∀ (es : List MapEntry) (ks : List Int) (i : Nat), es.map (·.key) = ks.map (fun n => Value.int k0 n) →
    Instr.findNow (.int k0) (.int k0 k) es i = some ((ks.findIdx? fun x => decide (x = k)).bind fun j => (es[j]?).map fun e => (i + j, e.val))
  | [], ks, i, h => by
    cases ks with
    | nil => rfl
    | cons => cases h
  | e :: es, ks, i, h => by
    cases ks with
    | nil => cases h
    | cons x ks =>
      simp only [List.map_cons, List.cons.injEq] at h
      simp only [Instr.findNow, h.1, Instr.sameNow, if_true, List.findIdx?_cons]
      by_cases hx : x = k
      · subst hx
        simp
      · have hk : (k == x) = false := by simp; exact fun e => hx e.symm
        rw [hk, findNow_int k es ks (i + 1) h.2]
        simp only [hx, decide_false, Bool.false_eq_true, if_false]
        cases ks.findIdx? (fun x => decide (x = k)) with
        | none => rfl
        | some j => simp [Nat.add_comm, Nat.add_left_comm]

theorem keyT_int {P : Program} {kt : TypeId} {k0 : IntKind} (hu : P.underlying kt = some (.int k0)) : KeyT P kt (fun n : Int => .int k0 n) where
  chk b k w := by
    unfold Instr.checkKey
    simp only [Sem.run_bind, run_und hu, Result.andThen_ok, Sem.run_pure]
  fnd k es ks h w := by
    unfold Instr.findKey
    simp only [Sem.run_bind, run_und hu, Result.andThen_ok, findNow_int k es ks 0 h, Sem.run_pure, Nat.zero_add]
  sam k := by simp [Instr.sameBits]

theorem born_modify {es : List MapEntry} {clock : Nat} (h : Born es clock) (i : Nat) (f : MapEntry → MapEntry) (hf : ∀ e, (f e).born = e.born) : Born (es.modify i f) clock := by
  have hb : (es.modify i f).map (·.born) = es.map (·.born) := by
    apply List.ext_getElem?
    intro j
    simp only [List.getElem?_map, List.getElem?_modify]
    cases es[j]? with
    | none => rfl
    | some x => by_cases hij : i = j <;> simp [hij, hf]
  constructor
  · have h1 := (List.pairwise_map (f := fun e : MapEntry => e.born) (R := (· < ·))).2 h.1
    rw [← hb] at h1
    exact List.pairwise_map.1 h1
  · intro e he
    have : e.born ∈ (es.modify i f).map (·.born) := List.mem_map.2 ⟨e, he, rfl⟩
    rw [hb] at this
    obtain ⟨e', he', h2⟩ := List.mem_map.1 this
    rw [← h2]
    exact h.2 e' he'

/-- A store. -/
theorem upM_s [DecidableEq κ] (KT : KeyT P kt kf) (MT : MapT P t kt vt zv) (hu : Uniq m) (hS : Sat e w (isMap kf vf b m :: L)) (k : κ) (x : ν) {xv : Value} (hx : xv = vf x)
    (hk : ∀ w', Sat e w' (isMap kf vf b (upA m k x) :: L) → K undef w') : upM P t (.map (some b)) (kf k) xv w K := by
  subst hx
  obtain ⟨h1, h2, d, s1, s2, ⟨es, clock, hb, hm, hbo⟩, r⟩ := hS.mem
  have hh : w.heap[b]? = some (.map es clock) := s1 _ _ hb
  have hlt : b < w.heap.size := (Array.getElem?_eq_some_iff.1 hh).1
  have hS0 : Sat e w ((fun g => g b = some (.map es clock)) :: L) := ⟨hS.os, hS.tape, hS.output, hS.drawn, hS.size, h1, h2, d, s1, s2, hb, r⟩
  have hf := KT.fnd k es.toList (m.map (·.1)) (es_keys hm) w
  have hl := fidx_lk m k
  cases hx : (m.map (·.1)).findIdx? (fun x => decide (x = k)) with
  | none =>
    rw [hx] at hl hf
    simp only [Option.bind_none] at hl hf
    refine ex_oU (w' := World.setB w b (.map (es.push { key := kf k, val := vf x, born := clock }) (clock + 1))) ?_ (hk _ ?_)
    · unfold Instr.mapUpdate
      simp only [Sem.run_bind, run_und MT.und, Result.andThen_ok, run_getObj hh, KT.chk, hf, setObj, Sem.run, hh, World.setB]
    · refine hS0.setB.imp fun g hg => ⟨_, _, hg, ?_, ?_⟩
      · unfold upA
        rw [← hl]
        simp [hm, pairOf]
      · constructor
        · rw [Array.toList_push, List.pairwise_append]
          exact ⟨hbo.1, by simp, fun a ha b hb' => by simp at hb'; subst hb'; exact hbo.2 a ha⟩
        · intro e' he'
          rw [Array.toList_push, List.mem_append] at he'
          rcases he' with he' | he'
          · have := hbo.2 e' he'; omega
          · simp at he'; subst he'; simp
  | some j =>
    rw [hx] at hl hf
    simp only [Option.bind_some] at hl hf
    obtain ⟨hj, hjk, hjn⟩ := List.findIdx?_eq_some_iff_getElem.1 hx
    simp only [List.length_map] at hj
    simp only [List.getElem_map, decide_eq_true_eq] at hjk
    have hkey := es_key hm j
    rw [List.getElem?_eq_getElem hj] at hkey hl
    simp only [Option.map_some] at hkey hl
    obtain ⟨e', he, hek⟩ := Option.map_eq_some_iff.1 hkey
    rw [he] at hf
    simp only [Option.map_some] at hf
    have he2 : es[j]? = some e' := by rw [← Array.getElem?_toList]; exact he
    refine ex_oU (w' := World.setB w b (.map (es.modify j fun e => { e with key := kf k, val := vf x }) clock)) ?_ (hk _ ?_)
    · unfold Instr.mapUpdate
      have hst : (Instr.keyThatStays (((es[j]?).map (·.key)).getD (kf k)) (kf k)).run P w = .ok (kf k) w := by
        rw [he2]
        simp only [Option.map_some, Option.getD_some, hek, hjk, Instr.keyThatStays, KT.sam, if_true, Sem.run_pure]
      simp only [Sem.run_bind, run_und MT.und, Result.andThen_ok, run_getObj hh, KT.chk, hf, hst, setObj, Sem.run, hh, World.setB]
    · refine hS0.setB.imp fun g hg => ⟨_, _, hg, ?_, ?_⟩
      · unfold upA
        rw [← hl]
        simp only [Option.isSome_some, if_true]
        apply List.ext_getElem?
        intro n
        have hn := congrArg (fun l => l[n]?) hm
        simp only [List.getElem?_map] at hn ⊢
        rw [Array.toList_modify, List.getElem?_modify]
        cases hen : es.toList[n]? with
        | none =>
          rw [hen] at hn
          cases hmn : m[n]? with
          | none => rfl
          | some p => rw [hmn] at hn; cases hn
        | some en =>
          rw [hen] at hn
          cases hmn : m[n]? with
          | none => rw [hmn] at hn; cases hn
          | some p =>
            rw [hmn] at hn
            simp only [Option.map_some, Option.some.injEq] at hn ⊢
            by_cases hjn' : j = n
            · subst hjn'
              have hp : p.1 = k := by
                rw [List.getElem?_eq_getElem hj] at hmn
                cases hmn
                exact hjk
              simp [hp, pairOf]
            · have hp : p.1 ≠ k := by
                intro hpk
                have hnl := (List.getElem?_eq_some_iff.1 hmn).1
                have e1 : (m.map (·.1))[j]? = some k := by simp [List.getElem?_eq_getElem hj, hjk]
                have e2 : (m.map (·.1))[n]? = some k := by simp [hmn, hpk]
                have := (List.getElem?_inj (by simpa using hj) hu).1 (e1.trans e2.symm)
                exact hjn' this
              simp only [hjn', if_false, hp]
              exact congrArg some hn
      · rw [Array.toList_modify]
        exact born_modify hbo j _ (fun _ => rfl)

theorem upA_keys [DecidableEq κ] (m : List (κ × ν)) (k : κ) (x : ν) : (upA m k x).map (·.1) = if (lkA m k).isSome then m.map (·.1) else m.map (·.1) ++ [k] := by
  unfold upA
  split
  · rw [List.map_map]
    apply List.map_congr_left
    intro p _
    simp only [Function.comp]
    split
    · rename_i h; exact h.symm
    · rfl
  · simp
theorem lkA_none [DecidableEq κ] {m : List (κ × ν)} {k : κ} : lkA m k = none ↔ k ∉ m.map (·.1) := by
  unfold lkA
  simp only [Option.map_eq_none_iff, List.find?_eq_none, decide_eq_true_eq, List.mem_map, not_exists, not_and]
theorem Uniq.up [DecidableEq κ] {m : List (κ × ν)} (h : Uniq m) (k : κ) (x : ν) : Uniq (upA m k x) := by
  unfold Uniq
  rw [upA_keys]
  split
  · exact h
  · rename_i hn
    have : lkA m k = none := by cases hl : lkA m k <;> simp_all
    rw [lkA_none] at this
    rw [List.nodup_append]
    exact ⟨h, by simp, fun a ha b hb => by simp at hb; subst hb; exact fun e => this (e ▸ ha)⟩
theorem lkA_up [DecidableEq κ] {m : List (κ × ν)} (_h : Uniq m) (k : κ) (x : ν) (j : κ) : lkA (upA m k x) j = if j = k then some x else lkA m j := by
  unfold upA
  split
  · rename_i hs
    clear _h
    induction m with
    | nil => simp [lkA] at hs
    | cons p m ih =>
      simp only [lkA, List.map_cons, List.find?_cons] at hs ih ⊢
      by_cases hp : p.1 = k
      · by_cases hj : j = k
        · subst hj
          simp [hp]
        · have hpj : ¬ p.1 = j := fun e => hj (e ▸ hp)
          have hkj : ¬ k = j := fun e => hj e.symm
          simp only [hp, if_true, hkj, decide_false, hj, if_false]
          clear ih hs
          have : ∀ m : List (κ × ν), ((m.map fun p => if p.1 = k then (k, x) else p).find? fun p => decide (p.1 = j)).map (·.2) = (m.find? fun p => decide (p.1 = j)).map (·.2) := by
            intro m
            induction m with
            | nil => rfl
            | cons q m ih =>
              simp only [List.map_cons, List.find?_cons]
              by_cases hq : q.1 = k
              · have hqj : ¬ q.1 = j := fun e => hj (e ▸ hq)
                simp only [hq, if_true, hkj, decide_false]
                exact ih
              · simp only [hq, if_false]
                cases hqd : decide (q.1 = j) with
                | true => rfl
                | false => exact ih
          simpa using this m
      · simp only [hp, decide_false, if_false] at hs ⊢
        have ih' := ih hs
        by_cases hpj : p.1 = j
        · have hjk : ¬ j = k := fun e => hp (hpj.trans e)
          simp [hpj, hjk]
        · simp only [hpj, decide_false]
          exact ih'
  · rename_i hn
    have hnone : lkA m k = none := by cases hl : lkA m k <;> simp_all
    unfold lkA at hnone ⊢
    rw [List.find?_append]
    by_cases hj : j = k
    · subst hj
      rw [Option.map_eq_none_iff] at hnone
      simp [hnone]
    · have hkj : ¬ k = j := fun e => hj e.symm
      simp [hj, hkj]

/-! ### A range over a map that nobody writes meanwhile -/
/-- Block b is the map m, block r goes over it: what is still to come, what came last. -/
def rngM (kf : κ → Value) (vf : ν → Value) (b r : Nat) (m rem : List (κ × ν)) (cur : Option (κ × ν)) : HP := fun h =>
  ∃ es clock seen, h b = some (.map es clock) ∧ h r = some (.mapIter (some b) clock seen clock) ∧ es.toList.map (fun e => (e.key, e.val)) = m.map (pairOf kf vf) ∧ Born es.toList clock ∧
    (es.toList.filter fun e => !seen.contains e.born).map (fun e => (e.key, e.val)) = rem.map (pairOf kf vf) ∧
    match cur with
    | none => seen = #[]
    | some p => ∃ e' ∈ es.toList, seen.back? = some e'.born ∧ (e'.key, e'.val) = pairOf kf vf p

theorem rgM_s (hu : P.underlying t = some (.map kt vt)) (hS : Sat e w (isMap kf vf b m :: L)) (hk : ∀ r w', Sat e w' (rngM kf vf b r m m none :: L) → K (.pointer (some ⟨r, 0, none⟩)) w') : rgM P t (.map (some b)) w K := by
  obtain ⟨h1, h2, d, s1, s2, ⟨es, clock, hb, hm, hbo⟩, r⟩ := hS.mem
  have hh : w.heap[b]? = some (.map es clock) := s1 _ _ hb
  refine ex_oV (w' := w.alloc (.mapIter (some b) clock #[] clock)) (v := .pointer (some ⟨w.heap.size, 0, none⟩)) ?_ (hk _ _ ?_)
  · unfold Instr.range
    simp only [Sem.run_bind, run_und hu, Result.andThen_ok, run_getObj hh, Sem.run_pure, newObj, Sem.run, World.alloc]
  · have hS0 : Sat e w ((fun g => g b = some (.map es clock)) :: L) := ⟨hS.os, hS.tape, hS.output, hS.drawn, hS.size, h1, h2, d, s1, s2, hb, r⟩
    have h3 := hS0.alloc (.mapIter (some b) clock #[] clock)
    refine (Sat.join (l' := [_, _]) h3).imp fun g hg => ?_
    obtain ⟨g1, g2, d', t1, t2, p1, g3, g4, d2, t3, t4, p2, _⟩ := hg
    exact ⟨es, clock, #[], t2 _ _ (t3 _ _ p2), t1 _ _ p1, hm, hbo, by rw [List.filter_eq_self.2 (fun _ _ => by simp)]; exact hm, rfl⟩

theorem rngM_map {r : Nat} {rem : List (κ × ν)} {cur : Option (κ × ν)} : ∀ g, rngM kf vf b r m rem cur g → isMap kf vf b m g := fun _ ⟨es, clock, _, h1, _, h2, h3, _⟩ => ⟨es, clock, h1, h2, h3⟩

theorem Sat.setB2 {b : Nat} {o' : Obj} {Q P2 : HP} (hS : Sat e w (Q :: L)) (hq : ∀ g, Q g → ∃ o, g b = some o) (hp : ∀ g, Q g → P2 (fun x => if x = b then some o' else g x)) : Sat e (World.setB w b o') (P2 :: L) := by
  obtain ⟨h1, h2, d, s1, s2, q, r⟩ := hS.mem
  obtain ⟨o, ho⟩ := hq h1 q
  have hw : Go.E.hp w b = some o := s1 _ _ ho
  have hlt : b < w.heap.size := (Array.getElem?_eq_some_iff.1 hw).1
  have hb2 : h2 b = none := by
    rcases d b with k | k
    · rw [ho] at k; cases k
    · exact k
  refine ⟨hS.os, hS.tape, hS.output, hS.drawn, by simpa [World.setB] using hS.size, (fun x => if x = b then some o' else h1 x), h2, fun x => ?_, fun x u k => ?_, fun x u k => ?_, hp _ q, r⟩
  · by_cases e : x = b
    · subst e; exact .inr hb2
    · simp only [if_neg e]; exact d x
  · rw [hp_setB _ _ _ hlt]
    by_cases e : x = b
    · subst e; simpa using k
    · simp only [if_neg e] at k ⊢; exact s1 x u k
  · rw [hp_setB _ _ _ hlt]
    by_cases e : x = b
    · subst e; rw [hb2] at k; cases k
    · simp only [if_neg e]; exact s2 x u k

theorem List.eraseIdx_map_c {α β : Type} (f : α → β) : ∀ (l : List α) (i : Nat), (l.eraseIdx i).map f = (l.map f).eraseIdx i
  | [], _ => rfl
  | _ :: _, 0 => rfl
  | a :: l, i + 1 => by simp [List.eraseIdx_map_c f l i]
theorem filter_erase (es : List MapEntry) (seen : Array Nat) (x : MapEntry) (i : Nat) (hnd : (es.map (·.born)).Nodup) (l : List MapEntry) (hl : l = es.filter fun e => !seen.contains e.born) (hi : i < l.length) (hx : l[i] = x) :
    (es.filter fun e => !(seen.push x.born).contains e.born) = l.eraseIdx i := by
  have h1 : (es.filter fun e => !(seen.push x.born).contains e.born) = (es.filter fun e => !seen.contains e.born).filter fun e => !(e.born == x.born) := by
    rw [List.filter_filter]
    apply List.filter_congr
    intro a _
    by_cases h : a.born = x.born <;> simp [h, Array.mem_push]
  rw [h1, ← hl]
  have hnd2 : (l.map (·.born)).Nodup := by rw [hl]; exact (List.Sublist.map _ List.filter_sublist).nodup hnd
  clear h1 hnd hl
  induction l generalizing i with
  | nil => cases hi
  | cons a l ih =>
    rw [List.map_cons, List.nodup_cons] at hnd2
    cases i with
    | zero =>
      simp only [List.getElem_cons_zero] at hx
      subst hx
      simp only [List.filter_cons, beq_self_eq_true, Bool.not_true, Bool.false_eq_true, if_false, List.eraseIdx_cons_zero]
      apply List.filter_eq_self.2
      intro y hy
      have : y.born ≠ a.born := fun h => hnd2.1 (List.mem_map.2 ⟨y, hy, h⟩)
      simpa using this
    | succ i =>
      simp only [List.getElem_cons_succ] at hx
      have hil : i < l.length := by simpa using hi
      have : a.born ≠ x.born := fun h => hnd2.1 (List.mem_map.2 ⟨x, by rw [← hx]; exact List.getElem_mem _, h.symm⟩)
      have hb : (!(a.born == x.born)) = true := by simpa using this
      simp only [List.filter_cons, hb, if_true, List.eraseIdx_cons_succ]
      rw [ih i hil hx hnd2.2]

theorem nxM_s {r : Nat} {rem : List (κ × ν)} {cur : Option (κ × ν)} {ty : TypeId} (hS : Sat e w (rngM kf vf b r m rem cur :: L))
    (h0 : rem = [] → ∀ w', Sat e w' (rngM kf vf b r m [] cur :: L) → K (.tuple #[.bool false]) w')
    (h1 : ∀ (i : Nat) (p : κ × ν) (w' : World), rem[i]? = some p → Sat e w' (rngM kf vf b r m (rem.eraseIdx i) (some p) :: L) → K (.tuple #[.bool true, kf p.1, vf p.2]) w') :
    nxM P (.pointer (some ⟨r, 0, none⟩)) false ty w K := by
  obtain ⟨g, hg, hs⟩ := hS.get 0 rfl
  obtain ⟨es, clock, seen, hb, hr, hm, hbo, hrem, hcur⟩ := hg
  have hwb : w.heap[b]? = some (.map es clock) := hs _ _ hb
  have hwr : w.heap[r]? = some (.mapIter (some b) clock seen clock) := hs _ _ hr
  have hold : ∀ x ∈ es.toList, x.born < clock := hbo.2
  have hleft : (leftOf es seen).toList = es.toList.filter fun e => !seen.contains e.born := by unfold leftOf; simp
  rw [← hleft] at hrem
  rcases run_next_at (P := P) w ty r b clock clock seen es clock hwr hwb hold (Nat.le_refl _) with ⟨hz, hrun⟩ | ⟨x, hx, w1, hw1, hrun⟩
  · have hr0 : rem = [] := by
      have := congrArg List.length hrem
      rw [List.length_map, List.length_map, Array.length_toList, hz] at this
      exact List.length_eq_zero_iff.1 this.symm
    subst hr0
    exact ex_oV hrun (h0 rfl w hS)
  · obtain ⟨i, hi, hxi⟩ := List.getElem_of_mem hx
    have hil : i < rem.length := by
      have := congrArg List.length hrem
      simp only [List.length_map] at this
      omega
    have hpe : (x.key, x.val) = pairOf kf vf rem[i] := by
      have := congrArg (fun l => l[i]?) hrem
      simp only [List.getElem?_map, List.getElem?_eq_getElem hi, List.getElem?_eq_getElem hil, Option.map_some, Option.some.injEq, hxi] at this
      exact this
    have hSw : Sat e w1 (rngM kf vf b r m rem cur :: L) := by rcases hw1 with rfl | rfl; exact hS; exact hS.drew
    have hk2 := h1 i rem[i] (World.setB w1 r (.mapIter (some b) clock (seen.push x.born) clock)) (List.getElem?_eq_getElem hil)
    simp only [pairOf, Prod.mk.injEq] at hpe
    rw [← hpe.1, ← hpe.2] at hk2
    refine ex_oV hrun (hk2 ?_)
    have hw1b : w1.heap[b]? = some (.map es clock) := by rcases hw1 with rfl | rfl <;> exact hwb
    have hw1r : w1.heap[r]? = some (.mapIter (some b) clock seen clock) := by rcases hw1 with rfl | rfl <;> exact hwr
    have hS1 : Sat e w1 ((fun g => g b = some (.map es clock) ∧ g r = some (.mapIter (some b) clock seen clock)) :: L) := by
      obtain ⟨k1, k2, d, s1, s2, ⟨es', clock', seen', q1, q2, _⟩, rr⟩ := hSw.mem
      have e1 := s1 _ _ q1
      have e2 := s1 _ _ q2
      have f1 : some (Obj.map es' clock') = some (Obj.map es clock) := by rw [← hw1b]; exact e1.symm
      have f2 : some (Obj.mapIter (some b) clock' seen' clock') = some (Obj.mapIter (some b) clock seen clock) := by rw [← hw1r]; exact e2.symm
      refine ⟨hSw.os, hSw.tape, hSw.output, hSw.drawn, hSw.size, k1, k2, d, s1, s2, ⟨by rw [q1, f1], by rw [q2, f2]⟩, rr⟩
    refine hS1.setB2 (fun g hg => ⟨_, hg.2⟩) (fun g hg => ?_)
    have hbr : b ≠ r := by
      intro h
      subst h
      rw [hg.1] at hg
      cases hg.2
    have hnd : (es.toList.map (·.born)).Nodup := (List.pairwise_map (f := fun e : MapEntry => e.born) (R := (· < ·))).2 hbo.1 |>.imp (fun h => Nat.ne_of_lt h)
    refine ⟨es, clock, seen.push x.born, by simp only [if_neg hbr]; exact hg.1, by simp, hm, hbo, ?_, x, ?_, by simp, by simp only [pairOf, hpe]⟩
    · have : (es.toList.filter fun e => !(seen.push x.born).contains e.born) = (leftOf es seen).toList.eraseIdx i := by
        exact filter_erase es.toList seen x i hnd _ hleft hi hxi
      rw [this, List.eraseIdx_map_c, hrem, ← List.eraseIdx_map_c]
    · rw [hleft] at hx
      exact (List.mem_filter.1 hx).1

theorem enM_s {r : Nat} {rem : List (κ × ν)} {p : κ × ν} (i : Nat) (hS : Sat e w L) (hi : L[i]? = some (rngM kf vf b r m rem (some p)))
    (hk : K (.tuple #[kf p.1, vf p.2]) w) : enM P (.pointer (some ⟨r, 0, none⟩)) w K := by
  obtain ⟨g, hg, hs⟩ := hS.get i hi
  obtain ⟨es, clock, seen, hb, hr, hm, hbo, hrem, e', he', hback, hpe⟩ := hg
  have hwb : w.heap[b]? = some (.map es clock) := hs _ _ hb
  have hwr : w.heap[r]? = some (.mapIter (some b) clock seen clock) := hs _ _ hr
  have hfind : es.find? (fun x => x.born == e'.born) = some e' := by
    rw [← Array.find?_toList]
    have huniq : ∀ l : List MapEntry, l.Pairwise (fun a b => a.born < b.born) → e' ∈ l → l.find? (fun x => x.born == e'.born) = some e' := by
      intro l
      induction l with
      | nil => intro _ h; cases h
      | cons x l ih =>
        intro hp hmem
        rw [List.pairwise_cons] at hp
        rw [List.find?_cons]
        cases hmem with
        | head => simp
        | tail _ hmem =>
          have := hp.1 e' hmem
          have hne : (x.born == e'.born) = false := by simp; omega
          rw [hne]
          exact ih hp.2 hmem
    exact huniq _ hbo.1 he'
  refine ex_oV (w' := w) (v := .tuple #[e'.key, e'.val]) ?_ ?_
  · unfold Instr.entry
    have h1 : (getObj r).run P w = .ok (.mapIter (some b) clock seen clock) w := by simp only [getObj, Sem.run, hwr]
    simp only [Sem.run_bind, h1, Result.andThen_ok, hback, run_getObj hwb, bne_self_eq_false, Bool.false_eq_true, if_false, hfind, Sem.run_pure]
  · simp only [pairOf, Prod.mk.injEq] at hpe
    rw [hpe.1, hpe.2]
    exact hk
end
end Go.E
