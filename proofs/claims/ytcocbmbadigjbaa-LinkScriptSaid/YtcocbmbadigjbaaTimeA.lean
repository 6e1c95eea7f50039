/- Times and keys: what the functions of vtime and of the reference of layer 1 come to. Conditions: numbers fit int where a conversion to uint is made. -/
import Derived.Test.YtcocbmbadigjbaaData
import Derived.Test.YtcocbmbadigjbaaPfTy
import Derived.Test.YtcocbmbadigjbaaPf0
import Derived.Test.YtcocbmbadigjbaaPf1
import Derived.Test.YtcocbmbadigjbaaPf2
import Derived.Test.YtcocbmbadigjbaaPf3
import Derived.Test.YtcocbmbadigjbaaPf4
namespace Go.Proofs.Ytcocbmbadigjbaa
open Go Go.E
set_option maxRecDepth 100000

def Inf : Int := 1125899906842624
def MaxT : Int := 1099511627776
def validT (t : Int) : Bool := decide (t = Inf ∨ (0 ≤ t ∧ t ≤ MaxT))
def clampT (t : Int) : Int := if t < 0 then 0 else if MaxT < t then Inf else t
def addT (t d : Int) : Int := clampT (clampT t + clampT d)
def leastT (l : List Int) : Int := l.foldl (fun n t => min n (clampT t)) Inf
def cmpI (a b : Int) : Int := if a < b then -1 else if b < a then 1 else 0
def cmpK (a b : Key) : Int := if cmpI a.T b.T ≠ 0 then cmpI a.T b.T else if cmpI a.From b.From ≠ 0 then cmpI a.From b.From else cmpI a.Seq b.Seq
def In64 (n : Int) : Prop := -9223372036854775808 ≤ n ∧ n ≤ 9223372036854775807
theorem In64.of_wf {n : Int} (h : (Lit.int .i64 n).wf = true) : In64 n := by
  simp only [Lit.wf, IntKind.min, IntKind.max, IntKind.signed, IntKind.bits] at h
  simp at h
  unfold In64
  omega
theorem wrap_u64 {n : Int} (h : In64 n) : IntKind.u64.wrap n = if 0 ≤ n then n else n + 18446744073709551616 := by
  have e1 : (2 : Int) ^ 64 = 18446744073709551616 := by decide
  simp only [IntKind.wrap, IntKind.bits, IntKind.signed, Bool.false_and, Bool.false_eq_true, if_false, e1]
  unfold In64 at h
  split <;> omega
theorem clampT_le (t : Int) : 0 ≤ clampT t ∧ clampT t ≤ Inf := by unfold clampT Inf MaxT; split <;> (try split) <;> omega

variable {e w : World} {R : List HP} {K : KV}
theorem vtime_clamp_s {t : Int} (hk : K (.int .i64 (clampT t)) w) : Cl prog 30 #[.int .i64 t] w K := by
  refine vtime_clamp_calls ?_
  unfold vtime_clamp
  unfold clampT Inf MaxT at hk
  refine lt_c (fun c => iff_t ?_) (fun c => iff_f ?_)
  · rw [if_pos c] at hk; exact hk
  · rw [if_neg c] at hk
    refine gt_c (fun c => iff_t ?_) (fun c => iff_f ?_)
    · rw [if_pos c] at hk; exact hk
    · rw [if_neg c] at hk; exact hk
theorem ref01_time_s {t : Int} (hk : K (.int .i64 (clampT t)) w) : Cl prog 31 #[.int .i64 t] w K := by
  refine pacelineref01_time_calls ?_
  unfold pacelineref01_time
  unfold clampT Inf MaxT at hk
  refine lt_c (fun c => iff_t ?_) (fun c => iff_f ?_)
  · rw [if_pos c] at hk; exact hk
  · rw [if_neg c] at hk
    refine gt_c (fun c => iff_t ?_) (fun c => iff_f ?_)
    · rw [if_pos c] at hk; exact hk
    · rw [if_neg c] at hk; exact hk
theorem leastT_snoc (l : List Int) (t : Int) : leastT (l ++ [t]) = min (leastT l) (clampT t) := by simp [leastT]
theorem leastT_nil : leastT [] = 1125899906842624 := rfl
theorem vtime_Least_s {v : Value} {l : List Int} {S : HP} (hS : Sat e w (S :: R)) (hr : ∀ g, S g → rdS 1 (intsK .i64) v l g) (hl : l.length ≤ 1000000) (hk : ∀ w', Sat e w' (S :: R) → K (.int .i64 (leastT l)) w') : Cl prog 26 #[v] w K := by
  refine vtime_Least_calls ?_
  unfold vtime_Least
  refine lnS_rd hS 0 rfl hr ?_
  refine lp2 (fun t3 t8 w => ∃ j : Nat, j ≤ l.length ∧ t8 = .int .i64 j ∧ t3 = .int .i64 (leastT (l.take j)) ∧ Sat e w (S :: R)) (fun _ t8 _ => l.length - nOf t8) ⟨0, Nat.zero_le _, rfl, rfl, hS⟩ ?_
  rintro _ _ w g ⟨j, hj, rfl, rfl, h1⟩ hg
  refine lt_c (fun c => iff_t ?_) (fun c => iff_f ?_)
  · obtain ⟨x, hx⟩ := get_of_lt (l := l) (j := j) (by omega)
    refine ixS_rd h1 0 rfl hr (fun _ => rfl) hx fun a ha => ?_
    refine ld1_of h1 0 rfl ha (by rfl) ?_
    refine vtime_clamp_s (min_s (inc_s (by omega) ?_))
    exact hg _ _ _ ⟨j + 1, by omega, rfl, by rw [take_snoc hx, leastT_snoc], h1⟩ (by simp [nOf]; omega)
  · obtain rfl : j = l.length := by omega
    rw [List.take_length]
    exact hk _ h1
theorem ref01_Least_s {v : Value} {l : List Int} {S : HP} (hS : Sat e w (S :: R)) (hr : ∀ g, S g → rdS 1 (intsK .i64) v l g) (hl : l.length ≤ 1000000) (hk : ∀ w', Sat e w' (S :: R) → K (.int .i64 (leastT l)) w') : Cl prog 28 #[v] w K := by
  refine pacelineref01_Least_calls ?_
  unfold pacelineref01_Least
  refine lp2 (fun t3 t8 w => ∃ j : Nat, j ≤ l.length ∧ t8 = .int .i64 j ∧ t3 = .int .i64 (leastT (l.take j)) ∧ Sat e w (S :: R)) (fun _ t8 _ => l.length - nOf t8) ⟨0, Nat.zero_le _, rfl, rfl, hS⟩ ?_
  rintro _ _ w g ⟨j, hj, rfl, rfl, h1⟩ hg
  refine lnS_rd h1 0 rfl hr ?_
  refine lt_c (fun c => iff_t ?_) (fun c => iff_f ?_)
  · obtain ⟨x, hx⟩ := get_of_lt (l := l) (j := j) (by omega)
    refine ixS_rd h1 0 rfl hr (fun _ => rfl) hx fun a ha => ?_
    refine ld1_of h1 0 rfl ha (by rfl) ?_
    refine ref01_time_s (min_s (inc_s (by omega) ?_))
    exact hg _ _ _ ⟨j + 1, by omega, rfl, by rw [take_snoc hx, leastT_snoc], h1⟩ (by simp [nOf]; omega)
  · obtain rfl : j = l.length := by omega
    rw [List.take_length]
    exact hk _ h1

end Go.Proofs.Ytcocbmbadigjbaa
