/- The laws of the clocks: ClockAlone, ClockLeast, ClockRises. Conditions: none. -/
import Derived.Test.YtenglfaeohgkfaaClockA
namespace Go.Proofs.Ytenglfaeohgkfaa
open Go Go.E
set_option maxRecDepth 100000
variable {e w : World} {R : List HP} {K : KV}

theorem wf_u8 {n : Int} (h : (Lit.int .u8 n).wf = true) : 0 ≤ n ∧ n ≤ 255 := by
  simp only [Lit.wf, IntKind.min, IntKind.max, IntKind.signed, IntKind.bits] at h
  simp at h
  omega
theorem wf_u16 {n : Int} (h : (Lit.int .u16 n).wf = true) : 0 ≤ n ∧ n ≤ 65535 := by
  simp only [Lit.wf, IntKind.min, IntKind.max, IntKind.signed, IntKind.bits] at h
  simp at h
  omega
theorem clampT_id {t : Int} (h0 : 0 ≤ t) (h1 : t ≤ MaxT) : clampT t = t := by unfold clampT; rw [if_neg (by omega), if_neg (by omega)]

structure CStep where
  (Kind A B : Int)
  deriving DecidableEq
def CStep.ns (s : CStep) : List Int := [s.Kind, s.A, s.B]
abbrev CStep.cs (s : CStep) : List Value := ints s.ns
def CStep.of (l : List Int) : CStep := ⟨l.getD 0 0, l.getD 1 0, l.getD 2 0⟩
theorem CStep.of_ns {l : List Int} (h : l.length = 3) : (CStep.of l).ns = l := by
  match l, h with
  | [_, _, _], _ => rfl
theorem CStep.of_cs {l : List Int} (h : l.length = 3) : (CStep.of l).cs = ints l := congrArg ints (CStep.of_ns h)

theorem alone_tell (told f k : Int) (hf : 0 ≤ f ∧ f ≤ 65535) (hk : 0 ≤ k ∧ k ≤ 255) : Clk.tellT ⟨[0], 0, told⟩ f k = f + k := by
  have hb : Clk.bound ⟨[0], 0, told⟩ = Inf := by simp [Clk.bound, List.range_succ]
  unfold Clk.tellT
  rw [hb]
  unfold addT leastT clampT Inf MaxT
  simp only [List.foldl_cons, List.foldl_nil]
  omega

end Go.Proofs.Ytenglfaeohgkfaa
