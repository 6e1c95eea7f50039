/- The laws of the clocks: ClockAlone, ClockLeast, ClockRises. Conditions: none. The law ClockLeast. Conditions: none. -/
import Derived.Test.YtenglfaeohgkfaaGreatClockA
namespace Go.Proofs.YtenglfaeohgkfaaGreat
open Go Go.E
set_option maxRecDepth 100000
variable {e w : World} {R : List HP} {K : KV}

theorem wf_u8 {n : Int} (h : (Lit.int .u8 n).wf = true) : 0 ≤ n ∧ n ≤ 255 := by
  simp only [Lit.wf, IntKind.min, IntKind.max, IntKind.signed, IntKind.bits] at h
  simp at h
  omega
theorem wf_u16 {n : Int} (h : (Lit.int .u16 n).wf = true) : 0 ≤ n ∧ n ≤ 65535 := by
  simp only [Lit.wf, IntKind.min, IntKind.max, IntKind.signed, IntKind.bits] at h
  simp at h
  omega
theorem clampT_id {t : Int} (h0 : 0 ≤ t) (h1 : t ≤ MaxT) : clampT t = t := by unfold clampT; rw [if_neg (by omega), if_neg (by omega)]

structure CStep where
  (Kind A B : Int)
  deriving DecidableEq
def CStep.ns (s : CStep) : List Int := [s.Kind, s.A, s.B]
abbrev CStep.cs (s : CStep) : List Value := ints s.ns
def CStep.of (l : List Int) : CStep := ⟨l.getD 0 0, l.getD 1 0, l.getD 2 0⟩
theorem CStep.of_ns {l : List Int} (h : l.length = 3) : (CStep.of l).ns = l := by
  match l, h with
  | [_, _, _], _ => rfl
theorem CStep.of_cs {l : List Int} (h : l.length = 3) : (CStep.of l).cs = ints l := congrArg ints (CStep.of_ns h)

theorem alone_tell (told f k : Int) (hf : 0 ≤ f ∧ f ≤ 65535) (hk : 0 ≤ k ∧ k ≤ 255) : Clk.tellT ⟨[0], 0, told⟩ f k = f + k := by
  have hb : Clk.bound ⟨[0], 0, told⟩ = Inf := by simp [Clk.bound, List.range_succ]
  unfold Clk.tellT
  rw [hb]
  unfold addT leastT clampT Inf MaxT
  simp only [List.foldl_cons, List.foldl_nil]
  omega

end Go.Proofs.YtenglfaeohgkfaaGreat
namespace Go.Proofs.YtenglfaeohgkfaaGreat
open Go Go.E
set_option maxRecDepth 100000
variable {e w : World} {R : List HP} {K : KV}

def Clk.Good (c : Clk) : Prop := ∀ x ∈ c.L, 0 ≤ x ∧ x ≤ Inf
theorem validT_bd {t : Int} (h : validT t = true) : 0 ≤ t ∧ t ≤ Inf := by
  simp only [validT, decide_eq_true_eq] at h
  unfold Inf MaxT at *
  omega
theorem Clk.Good.get {c : Clk} (h : c.Good) {j : Int} (hj : c.okJ j) : 0 ≤ c.get j ∧ c.get j ≤ Inf := by
  refine h _ ?_
  have hl : j.toNat < c.L.length := by have := hj.1; have := hj.2.1; omega
  unfold Clk.get
  rw [List.getD_eq_getElem?_getD, List.getElem?_eq_getElem hl]
  exact List.getElem_mem hl
theorem Clk.hear_cases (c : Clk) (j t : Int) : (c.hearE j t ≠ 0 ∧ c.hear j t = c) ∨ (c.okJ j ∧ validT t = true ∧ ¬ t < c.get j ∧ c.hearE j t = 0 ∧ c.hear j t = ⟨c.L.set j.toNat t, c.self, c.told⟩) := by
  by_cases h : ¬ c.okJ j ∨ validT t = false
  · exact .inl ⟨by rw [Clk.hearE_bad h]; decide, Clk.hear_bad h⟩
  · have ho : c.okJ j := by by_cases k : c.okJ j; exact k; exact absurd (Or.inl k) h
    have hv : validT t = true := by cases k : validT t; exact absurd (Or.inr k) h; rfl
    by_cases h1 : t < c.get j
    · exact .inl ⟨by rw [Clk.hearE_early ho hv h1]; decide, Clk.hear_early ho hv h1⟩
    · exact .inr ⟨ho, hv, h1, Clk.hearE_ok ho hv h1, Clk.hear_ok ho hv h1⟩
theorem Clk.Good.hear {c : Clk} (h : c.Good) (j t : Int) : (c.hear j t).Good := by
  rcases c.hear_cases j t with ⟨_, h1⟩ | ⟨_, hv, _, _, h1⟩
  · rw [h1]; exact h
  · rw [h1]
    intro x hx
    rcases List.mem_or_eq_of_mem_set hx with hx | rfl
    · exact h x hx
    · exact validT_bd hv
theorem Clk.hear_len (c : Clk) (j t : Int) : (c.hear j t).L.length = c.L.length := by
  rcases c.hear_cases j t with ⟨_, h1⟩ | ⟨_, _, _, _, h1⟩ <;> simp [h1]
theorem Clk.hear_self (c : Clk) (j t : Int) : (c.hear j t).self = c.self := by
  rcases c.hear_cases j t with ⟨_, h1⟩ | ⟨_, _, _, _, h1⟩ <;> simp [h1]
theorem Clk.hear_told (c : Clk) (j t : Int) : (c.hear j t).told = c.told := by
  rcases c.hear_cases j t with ⟨_, h1⟩ | ⟨_, _, _, _, h1⟩ <;> simp [h1]

/-- Where somebody else is, the bound is where somebody is. -/
theorem Clk.bound_at {c : Clk} (h : c.Good) {j : Int} (hj : c.okJ j) : ∃ i, c.okJ i ∧ c.get i = c.bound := by
  obtain ⟨h1, h2, h3⟩ := c.bound_is
  rcases h3 with h3 | ⟨i, hi, h3⟩
  · refine ⟨j, hj, ?_⟩
    have := h2 j hj
    have := (h.get hj).2
    omega
  · exact ⟨i, hi, h3.symm⟩

end Go.Proofs.YtenglfaeohgkfaaGreat
