/- The document's Check of a federation. Conditions: the lists are short. The document's Check of a federate, a federation. Conditions: the lists are short. -/
import Derived.Test.YtenglfaeohgkfaaSoloE
namespace Go.Proofs.Ytenglfaeohgkfaa
open Go Go.E
set_option maxRecDepth 100000
variable {e w : World} {L R : List HP} {K : KV} {S : HP}

def isOn (s c : Int) (r : RuleX) : Prop := r.State = s ∧ r.Class = c
theorem isOn_onK {r x : RuleX} : isOn r.State r.Class x ↔ onK x = onK r := by
  unfold isOn onK
  simp
theorem rising_lo {most : Int} : ∀ {l : List Int} {lo : Int}, rising most lo l → ∀ c ∈ l, lo < c
  | [], _, _, c, hc => by cases hc
  | a :: l, lo, h, c, hc => by
    obtain ⟨h1, h2, h3⟩ := h
    rcases List.mem_cons.1 hc with rfl | hc
    · exact h1
    · have := rising_lo h3 c hc
      omega
end Go.Proofs.Ytenglfaeohgkfaa
namespace Go.Proofs.Ytenglfaeohgkfaa
open Go Go.E
set_option maxRecDepth 100000
variable {e w : World} {L R : List HP} {K : KV} {S : HP}

open Classical in
theorem fedE_chain (f : Fed) (most : Int) : fedE f most = if ¬ (0 ≤ f.Kind ∧ f.Kind ≤ 1) then 1 else if ¬ (1 ≤ f.Look ∧ f.Look ≤ 1048576) then 80 else if ¬ (0 ≤ f.Start ∧ f.Start ≤ 7) then 70 else if ¬ okRules f.Rules then 70
    else if ¬ (rising most (-1) f.Pubs ∧ rising most (-1) f.Subs) then 81 else if rulesE f most f.Rules ≠ 0 then rulesE f most f.Rules else if ¬ okInit f then 82 else 0 := by
  unfold fedE fedEs
  simp only [firstE_cons, firstE_nil]
  by_cases p1 : 0 ≤ f.Kind ∧ f.Kind ≤ 1
  case neg => simp [p1]
  by_cases p2 : 1 ≤ f.Look ∧ f.Look ≤ 1048576
  case neg => simp [p1, p2]
  by_cases p3 : 0 ≤ f.Start ∧ f.Start ≤ 7
  case neg => simp [p1, p2, p3]
  by_cases p4 : okRules f.Rules
  case neg => simp [p1, p2, p3, p4]
  by_cases p5 : rising most (-1) f.Pubs ∧ rising most (-1) f.Subs
  case neg => simp [p1, p2, p3, p4, p5]
  by_cases p6 : rulesE f most f.Rules = 0
  case neg => simp [p1, p2, p3, p4, p5, p6]
  by_cases p7 : okInit f <;> simp [p1, p2, p3, p4, p5, p6, p7]
end Go.Proofs.Ytenglfaeohgkfaa
