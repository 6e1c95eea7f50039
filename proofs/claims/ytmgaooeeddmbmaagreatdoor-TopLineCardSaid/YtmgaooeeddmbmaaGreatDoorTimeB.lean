/- Keys: their order, and the document's comparison. Conditions: none. -/
import Derived.Test.YtmgaooeeddmbmaaGreatDoorTimeA
namespace Go.Proofs.YtmgaooeeddmbmaaGreatDoor
open Go Go.E
set_option maxRecDepth 100000
variable {e w : World} {R : List HP} {K : KV}

def KeyLt (a b : Key) : Prop := a.T < b.T ∨ (a.T = b.T ∧ (a.From < b.From ∨ (a.From = b.From ∧ a.Seq < b.Seq)))
theorem cmpK_cases (a b : Key) : (KeyLt a b ∧ cmpK a b = -1) ∨ (a = b ∧ cmpK a b = 0) ∨ (KeyLt b a ∧ cmpK a b = 1) := by
  obtain ⟨a1, a2, a3⟩ := a
  obtain ⟨b1, b2, b3⟩ := b
  unfold KeyLt cmpK cmpI
  simp only [Key.mk.injEq]
  rcases Int.lt_trichotomy a1 b1 with h | h | h
  · left
    rw [if_pos h]
    simp [h]
  · subst h
    rcases Int.lt_trichotomy a2 b2 with h | h | h
    · left; simp [h]
    · subst h
      rcases Int.lt_trichotomy a3 b3 with h | h | h
      · left; simp [h]
      · subst h; right; left; simp
      · right; right
        have : ¬ a3 < b3 := by omega
        simp [h, this]
    · right; right
      have : ¬ a2 < b2 := by omega
      simp [h, this]
  · right; right
    have : ¬ a1 < b1 := by omega
    simp [h, this]
theorem KeyLt.asymm {a b : Key} (h : KeyLt a b) : ¬ KeyLt b a := by unfold KeyLt at *; omega
theorem KeyLt.trans {a b c : Key} (h : KeyLt a b) (k : KeyLt b c) : KeyLt a c := by unfold KeyLt at *; omega
theorem KeyLt.irrefl (a : Key) : ¬ KeyLt a a := by unfold KeyLt; omega
theorem cmpK_lt {a b : Key} : cmpK a b < 0 ↔ KeyLt a b := by
  rcases cmpK_cases a b with ⟨h, e⟩ | ⟨h, e⟩ | ⟨h, e⟩ <;> rw [e]
  · exact ⟨fun _ => h, fun _ => by decide⟩
  · subst h; exact ⟨fun h => by omega, fun h => absurd h (KeyLt.irrefl a)⟩
  · exact ⟨fun h => by omega, fun k => absurd k h.asymm⟩
theorem cmpK_gt {a b : Key} : 0 < cmpK a b ↔ KeyLt b a := by
  rcases cmpK_cases a b with ⟨h, e⟩ | ⟨h, e⟩ | ⟨h, e⟩ <;> rw [e]
  · exact ⟨fun h => by omega, fun k => absurd k h.asymm⟩
  · subst h; exact ⟨fun h => by omega, fun h => absurd h (KeyLt.irrefl a)⟩
  · exact ⟨fun _ => h, fun _ => by decide⟩
theorem cmpK_eq {a b : Key} : cmpK a b = 0 ↔ a = b := by
  rcases cmpK_cases a b with ⟨h, e⟩ | ⟨h, e⟩ | ⟨h, e⟩ <;> rw [e]
  · exact ⟨fun h => by omega, fun k => by subst k; exact absurd h (KeyLt.irrefl a)⟩
  · exact ⟨fun _ => h, fun _ => rfl⟩
  · exact ⟨fun h => by omega, fun k => by subst k; exact absurd h (KeyLt.irrefl a)⟩
theorem KeyLt.tri (a b : Key) : KeyLt a b ∨ a = b ∨ KeyLt b a := by
  rcases cmpK_cases a b with ⟨h, _⟩ | ⟨h, _⟩ | ⟨h, _⟩
  · exact .inl h
  · exact .inr (.inl h)
  · exact .inr (.inr h)

end Go.Proofs.YtmgaooeeddmbmaaGreatDoor
