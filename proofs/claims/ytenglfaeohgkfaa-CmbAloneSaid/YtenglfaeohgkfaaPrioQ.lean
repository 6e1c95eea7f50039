/- The document's queues: find, Insert, New, Push. Conditions: at most a thousand messages. The document's queues: First, Pop, Remove, Without, Len, List, Below. Conditions: at most a thousand messages. -/
import Derived.Test.YtenglfaeohgkfaaTimeB
import Derived.Test.YtenglfaeohgkfaaPfTy
import Derived.Test.YtenglfaeohgkfaaEngR
import Derived.Test.YtenglfaeohgkfaaPf0
import Derived.Test.YtenglfaeohgkfaaPf1
import Derived.Test.YtenglfaeohgkfaaPf2
import Derived.Test.YtenglfaeohgkfaaPf3
namespace Go.Proofs.Ytenglfaeohgkfaa
open Go Go.E
set_option maxRecDepth 100000
variable {e w : World} {R : List HP} {K : KV}

/-- m's place among l: behind all that are not behind it. -/
structure Place (l : List Msg) (m : Msg) (p : Nat) : Prop where
  le : p ≤ l.length
  low : ∀ z ∈ l.take p, ¬ KeyLt m.key z.key
  high : p = l.length ∨ ∃ y, l[p]? = some y ∧ KeyLt m.key y.key
def insAt (l : List Msg) (m : Msg) (p : Nat) : List Msg := l.take p ++ m :: l.drop p
theorem insAt_perm (l : List Msg) (m : Msg) (p : Nat) : (insAt l m p).Perm (l ++ [m]) := by
  unfold insAt
  refine List.perm_middle.trans ?_
  rw [List.take_append_drop]
  exact (List.perm_append_comm (l₁ := [m]) (l₂ := l))
def Up (l : List Msg) : Prop := l.Pairwise fun a b => KeyLt a.key b.key
theorem Place.up {l : List Msg} {m : Msg} {p : Nat} (h : Place l m p) (hu : Up l) (hne : ∀ y ∈ l, y.key ≠ m.key) : Up (insAt l m p) := by
  unfold Up insAt at *
  have hs : (l.take p ++ l.drop p).Pairwise fun a b => KeyLt a.key b.key := by rw [List.take_append_drop]; exact hu
  obtain ⟨h1, h2, h3⟩ := List.pairwise_append.1 hs
  have hm : ∀ y ∈ l.drop p, KeyLt m.key y.key := by
    intro y hy
    rcases h.high with hp | ⟨z, hz, hmz⟩
    · rw [List.drop_of_length_le (by omega)] at hy; cases hy
    · rw [drop_cons hz] at hy h2
      rcases List.mem_cons.1 hy with rfl | hy
      · exact hmz
      · exact hmz.trans ((List.pairwise_cons.1 h2).1 y hy)
  refine List.pairwise_append.2 ⟨h1, List.pairwise_cons.2 ⟨hm, h2⟩, fun z hz y hy => ?_⟩
  rcases List.mem_cons.1 hy with rfl | hy
  · rcases KeyLt.tri z.key y.key with h4 | h4 | h4
    · exact h4
    · exact absurd h4 (hne z (List.mem_of_mem_take hz))
    · exact absurd h4 (h.low z hz)
  · exact h3 z hz y hy

structure InsM (l : List Msg) (m : Msg) (i : Nat) (d : Bool) (c : List Msg) : Prop where
  no : d = false → c = l.take i ∧ ∀ z ∈ l.take i, ¬ KeyLt m.key z.key
  yes : d = true → ∃ p y, p < i ∧ l[p]? = some y ∧ KeyLt m.key y.key ∧ (∀ z ∈ l.take p, ¬ KeyLt m.key z.key) ∧ c = l.take p ++ m :: (l.take i).drop p
theorem InsM.len {l : List Msg} {m : Msg} {i : Nat} {d : Bool} {c : List Msg} (h : InsM l m i d c) (_hi : i ≤ l.length) : c.length ≤ i + 1 := by
  cases d with
  | false => rw [(h.no rfl).1, List.length_take]; omega
  | true =>
    obtain ⟨p, y, hp, _, _, _, rfl⟩ := h.yes rfl
    simp only [List.length_append, List.length_cons, List.length_take, List.length_drop]
    omega

end Go.Proofs.Ytenglfaeohgkfaa
namespace Go.Proofs.Ytenglfaeohgkfaa
open Go Go.E
set_option maxRecDepth 100000
variable {e w : World} {R : List HP} {K : KV}

def without (l : List Msg) (k : Key) : List Msg := l.filter fun x => !decide (x.key = k)
theorem filterM_snoc {p : Msg → Bool} {l : List Msg} {j : Nat} {x : Msg} (hx : l[j]? = some x) : (l.take (j + 1)).filter p = (l.take j).filter p ++ if p x then [x] else [] := by
  rw [take_snoc hx, List.filter_append]
  cases hpx : p x <;> simp [hpx]
end Go.Proofs.Ytenglfaeohgkfaa
