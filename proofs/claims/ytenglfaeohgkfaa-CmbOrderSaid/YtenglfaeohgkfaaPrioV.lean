/- The law PrioFirst. Conditions: none. -/
import Derived.Test.YtenglfaeohgkfaaPrioL
import Derived.Test.YtenglfaeohgkfaaPrioQ
namespace Go.Proofs.Ytenglfaeohgkfaa
open Go Go.E
set_option maxRecDepth 100000
variable {e w : World} {R : List HP} {K : KV}

theorem pushE_in' {room : Int} {l : List Msg} {x : Msg} (h : ∃ y ∈ l, y.key = x.key) : pushE room l x = 3 := by
  obtain ⟨y, hy, hk⟩ := h
  exact if_pos (List.any_eq_true.2 ⟨y, hy, by simpa using hk⟩)
theorem pushE_out {room : Int} {l : List Msg} {x : Msg} (h : ∀ y ∈ l, y.key ≠ x.key) : pushE room l x = if room ≤ l.length then 2 else 0 := by
  unfold pushE
  rw [if_neg]
  intro ha
  obtain ⟨y, hy, hk⟩ := List.any_eq_true.1 ha
  exact h y hy (by simpa using hk)
/-- A heap's first one is the first one of all in order. -/
theorem heap_first {l l' : List Msg} {x : Msg} (hh : Heapy l l.length) (hx : l[0]? = some x) (hp : l'.Perm l) (hu : Upk l') : l'[0]? = some x ∧ ∀ y ∈ l', ¬ KeyLt y.key x.key := by
  have hmin : ∀ y ∈ l', ¬ KeyLt y.key x.key := fun y hy => by
    obtain ⟨i, hi⟩ := List.mem_iff_getElem?.1 (hp.mem_iff.1 hy)
    exact hh.min (Nat.le_refl _) hx i y (List.getElem?_eq_some_iff.1 hi).1 hi
  refine ⟨?_, hmin⟩
  have hxl : x ∈ l' := hp.mem_iff.2 (List.mem_of_getElem? hx)
  cases l' with
  | nil => cases hxl
  | cons y l' =>
    rcases List.mem_cons.1 hxl with rfl | h
    · rfl
    · exact absurd ((List.pairwise_cons.1 hu).1 x h) (hmin y List.mem_cons_self)

end Go.Proofs.Ytenglfaeohgkfaa
