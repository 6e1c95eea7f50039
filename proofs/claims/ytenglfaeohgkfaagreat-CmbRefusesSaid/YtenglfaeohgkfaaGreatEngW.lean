/- The engine, part W: fields of an owned slice's elements. Conditions: none. -/
import Derived.Test.YtenglfaeohgkfaaGreatEngP
namespace Go.E
open Go.RowKit
section
variable {α : Type} {e w : World} {L : List HP} {K : KV} {size : Nat} {f : α → List Value} {v : Value} {l : List α} {t : TypeId}
theorem flatMap_get (hf : ∀ x, (f x).length = size) {j off : Nat} {x : α} (hx : l[j]? = some x) (ho : off < size) : (l.flatMap f)[j * size + off]? = (f x)[off]? := by
  have h := congrArg (fun y => y[off]?) (flatMap_at hf l j x hx)
  simp only [List.getElem?_take, List.getElem?_drop, if_pos ho] at h
  exact h
theorem add_zero0 {b : Nat} (n : Nat) : (⟨b, 0, none⟩ : Addr).add n = ⟨b, n, none⟩ := by
  unfold Addr.add
  split
  · rename_i h; rw [h]
  · simp
/-- The address of an element. -/
theorem ixS_own {j : Nat} {k : IntKind} {x : α} (hS : Sat e w L) (i : Nat) (hi : L[i]? = some (ownS t size f v l)) (hx : l[j]? = some x)
    (hk : ∀ b c, v = .slice (some ⟨b, 0, none⟩) l.length c → K (.pointer (some ⟨b, j * size, none⟩)) w) : ixS size v (.int k (j : Int)) w K := by
  have hj := (List.getElem?_eq_some_iff.1 hx).1
  obtain ⟨g, hg, _⟩ := hS.get i hi
  rcases hg with ⟨_, rfl⟩ | ⟨b, c, cs, hv, _⟩
  · simp at hj
  · rw [hv]
    have h1 := hk b c hv
    refine ixS_sl hj ?_
    rw [Nat.zero_add]
    exact h1
theorem cell_own {j off : Nat} {x : α} {u : Value} {b c : Nat} (hS : Sat e w L) (i : Nat) (hi : L[i]? = some (ownS t size f v l)) (hf : ∀ x, (f x).length = size) (hv : v = .slice (some ⟨b, 0, none⟩) l.length c) (hx : l[j]? = some x) (hu : (f x)[off]? = some u) :
    w.cell? ⟨b, j * size + off, none⟩ = some u := by
  have hj := (List.getElem?_eq_some_iff.1 hx).1
  have ho : off < size := by rw [← hf x]; exact (List.getElem?_eq_some_iff.1 hu).1
  obtain ⟨g, hg, hs⟩ := hS.get i hi
  obtain ⟨A, c', h1, h2, h3⟩ := own_rd hg
  obtain ⟨a, h4, h5⟩ := h3 (by omega)
  rw [hv] at h1
  injection h1 with e1
  rw [h4] at e1
  injection e1 with e1
  subst e1
  have h6 := (h5.up hs) (j * size + off) u (by rw [flatMap_get hf hx ho]; exact hu)
  rw [add_zero0] at h6
  exact h6
theorem ldF_own {j off : Nat} {x : α} {u : Value} {b c : Nat} (hS : Sat e w L) (i : Nat) (hi : L[i]? = some (ownS t size f v l)) (hf : ∀ x, (f x).length = size) (hv : v = .slice (some ⟨b, 0, none⟩) l.length c) (hx : l[j]? = some x) (hu : (f x)[off]? = some u)
    (hk : K u w) : ld1 (.pointer (some ⟨b, j * size + off, none⟩)) w K := ⟨_, u, rfl, cell_own hS i hi hf hv hx hu, hk⟩
theorem ldE_own {j : Nat} {x : α} {b c : Nat} (hS : Sat e w L) (i : Nat) (hi : L[i]? = some (ownS t size f v l)) (hf : ∀ x, (f x).length = size) (hv : v = .slice (some ⟨b, 0, none⟩) l.length c) (hx : l[j]? = some x)
    (hk : K (.agg (f x).toArray) w) : ldN size (.pointer (some ⟨b, j * size, none⟩)) w K := by
  refine ⟨_, f x, rfl, hf x, fun o u hu => ?_, hk⟩
  have h1 := cell_own hS i hi hf hv hx hu
  have ea : ((⟨b, j * size, none⟩ : Addr).add o) = ⟨b, j * size + o, none⟩ := by
    unfold Addr.add
    split
    · rename_i h0; subst h0; rfl
    · rfl
  rw [ea]
  exact h1
theorem wrL_fld {cs : List Value} (hf : ∀ x, (f x).length = size) {j off : Nat} {x x' : α} {us : List Value} (hx : l[j]? = some x) (ht : cs.take (l.length * size) = l.flatMap f) (ho : off + us.length ≤ size) (hx' : wrL (f x) off us = f x') :
    wrL cs (j * size + off) us = wrL cs (j * size) (f x') := by
  have hj := (List.getElem?_eq_some_iff.1 hx).1
  have hle : (j + 1) * size ≤ l.length * size := Nat.mul_le_mul_right _ (by omega)
  rw [Nat.add_mul, Nat.one_mul] at hle
  have hcl : l.length * size ≤ cs.length := by
    have := congrArg List.length ht
    rw [List.length_take, flatMap_length hf] at this
    omega
  apply List.ext_getElem?
  intro i
  rw [wrL_get _ _ _ (by omega), wrL_get _ _ _ (by rw [hf]; omega), hf]
  by_cases h1 : i < j * size
  · rw [if_pos (by omega), if_pos h1]
  · by_cases h2 : i < j * size + size
    · rw [if_neg h1, if_pos h2, ← hx', wrL_get _ _ _ (by rw [hf]; exact ho)]
      have hcx : cs[i]? = (f x)[i - j * size]? := by
        rw [← flatMap_get hf hx (by omega), ← ht, List.getElem?_take, if_pos (by omega)]
        congr 1
        omega
      by_cases h3 : i < j * size + off
      · rw [if_pos h3, if_pos (by omega), hcx]
      · by_cases h4 : i < j * size + off + us.length
        · rw [if_neg h3, if_pos h4, if_neg (by omega), if_pos (by omega)]
          congr 1
          omega
        · rw [if_neg h3, if_neg h4, if_neg (by omega), if_neg (by omega), hcx]
    · rw [if_neg (by omega), if_neg (by omega), if_neg h1, if_neg h2]
/-- A store into a field of an element. -/
theorem stF_own {j off n : Nat} {x x' : α} {u : Value} {us : List Value} {b c : Nat} (hS : Sat e w L) (i : Nat) (hi : L[i]? = some (ownS t size f v l)) (hf : ∀ x, (f x).length = size) (hv : v = .slice (some ⟨b, 0, none⟩) l.length c) (hx : l[j]? = some x)
    (hu : u.cells.toList = us) (hn : us.length = n) (ho : off + n ≤ size) (hff : ∀ c ∈ us, flat c = true) (hx' : wrL (f x) off us = f x')
    (hk : ∀ w', Sat e w' (L.set i (ownS t size f v (l.set j x'))) → K undef w') : stN n (.pointer (some ⟨b, j * size + off, none⟩)) u w K := by
  have hj := (List.getElem?_eq_some_iff.1 hx).1
  obtain ⟨b', c', cs, hv', hc, hn', ht, h1⟩ := hS.own_open i hi (by omega)
  rw [hv] at hv'
  injection hv' with e1 e2 e3
  injection e1 with e1
  injection e1 with e1
  subst e1 e3
  have hle : (j + 1) * size ≤ l.length * size := Nat.mul_le_mul_right _ (by omega)
  have hle2 : l.length * size ≤ c * size := Nat.mul_le_mul_right _ hn'
  rw [Nat.add_mul, Nat.one_mul] at hle
  have hil := (List.getElem?_eq_some_iff.1 hi).1
  refine stN_at h1 i (by rw [List.getElem?_set_self hil]) hu hn (by omega) hff rfl fun w' h2 => hk _ ?_
  rw [List.set_set] at h2
  have h3 := h2.imp_at (Q := ownS t size f v (l.set j x')) i (by rw [List.getElem?_set_self hil]) fun g hg => by
    rw [hv]
    refine own_set hf hc hn' ht hj ?_ hg
    exact (wrL_fld hf hx ht (by omega) hx').symm
  rw [List.set_set] at h3
  exact h3
end
end Go.E
