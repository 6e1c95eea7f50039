/- The engine, part P: a store into an element of an owned slice, parts of slices, small ranges of machine integers. Conditions: none. -/
import Derived.Test.YtmgaooeeddmbmaaGreatDoorEngN
namespace Go.E
open Go.RowKit
section
variable {α : Type} {e w : World} {L R : List HP} {K : KV} {size : Nat} {f : α → List Value} {v : Value} {l : List α} {t : TypeId} {S : HP}
theorem Sat.imp_at {P Q : HP} (h : Sat e w L) (i : Nat) (hi : L[i]? = some P) (k : ∀ g, P g → Q g) : Sat e w (L.set i Q) :=
  ((h.pick i hi).imp k).perm (set_perm L i P Q hi)
theorem get_set_self {P Q : HP} {i : Nat} (hi : L[i]? = some P) : (L.set i Q)[i]? = some Q := by
  have := (List.getElem?_eq_some_iff.1 hi).1
  rw [List.getElem?_set_self this]
/-- s[j] = x. -/
theorem st_own {j : Nat} {x : α} {xv : Value} {k : IntKind} (hS : Sat e w L) (i : Nat) (hi : L[i]? = some (ownS t size f v l)) (hf : ∀ x, (f x).length = size) (hj : j < l.length) (hx : xv.cells.toList = f x) (hff : ∀ c ∈ f x, flat c = true)
    (hk : ∀ w', Sat e w' (L.set i (ownS t size f v (l.set j x))) → K undef w') : ixS size v (.int k (j : Int)) w fun p w => stN size p xv w K := by
  obtain ⟨b, c, cs, hv, hc, hn, ht, h1⟩ := hS.own_open i hi (by omega)
  subst hv
  refine ixS_sl hj ?_
  have hlen : (j + 1) * size ≤ cs.length := by rw [hc]; exact Nat.mul_le_mul_right _ (by omega)
  rw [Nat.add_mul, Nat.one_mul] at hlen
  refine stN_at h1 i (get_set_self hi) hx (hf x) (by omega) hff rfl fun w2 h2 => ?_
  refine hk _ ?_
  rw [List.set_set] at h2
  have h3 := h2.imp_at (Q := ownS t size f (.slice (some ⟨b, 0, none⟩) l.length c) (l.set j x)) i (get_set_self hi) fun g hg => own_set (f := f) (x := x) hf hc hn ht hj (by rw [Nat.zero_add]) hg
  rw [List.set_set] at h3
  exact h3
theorem st_own' {j : Nat} {x : α} {xv : Value} {k : IntKind} (hS : Sat e w L) (i : Nat) (hi : L[i]? = some (ownS t size f v l)) (hf : ∀ x, (f x).length = size) (hj : j < l.length) (hx : xv.cells.toList = f x) (hff : ∀ c ∈ f x, flat c = true)
    (hk : ∀ w', Sat e w' (L.set i (ownS t size f v (l.set j x))) → K undef w') : ixS size v (.int k (j : Int)) w fun p _ => stN size p xv w K := by
  obtain ⟨a, n, c, k', j', h1, h2, h3, h4, h5⟩ := st_own (k := k) hS i hi hf hj hx hff hk
  exact ⟨a, n, c, k', j', h1, h2, h3, h4, h5⟩

theorem rd_part {lo hi c : Nat} {A : Option Addr} {g : Hp} (hf : ∀ x, (f x).length = size) (hr : rdS size f (.slice A l.length c) l g) (h1 : lo ≤ hi) (h2 : hi ≤ l.length) :
    rdS size f (.slice (if c = lo then A else A.map (·.add (lo * size))) (hi - lo) (c - lo)) ((l.drop lo).take (hi - lo)) g := by
  obtain ⟨A', c', e1, e2, e3⟩ := hr
  injection e1 with e4 e5 e6
  subst e4 e6
  have hlen : ((l.drop lo).take (hi - lo)).length = hi - lo := by rw [List.length_take, List.length_drop]; omega
  refine ⟨_, c - lo, by rw [hlen], by rw [hlen]; omega, fun h0 => ?_⟩
  rw [hlen] at h0
  obtain ⟨a, ha, hc⟩ := e3 (by omega)
  rw [if_neg (by omega), ha]
  refine ⟨_, rfl, ?_⟩
  have e7 : (l.drop lo).flatMap f = (l.flatMap f).drop (lo * size) := by
    have : l.flatMap f = (l.take lo).flatMap f ++ (l.drop lo).flatMap f := by rw [← List.flatMap_append, List.take_append_drop]
    rw [this]
    have e8 : ((l.take lo).flatMap f).length = lo * size := by rw [flatMap_length hf, List.length_take, Nat.min_eq_left (by omega)]
    rw [← e8, List.drop_left]
  have e9 : ((l.drop lo).take (hi - lo)).flatMap f = ((l.drop lo).flatMap f).take ((hi - lo) * size) := by
    have : (l.drop lo).flatMap f = ((l.drop lo).take (hi - lo)).flatMap f ++ ((l.drop lo).drop (hi - lo)).flatMap f := by rw [← List.flatMap_append, List.take_append_drop]
    rw [this]
    have e8 : (((l.drop lo).take (hi - lo)).flatMap f).length = (hi - lo) * size := by rw [flatMap_length hf, hlen]
    rw [← e8, List.take_left]
  rw [e9, e7]
  exact (hc.drop _).take _
/-- s[:hi] -/
theorem slc_to {hi : Nat} {k : IntKind} (hS : Sat e w L) (i : Nat) (hiL : L[i]? = some S) (hr : ∀ g, S g → rdS size f v l g) (hf : ∀ x, (f x).length = size) (h2 : hi ≤ l.length)
    (hk : ∀ v', (∀ g, S g → rdS size f v' (l.take hi) g) → K v' w) : slc size v none (some (.int k (hi : Int))) w K := by
  obtain ⟨A, c, rfl, hlc⟩ := hS.shape i hiL hr
  refine ⟨A, l.length, c, 0, hi, rfl, rfl, ⟨k, hi, rfl, by omega, by omega⟩, by omega, by omega, hk _ fun g hg => ?_⟩
  have := rd_part hf (hr g hg) (Nat.zero_le hi) h2
  rw [List.drop_zero, Nat.sub_zero] at this
  exact this
/-- s[lo:] -/
theorem slc_from {lo : Nat} {k : IntKind} (hS : Sat e w L) (i : Nat) (hiL : L[i]? = some S) (hr : ∀ g, S g → rdS size f v l g) (hf : ∀ x, (f x).length = size) (h2 : lo ≤ l.length)
    (hk : ∀ v', (∀ g, S g → rdS size f v' (l.drop lo) g) → K v' w) : slc size v (some (.int k (lo : Int))) none w K := by
  obtain ⟨A, c, rfl, hlc⟩ := hS.shape i hiL hr
  refine ⟨A, l.length, c, lo, l.length, rfl, ⟨k, lo, rfl, by omega, by omega⟩, rfl, by omega, by omega, hk _ fun g hg => ?_⟩
  have := rd_part hf (hr g hg) h2 (Nat.le_refl _)
  rw [List.take_of_length_le (by rw [List.length_drop]; omega)] at this
  exact this
/-- s = s[:hi] of an owned one. -/
theorem slc_own {hi : Nat} {k : IntKind} (hS : Sat e w L) (i : Nat) (hiL : L[i]? = some (ownS t size f v l)) (hf : ∀ x, (f x).length = size) (h2 : hi ≤ l.length)
    (hk : ∀ v', (Sat e w (L.set i (ownS t size f v' (l.take hi)))) → K v' w) : slc size v none (some (.int k (hi : Int))) w K := by
  obtain ⟨A, c, rfl, hlc⟩ := hS.shape i hiL (fun g hg => own_rd hg)
  refine ⟨A, l.length, c, 0, hi, rfl, rfl, ⟨k, hi, rfl, by omega, by omega⟩, by omega, by omega, hk _ ?_⟩
  have hA : (if c = 0 then A else A.map (·.add (0 * size))) = A := by
    split
    · rfl
    · cases A with
      | none => rfl
      | some a => simp [Addr.add]
  rw [hA]
  refine hS.imp_at i hiL fun g hg => ?_
  have hlt : (l.take hi).length = hi := by rw [List.length_take]; omega
  rcases hg with ⟨h3, rfl⟩ | ⟨b, c', cs, h3, hb, hc, hn, hx⟩
  · injection h3 with e1 e2 e3
    subst e1 e3
    have : hi = 0 := by simpa using h2
    subst this
    exact .inl ⟨rfl, rfl⟩
  · injection h3 with e1 e2 e3
    subst e1 e3
    refine .inr ⟨b, c, cs, by rw [hlt]; rfl, hb, hc, by omega, ?_⟩
    rw [hlt]
    have e7 : (l.take hi).flatMap f = (l.flatMap f).take (hi * size) := by
      have : l.flatMap f = (l.take hi).flatMap f ++ (l.drop hi).flatMap f := by rw [← List.flatMap_append, List.take_append_drop]
      rw [this]
      have e8 : ((l.take hi).flatMap f).length = hi * size := by rw [flatMap_length hf, hlt]
      rw [← e8, List.take_left]
    rw [e7, ← hx, List.take_take, Nat.min_eq_left (Nat.mul_le_mul_right _ h2)]
end

theorem wfU8 {n : Int} (h : (Lit.int .u8 n).wf = true) : 0 ≤ n ∧ n ≤ 255 := by
  simp only [Lit.wf, IntKind.min, IntKind.max, IntKind.signed, IntKind.bits] at h
  simp at h
  omega
theorem wfU16 {n : Int} (h : (Lit.int .u16 n).wf = true) : 0 ≤ n ∧ n ≤ 65535 := by
  simp only [Lit.wf, IntKind.min, IntKind.max, IntKind.signed, IntKind.bits] at h
  simp at h
  omega
end Go.E
