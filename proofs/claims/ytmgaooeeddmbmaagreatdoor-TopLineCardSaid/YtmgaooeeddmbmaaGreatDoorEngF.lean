/- The engine, part F: blocks, slices, and the operations' rules over what memory holds. Conditions: none. -/
import Derived.Test.YtmgaooeeddmbmaaGreatDoorEngE
import Derived.Laws.StructEq
import Derived.Laws.Append
namespace Go.E
open Go.RowKit

/-! ### Cells of a part of the heap -/
def cellH (h : Hp) (a : Addr) : Option Value :=
  match h a.block with
  | some (.cells c _ _) => if a.spot.isSome then none else c[a.off]?
  | _ => none
theorem cellH_hp (w : World) (a : Addr) : cellH (hp w) a = w.cell? a := rfl
theorem cellH_up {h g : Hp} (s : Sub h g) {a : Addr} {v : Value} (e : cellH h a = some v) : cellH g a = some v := by
  unfold cellH at *
  cases hb : h a.block with
  | none => rw [hb] at e; cases e
  | some o => rw [s _ _ hb]; rw [hb] at e; exact e
def CellsH (h : Hp) (a : Addr) (vs : List Value) : Prop := ∀ i v, vs[i]? = some v → cellH h (a.add i) = some v
theorem CellsH.up {h g : Hp} (s : Sub h g) {a : Addr} {vs : List Value} (e : CellsH h a vs) : CellsH g a vs := fun i v hv => cellH_up s (e i v hv)
theorem add_add (a : Addr) (i j : Nat) : (a.add i).add j = a.add (i + j) := by
  unfold Addr.add
  by_cases hi : i = 0 <;> by_cases hj : j = 0 <;> simp [hi, hj, Nat.add_assoc]
theorem CellsH.drop {h : Hp} {a : Addr} {vs : List Value} (e : CellsH h a vs) (n : Nat) : CellsH h (a.add n) (vs.drop n) := fun i v hv => by
  rw [add_add]
  exact e (n + i) v (by rw [← hv, List.getElem?_drop])
theorem CellsH.take {h : Hp} {a : Addr} {vs : List Value} (e : CellsH h a vs) (n : Nat) : CellsH h a (vs.take n) := fun i v hv => by
  rw [List.getElem?_take] at hv
  split at hv
  · exact e i v hv
  · cases hv

def blk (b : Nat) (t : TypeId) (cs : List Value) : HP := fun h => h b = some (.cells cs.toArray t (0, 0))
theorem blk_cells {b : Nat} {t : TypeId} {cs : List Value} {h : Hp} (k : blk b t cs h) (off : Nat) : CellsH h ⟨b, off, none⟩ (cs.drop off) := fun i v hv => by
  have e : ((⟨b, off, none⟩ : Addr).add i) = ⟨b, off + i, none⟩ := by
    unfold Addr.add
    split
    · rename_i h0; subst h0; rfl
    · rfl
  rw [e]
  have k' : h b = some (.cells cs.toArray t (0, 0)) := k
  unfold cellH
  simp only [k']
  simp only [Option.isSome_none, Bool.false_eq_true, if_false, List.getElem?_toArray]
  rw [← hv, List.getElem?_drop]

section
variable {e w : World} {l : List HP} {S : HP} {K : KV}
theorem SatH.get : ∀ {l : List HP} {h : Hp} {i : Nat}, SatH l h → l[i]? = some S → ∃ g, S g ∧ Sub g h
  | [], _, _, _, hi => by simp at hi
  | P :: l, h, 0, ⟨h1, h2, d, s1, s2, p, r⟩, hi => by simp at hi; subst hi; exact ⟨h1, p, s1⟩
  | P :: l, h, i + 1, ⟨h1, h2, d, s1, s2, p, r⟩, hi => by
    obtain ⟨g, hg, hs⟩ := SatH.get (i := i) r (by simpa using hi)
    exact ⟨g, hg, hs.trans s2⟩
theorem Sat.get (hS : Sat e w l) (i : Nat) (hi : l[i]? = some S) : ∃ g, S g ∧ Sub g (hp w) := hS.mem.get hi
theorem Sat.cells {a : Addr} {vs : List Value} (hS : Sat e w l) (i : Nat) (hi : l[i]? = some S) (hc : ∀ g, S g → CellsH g a vs) : CellsAt w a vs := by
  obtain ⟨g, hg, hs⟩ := hS.get i hi
  exact (hc g hg).up hs
theorem Sat.heap {b : Nat} {t : TypeId} {cs : List Value} (hS : Sat e w l) (i : Nat) (hi : l[i]? = some (blk b t cs)) : w.heap[b]? = some (.cells cs.toArray t (0, 0)) := by
  obtain ⟨g, hg, hs⟩ := hS.get i hi
  exact hs _ _ hg

/-! ### Loads -/
theorem ld1_of {a : Addr} {vs : List Value} {v : Value} (hS : Sat e w l) (i : Nat) (hi : l[i]? = some S) (hc : ∀ g, S g → CellsH g a vs) (hv : vs[0]? = some v) (hk : K v w) : ld1 (.pointer (some a)) w K :=
  ⟨a, v, rfl, by have := hS.cells i hi hc 0 v hv; simpa [Addr.add] using this, hk⟩
theorem ldN_of {a : Addr} {vs : List Value} {n : Nat} (hS : Sat e w l) (i : Nat) (hi : l[i]? = some S) (hc : ∀ g, S g → CellsH g a vs) (hn : vs.length = n) (hk : K (.agg vs.toArray) w) : ldN n (.pointer (some a)) w K :=
  ⟨a, vs, rfl, hn, hS.cells i hi hc, hk⟩
theorem ldN_pre {a : Addr} {vs : List Value} {n : Nat} (hS : Sat e w l) (i : Nat) (hi : l[i]? = some S) (hc : ∀ g, S g → CellsH g a vs) (hn : n ≤ vs.length) (hk : K (.agg (vs.take n).toArray) w) : ldN n (.pointer (some a)) w K :=
  ldN_of hS i hi (fun g hg => (hc g hg).take n) (by simp [hn]) hk
theorem ldN_sub {a : Addr} {vs us : List Value} {n : Nat} (hS : Sat e w l) (i : Nat) (hi : l[i]? = some S) (hc : ∀ g, S g → CellsH g a vs) (he : vs.take n = us) (hn : us.length = n) (hk : K (.agg us.toArray) w) : ldN n (.pointer (some a)) w K :=
  ldN_of hS i hi (fun g hg => he ▸ (hc g hg).take n) hn hk
theorem ld1_at {b off : Nat} {t : TypeId} {cs : List Value} {v : Value} (hS : Sat e w l) (i : Nat) (hi : l[i]? = some (blk b t cs)) (hv : cs[off]? = some v) (hk : K v w) : ld1 (.pointer (some ⟨b, off, none⟩)) w K :=
  ld1_of hS i hi (fun _ k => blk_cells k off) (by rw [List.getElem?_drop]; exact hv) hk
theorem ldN_at {b off n : Nat} {t : TypeId} {cs vs : List Value} (hS : Sat e w l) (i : Nat) (hi : l[i]? = some (blk b t cs)) (hv : (cs.drop off).take n = vs) (hn : vs.length = n) (hk : K (.agg vs.toArray) w) : ldN n (.pointer (some ⟨b, off, none⟩)) w K :=
  ldN_of hS i hi (fun _ k => hv ▸ (blk_cells k off).take n) hn hk

theorem fld_at {b o off : Nat} (hk : K (.pointer (some ⟨b, o + off, none⟩)) w) : fld off (.pointer (some ⟨b, o, none⟩)) w K := by
  refine ⟨_, rfl, ?_⟩
  have e : ((⟨b, o, none⟩ : Addr).add off) = ⟨b, o + off, none⟩ := by
    unfold Addr.add
    split
    · rename_i h0; subst h0; rfl
    · rfl
  rw [e]
  exact hk
/-- A field of an element that reads as vs. -/
theorem fld_of {a : Addr} {off : Nat} {vs : List Value} (hc : ∀ g, S g → CellsH g a vs) (hk : ∀ a', (∀ g, S g → CellsH g a' (vs.drop off)) → K (.pointer (some a')) w) : fld off (.pointer (some a)) w K :=
  ⟨a, rfl, hk _ fun g hg => (hc g hg).drop off⟩

/-! ### The world's own moves -/
theorem Sat.drew (hS : Sat e w l) : Sat e w.drew l := ⟨hS.os, hS.tape, hS.output, Nat.le_succ_of_le hS.drawn, hS.size, hS.mem⟩
theorem dr_s {K : World → Prop} (hS : Sat e w l) (hk : ∀ w', Sat e w' l → K w') : dr w K := hk _ hS.drew

theorem SatH.alloc {h : Hp} {b : Nat} {o : Obj} (hl : SatH l h) (hn : h b = none) : SatH ((fun g => g b = some o) :: l) (fun x => if x = b then some o else h x) :=
  ⟨fun x => if x = b then some o else none, h, fun x => by
    by_cases e : x = b
    · subst e; exact .inr hn
    · exact .inl (by simp [e]), fun x o' k => by
    by_cases e : x = b <;> simp_all, fun x o' k => by
    by_cases e : x = b
    · subst e; rw [hn] at k; cases k
    · simp [e, k], by simp, hl⟩
theorem hp_alloc (w : World) (o : Obj) : hp (w.alloc o) = fun x => if x = w.heap.size then some o else hp w x := by
  funext x
  simp only [hp, World.alloc, Array.getElem?_push]
theorem hp_size (w : World) : hp w w.heap.size = none := by simp [hp]
theorem Sat.alloc (hS : Sat e w l) (o : Obj) : Sat e (w.alloc o) ((fun g => g w.heap.size = some o) :: l) :=
  ⟨hS.os, hS.tape, hS.output, hS.drawn, by have := hS.size; show e.heap.size ≤ (w.heap.push o).size; rw [Array.size_push]; omega, by rw [hp_alloc]; exact hS.mem.alloc (hp_size w)⟩
theorem al_s {cells : Array Value} {t : TypeId} {cs : List Value} (hS : Sat e w l) (hc : cells.toList = cs) (hk : ∀ b w', Sat e w' (blk b t cs :: l) → K (.pointer (some ⟨b, 0, none⟩)) w') : al cells t w K := by
  subst hc
  refine hk _ _ ?_
  have := hS.alloc (.cells cells t)
  exact this.imp fun g hg => by simpa [blk] using hg

theorem SatH.upd {h : Hp} {b : Nat} {o o' : Obj} : ∀ {l : List HP}, SatH ((fun g => g b = some o) :: l) h → SatH ((fun g => g b = some o') :: l) (fun x => if x = b then some o' else h x) := by
  intro l ⟨h1, h2, d, s1, s2, p, r⟩
  have hb : h2 b = none := by
    rcases d b with k | k
    · rw [p] at k; cases k
    · exact k
  refine ⟨fun x => if x = b then some o' else none, h2, fun x => ?_, fun x u k => ?_, fun x u k => ?_, by simp, r⟩
  · by_cases e : x = b
    · subst e; exact .inr hb
    · exact .inl (by simp [e])
  · by_cases e : x = b <;> simp_all
  · by_cases e : x = b
    · subst e; rw [hb] at k; cases k
    · simp only [if_neg e]; exact s2 x u k

/-- The world with another object in block b. -/
def World.setB (w : World) (b : Nat) (o : Obj) : World := { w with heap := w.heap.setIfInBounds b o }
theorem hp_setB (w : World) (b : Nat) (o : Obj) (h : b < w.heap.size) : hp (World.setB w b o) = fun x => if x = b then some o else hp w x := by
  funext x
  simp only [hp, World.setB, Array.getElem?_setIfInBounds]
  by_cases e : x = b
  · subst e; simp [h]
  · rw [if_neg (fun k => e k.symm), if_neg e]
theorem Sat.setB {b : Nat} {o o' : Obj} (hS : Sat e w ((fun g => g b = some o) :: l)) : Sat e (World.setB w b o') ((fun g => g b = some o') :: l) := by
  have hb : hp w b = some o := by
    obtain ⟨g, hg, hs⟩ := hS.get 0 rfl
    exact hs _ _ hg
  have hlt : b < w.heap.size := (Array.getElem?_eq_some_iff.1 hb).1
  exact ⟨hS.os, hS.tape, hS.output, hS.drawn, by simpa [World.setB] using hS.size, by rw [hp_setB _ _ _ hlt]; exact hS.mem.upd⟩

def wrL (cs : List Value) (k : Nat) (vs : List Value) : List Value := cs.take k ++ vs ++ cs.drop (k + vs.length)
theorem wrL_get (cs : List Value) (k : Nat) (vs : List Value) (h : k + vs.length ≤ cs.length) (i : Nat) : (wrL cs k vs)[i]? = if i < k then cs[i]? else if i < k + vs.length then vs[i - k]? else cs[i]? := by
  simp only [wrL, List.getElem?_append, List.length_append, List.length_take, List.getElem?_take, List.getElem?_drop]
  have hm : min k cs.length = k := by omega
  rw [hm]
  by_cases h1 : i < k
  · simp [h1]; omega
  · by_cases h2 : i < k + vs.length
    · simp [h1, h2]
    · simp only [h1, h2, if_false]
      congr 1
      omega
theorem wrL_step (cs : List Value) (k : Nat) (v : Value) (vs : List Value) (h : k + (v :: vs).length ≤ cs.length) : wrL (cs.set k v) (k + 1) vs = wrL cs k (v :: vs) := by
  apply List.ext_getElem?
  intro i
  simp only [List.length_cons] at h
  rw [wrL_get _ _ _ (by simp; omega), wrL_get _ _ _ (by simp; omega)]
  simp only [List.length_cons, List.getElem?_set]
  by_cases h1 : i < k
  · rw [if_pos (by omega), if_neg (by omega), if_pos h1]
  · by_cases h2 : i = k
    · subst h2
      rw [if_pos (by omega), if_pos rfl, if_pos (by omega), if_neg (by omega), if_pos (by omega)]
      simp
    · rw [if_neg (by omega), if_neg h1]
      by_cases h3 : i < k + 1 + vs.length
      · rw [if_pos h3, if_pos (by omega), show i - k = (i - (k + 1)) + 1 from by omega]
        simp
      · rw [if_neg h3, if_neg (by omega), if_neg (by omega)]

theorem setCs_blk {b : Nat} {t : TypeId} : ∀ (vs : List Value) (w : World) (off i : Nat) (cs : List Value), w.heap[b]? = some (.cells cs.toArray t (0, 0)) → off + i + vs.length ≤ cs.length →
    setCs w ⟨b, off, none⟩ i vs = World.setB w b (.cells (wrL cs (off + i) vs).toArray t (0, 0))
  | [], w, off, i, cs, h, _ => by
    have e : wrL cs (off + i) [] = cs := by simp [wrL]
    rw [e]
    simp only [setCs, World.setB]
    rw [show w.heap.setIfInBounds b (.cells cs.toArray t (0, 0)) = w.heap from ?_]
    apply Array.ext_getElem?
    intro x
    rw [Array.getElem?_setIfInBounds]
    split
    · rename_i k; subst k; rw [h]; split
      · rfl
      · rename_i k; exact absurd (Array.getElem?_eq_some_iff.1 h).1 k
    · rfl
  | v :: vs, w, off, i, cs, h, hl => by
    have ea : ((⟨b, off, none⟩ : Addr).add i) = ⟨b, off + i, none⟩ := by
      unfold Addr.add
      split
      · rename_i h0; subst h0; rfl
      · rfl
    simp only [setCs, ea]
    have hlt := (Array.getElem?_eq_some_iff.1 h).1
    have e1 : w.setCell ⟨b, off + i, none⟩ v = World.setB w b (.cells (cs.set (off + i) v).toArray t (0, 0)) := by
      unfold World.setCell World.setB
      congr 1
      apply Array.ext_getElem?
      intro x
      rw [Array.getElem?_modify, Array.getElem?_setIfInBounds]
      split
      · rename_i k; subst k; rw [h]; simp
      · rfl
    rw [e1, setCs_blk (t := t) vs _ off (i + 1) (cs.set (off + i) v) (by simp [World.setB, hlt]) (by simp at hl ⊢; omega)]
    rw [show off + (i + 1) = off + i + 1 from by omega, wrL_step cs (off + i) v vs (by omega)]
    simp only [World.setB, Array.setIfInBounds_setIfInBounds]

theorem stN_at {b off n : Nat} {t : TypeId} {cs vs cs' : List Value} {v : Value} (hS : Sat e w l) (i : Nat) (hi : l[i]? = some (blk b t cs)) (hv : v.cells.toList = vs) (hn : vs.length = n) (hb : off + n ≤ cs.length) (hf : ∀ c ∈ vs, flat c = true)
    (hc' : wrL cs off vs = cs') (hk : ∀ w', Sat e w' (l.set i (blk b t cs')) → K undef w') : stN n (.pointer (some ⟨b, off, none⟩)) v w K := by
  subst hv
  subst hc'
  have hh := hS.heap i hi
  refine ⟨_, rfl, hn, hf, fun j hj => ?_, ?_⟩
  · have ea : ((⟨b, off, none⟩ : Addr).add j) = ⟨b, off + j, none⟩ := by
      unfold Addr.add
      split
      · rename_i h0; subst h0; rfl
      · rfl
    rw [ea]
    constructor
    · simp only [World.cell?, hh]
      simp
      omega
    · simp [World.frozen?, hh]
  · have h1 := hS.pick i hi
    have h2 : Sat e (World.setB w b (.cells (wrL cs off v.cells.toList).toArray t (0, 0))) (blk b t (wrL cs off v.cells.toList) :: l.eraseIdx i) := h1.setB
    have h3 := h2.perm (set_perm l i _ _ hi)
    have e1 : setCs w ⟨b, off, none⟩ 0 v.cells.toList = World.setB w b (.cells (wrL cs off v.cells.toList).toArray t (0, 0)) := setCs_blk _ w off 0 cs hh (by rw [hn]; omega)
    rw [e1]
    exact hk _ h3
end

/-! ### What was there when the call began -/
def Old (e : World) : HP := fun h => ∀ b, b < e.heap.size → h b = e.heap[b]?
theorem Sat.start (w : World) : Sat w w [Old w] := ⟨rfl, rfl, rfl, Nat.le_refl _, Nat.le_refl _, hp w, fun _ => none, fun _ => .inr rfl, Sub.refl _, fun _ _ e => (by cases e), fun _ _ => rfl, trivial⟩
theorem Sat.below {e w : World} {l : List HP} (h : Sat e w (Old e :: l)) : Below e.heap.size e w := by
  obtain ⟨g, hg, hs⟩ := h.get 0 rfl
  refine ⟨h.os, h.tape, h.output, h.size, fun k hk => ?_⟩
  have h1 := hg k hk
  rw [Array.getElem?_eq_getElem hk] at h1 ⊢
  exact hs _ _ h1
theorem Old.cells {e : World} {a : Addr} {vs : List Value} (ha : a.block < e.heap.size) (hc : CellsAt e a vs) : ∀ g, Old e g → CellsH g a vs := fun g hg i v hv => by
  have h1 := hc i v hv
  have hb : (a.add i).block = a.block := by unfold Addr.add; split <;> rfl
  unfold cellH
  rw [hg _ (by rw [hb]; exact ha)]
  exact h1

/-! ### Slices -/
section
variable {α : Type}
/-- The slice v, that is owned: a whole block, the first cells are l's. -/
def ownS (t : TypeId) (size : Nat) (f : α → List Value) (v : Value) (l : List α) : HP := fun h =>
  (v = .slice none 0 0 ∧ l = []) ∨
  ∃ (b c : Nat) (cs : List Value), v = .slice (some ⟨b, 0, none⟩) l.length c ∧ h b = some (.cells cs.toArray t (0, 0)) ∧ cs.length = c * size ∧ l.length ≤ c ∧ cs.take (l.length * size) = l.flatMap f
/-- The slice v reads as l. -/
def rdS (_size : Nat) (f : α → List Value) (v : Value) (l : List α) : HP := fun h =>
  ∃ A c, v = .slice A l.length c ∧ l.length ≤ c ∧ (0 < l.length → ∃ a, A = some a ∧ CellsH h a (l.flatMap f))

theorem own_rd {t : TypeId} {size : Nat} {f : α → List Value} {v : Value} {l : List α} {h : Hp} (k : ownS t size f v l h) : rdS size f v l h := by
  rcases k with ⟨rfl, rfl⟩ | ⟨b, c, cs, rfl, hb, hc, hn, hx⟩
  · exact ⟨none, 0, rfl, Nat.le_refl _, fun k => absurd k (by simp)⟩
  · refine ⟨_, c, rfl, hn, fun _ => ⟨_, rfl, ?_⟩⟩
    rw [← hx]
    exact (blk_cells (cs := cs) (t := t) hb 0).take _

theorem flatMap_length {f : α → List Value} {size : Nat} (hf : ∀ x, (f x).length = size) (l : List α) : (l.flatMap f).length = l.length * size := by
  induction l with
  | nil => simp
  | cons x l ih => simp [ih, hf, Nat.add_mul]; omega
theorem flatMap_at {f : α → List Value} {size : Nat} (hf : ∀ x, (f x).length = size) : ∀ (l : List α) (j : Nat) (x : α), l[j]? = some x → ((l.flatMap f).drop (j * size)).take size = f x
  | [], j, x, h => by simp at h
  | y :: l, 0, x, h => by
    simp at h
    subst h
    simp [hf]
  | y :: l, j + 1, x, h => by
    simp only [List.getElem?_cons_succ] at h
    rw [List.flatMap_cons, show (j + 1) * size = (f y).length + j * size from by rw [hf, Nat.add_mul]; omega, ← List.drop_drop, List.drop_left]
    exact flatMap_at hf l j x h

variable {e w : World} {L : List HP} {S : HP} {K : KV} {size : Nat} {f : α → List Value} {v : Value} {l : List α}
theorem Sat.shape (hS : Sat e w L) (i : Nat) (hi : L[i]? = some S) (hr : ∀ g, S g → rdS size f v l g) : ∃ A c, v = .slice A l.length c ∧ l.length ≤ c := by
  obtain ⟨g, hg, _⟩ := hS.get i hi
  obtain ⟨A, c, h1, h2, _⟩ := hr g hg
  exact ⟨A, c, h1, h2⟩
theorem lnS_rd (hS : Sat e w L) (i : Nat) (hi : L[i]? = some S) (hr : ∀ g, S g → rdS size f v l g) (hk : K (.int .i64 (l.length : Int)) w) : lnS v w K := by
  obtain ⟨A, c, rfl, _⟩ := hS.shape i hi hr
  exact ⟨_, _, _, rfl, hk⟩
/-- The address of an element that is read. -/
theorem ixS_rd {k : IntKind} {j : Nat} {x : α} (hS : Sat e w L) (i : Nat) (hi : L[i]? = some S) (hr : ∀ g, S g → rdS size f v l g) (hf : ∀ x, (f x).length = size) (hx : l[j]? = some x)
    (hk : ∀ a, (∀ g, S g → CellsH g a (f x)) → K (.pointer (some a)) w) : ixS size v (.int k (j : Int)) w K := by
  obtain ⟨g, hg, _⟩ := hS.get i hi
  obtain ⟨A, c, h1, h2, h3⟩ := hr g hg
  have hj : j < l.length := (List.getElem?_eq_some_iff.1 hx).1
  obtain ⟨a, rfl, _⟩ := h3 (by omega)
  subst h1
  refine ⟨a, _, _, k, (j : Int), rfl, rfl, by omega, by omega, hk _ fun g' hg' => ?_⟩
  obtain ⟨A', c', h1', h2', h3'⟩ := hr g' hg'
  injection h1' with e1 e2 e3
  obtain ⟨a', e4, hc⟩ := h3' (by omega)
  rw [← e1] at e4
  cases e4
  rw [← flatMap_at hf l j x hx]
  exact ((hc.drop _).take _)
end

end Go.E
