/- The engine, part I: a law's arguments, read as lists of integers. Conditions: none. -/
import Derived.Test.YtmgaooeeddmbmaaGreatDoorEngH
import Derived.ProofKit
import Derived.Deep.Slices
namespace Go.E
open Go.RowKit Go.WideShapes Go.Deep

section
variable {H : Type} {enc : TypeId × Value → H} {P : Program} {w : World} {base : Nat} {spare : Nat → Bool} {held : Bool}

theorem trod_int64 {t : TypeId} {k : IntKind} {fuel : Nat} {cs : List Value} {x : DataW H × List MemPlace} (hu : P.underlying t = some (.int k)) (h : DataW.trod enc P w base spare held fuel t cs = some x) :
    ∃ n, cs = [.int k n] ∧ (Lit.int k n).wf = true := by
  cases fuel with
  | zero => simp [DataW.trod] at h
  | succ fuel =>
    unfold DataW.trod at h
    rw [hu] at h
    match cs, h with
    | [.int k' n], h =>
      simp only at h
      split at h
      · rename_i hc
        obtain ⟨rfl, hw⟩ := hc
        exact ⟨n, rfl, hw⟩
      · cases h

/-- Whatever reads as a struct of integers is integers. -/
theorem trod_ints : ∀ (n : Nat) (t : TypeId) (s : Nat), eqT P n t = some s → szD P t = s → ∀ (fuel : Nat) (cs : List Value) (x : DataW H × List MemPlace), DataW.trod enc P w base spare held fuel t cs = some x →
    ∃ ns : List Int, ns.length = s ∧ cs = ints ns ∧ ∀ m ∈ ns, (Lit.int .i64 m).wf = true := by
  intro n
  induction n with
  | zero => intro t s h; simp [eqT] at h
  | succ n ih =>
    intro t s h hsz fuel cs x hx
    unfold eqT at h
    split at h
    · rename_i hu
      obtain ⟨m, rfl, hw⟩ := trod_int64 hu hx
      exact ⟨[m], by simpa using h, rfl, by simpa using hw⟩
    · rename_i fs hu
      split at h
      · cases h
      · obtain ⟨xs, k, _, _, hlen, hxl, hg⟩ := DataW.trod_struct hu hx
        have hcl : P.cellsOf t = s := by
          rw [← hsz]; unfold Program.cellsOf szD; cases P.info? t <;> rfl
        have hlen' : cs.length = s := hlen.trans hcl
        have key : ∀ (l : List Field) (i off : Nat), (∀ j, l[j]? = fs[i + j]?) → l.foldl (fun (acc : Option Nat) f => match acc with
            | none => none
            | some off => match decide (f.name ≠ "_") && decide (f.offset = off) && okT P f.type, eqT P n f.type with
              | true, some s => match decide (szD P f.type = s) with | true => some (off + s) | false => none
              | _, _ => none) (some off) = some s → ∃ ns : List Int, ns.length = s - off ∧ cs.drop off = ints ns ∧ ∀ m ∈ ns, (Lit.int .i64 m).wf = true := by
          intro l
          induction l with
          | nil =>
            intro i off _ ho
            simp only [List.foldl_nil, Option.some.injEq] at ho
            subst ho
            exact ⟨[], by simp, by rw [List.drop_of_length_le (by omega)]; rfl, by simp⟩
          | cons f l ihl =>
            intro i off hl ho
            simp only [List.foldl_cons] at ho
            split at ho
            · rename_i sf hc he
              split at ho
              · rename_i hz
                simp only [Bool.and_eq_true, decide_eq_true_eq] at hc hz
                obtain ⟨⟨hname, hoff⟩, hok⟩ := hc
                obtain ⟨ns2, hl2, hc2, hw2⟩ := ihl (i + 1) (off + sf) (fun j => by have := hl (j + 1); simpa [Nat.add_assoc, Nat.add_comm 1 j] using this) ho
                have hfi : fs[i]? = some f := by simpa using (hl 0).symm
                have hgf := hg i f hfi
                have hcf : P.cellsOf f.type = sf := by
                  rw [← hz]; unfold Program.cellsOf szD; cases P.info? f.type <;> rfl
                rw [hoff, hcf] at hgf
                have hle : off + sf ≤ s := by
                  have mono : ∀ (l : List Field) (o : Nat), l.foldl (fun (acc : Option Nat) f => match acc with
                      | none => none
                      | some off => match decide (f.name ≠ "_") && decide (f.offset = off) && okT P f.type, eqT P n f.type with
                        | true, some s => match decide (szD P f.type = s) with | true => some (off + s) | false => none
                        | _, _ => none) (some o) = some s → o ≤ s := by
                    intro l
                    induction l with
                    | nil => intro o h; simp at h; omega
                    | cons g l ih2 =>
                      intro o h
                      simp only [List.foldl_cons] at h
                      split at h
                      · split at h
                        · have := ih2 _ h; omega
                        · rw [foldl_none _ (fun _ => rfl)] at h; cases h
                      · rw [foldl_none _ (fun _ => rfl)] at h; cases h
                  exact mono l _ ho
                cases hxi : xs[i]? with
                | none =>
                  have h1 := (Array.getElem?_eq_some_iff.1 hfi).1
                  rw [List.getElem?_eq_none_iff] at hxi
                  omega
                | some y =>
                  rw [hxi] at hgf
                  obtain ⟨ns1, hl1, hc1, hw1⟩ := ih f.type sf he hz _ _ _ hgf
                  refine ⟨ns1 ++ ns2, by rw [List.length_append, hl1, hl2]; omega, ?_, fun m hm => ?_⟩
                  · have : cs.drop off = (cs.drop off).take sf ++ cs.drop (off + sf) := by rw [← List.drop_drop, List.take_append_drop]
                    rw [this, hc1, hc2]
                    simp [ints]
                  · rcases List.mem_append.1 hm with hm | hm
                    · exact hw1 m hm
                    · exact hw2 m hm
              · rw [foldl_none _ (fun _ => rfl)] at ho; cases ho
            · rw [foldl_none _ (fun _ => rfl)] at ho; cases ho
        obtain ⟨ns, h1, h2, h3⟩ := key fs.toList 0 0 (fun j => by simp) h
        exact ⟨ns, by simpa using h1, by simpa using h2, h3⟩
    · cases h

theorem cells?_lt {w : World} {a : Addr} {n : Nat} {cs : List Value} (hn : 0 < n) (h : w.cells? base a n = some cs) : a.block < w.heap.size := by
  obtain ⟨_, hl, hc⟩ := World.cells?_some h
  have h0 := hc 0 hn
  have : (w.cell? (a.add 0)).isSome = true := by rw [h0]; simp; omega
  unfold World.cell? at this
  cases hb : w.heap[(a.add 0).block]? with
  | none => rw [hb] at this; simp at this
  | some o => exact (Array.getElem?_eq_some_iff.1 hb).1

theorem cellsOf_sz (t : TypeId) : P.cellsOf t = szD P t := by unfold Program.cellsOf szD; cases P.info? t <;> rfl

/-- A slice of structs of integers that came in. -/
theorem open_structs {st t : TypeId} {s n : Nat} (hu : P.underlying st = some (.slice t)) (hT : eqT P n t = some s) (hsz : szD P t = s) (hs : 0 < s) {v : Value} {d : DataW H} {p : List MemPlace} {a : Option Addr} {len cap : Nat} (hv : v = .slice a len cap)
    (h : DataW.Trod enc P w base spare held st v d p) : ∃ l : List (List Int), (∀ ns ∈ l, ns.length = s ∧ ∀ m ∈ ns, (Lit.int .i64 m).wf = true) ∧ ∀ g, Old w g → rdS s ints v l g := by
  subst hv
  obtain ⟨fuel, hf⟩ := h
  have hf' : DataW.trod enc P w base spare held fuel st [.slice a len cap] = some (d, p) := hf
  rcases open_slice hu hf' with ⟨hcs, _⟩ | ⟨a', len', cap', m, k, D, Pl, hcs, hb, hl, hm, hmm, hx, hi⟩
  · injection hcs with hcs _
    injection hcs with e1 e2 e3
    subst e1; subst e2; subst e3
    exact ⟨[], by simp, fun g _ => ⟨none, 0, rfl, Nat.le_refl _, fun h => absurd h (by simp)⟩⟩
  · injection hcs with hcs _
    injection hcs with e1 e2 e3
    subst e1; subst e2; subst e3
    rw [cellsOf_sz, hsz] at hi
    have hlm : len ≤ m := by rw [hmm]; split <;> omega
    have hex : ∀ i, i < len → ∃ ns : List Int, ns.length = s ∧ (∀ x ∈ ns, (Lit.int .i64 x).wf = true) ∧ w.cells? base (a'.add (i * s)) s = some (ints ns) := by
      intro i hil
      obtain ⟨cs', h1, h2⟩ := hi i (by omega)
      obtain ⟨ns, h3, h4, h5⟩ := trod_ints n t s hT hsz _ _ _ h2
      exact ⟨ns, h3, h5, by rw [← h4]; exact h1⟩
    obtain ⟨f, hf2⟩ : ∃ f : Nat → List Int, ∀ i, i < len → (f i).length = s ∧ (∀ x ∈ f i, (Lit.int .i64 x).wf = true) ∧ w.cells? base (a'.add (i * s)) s = some (ints (f i)) :=
      ⟨fun i => if h : i < len then (hex i h).choose else [], fun i h => by simp only [dif_pos h]; exact (hex i h).choose_spec⟩
    refine ⟨(List.range len).map f, fun ns hns => ?_, fun g hg => ⟨some a', cap, by simp, by simpa using hl, fun h0 => ⟨a', rfl, ?_⟩⟩⟩
    · obtain ⟨i, hi, rfl⟩ := List.mem_map.1 hns
      obtain ⟨h1, h2, _⟩ := hf2 i (by simpa using hi)
      exact ⟨h1, h2⟩
    · have hlen0 : 0 < len := by simpa using h0
      have hblk : a'.block < w.heap.size := by
        have := cells?_lt hs (hf2 0 hlen0).2.2
        simpa [Addr.add] using this
      refine Old.cells hblk (fun i v hv => ?_) g hg
      -- cell i lies in element i / s
      have hli : i < ((List.range len).map f).length * s := by
        have := (List.getElem?_eq_some_iff.1 hv).1
        have h2 : ∀ l : List Nat, (∀ i ∈ l, i < len) → (l.flatMap fun i => ints (f i)).length = l.length * s := by
          intro l
          induction l with
          | nil => intro _; simp
          | cons x l ih => intro hx; simp only [List.flatMap_cons, List.length_append, List.length_cons, ih (fun i hi => hx i (by simp [hi])), ints_length, (hf2 x (hx x (by simp))).1, Nat.add_mul]; omega
        have h3 := h2 (List.range len) (fun i hi => by simpa using hi)
        rw [List.flatMap_map] at this
        simpa [h3] using this
      have hq : i / s < len := by
        rw [Nat.div_lt_iff_lt_mul hs]
        simpa using hli
      have hmod := Nat.mod_lt i hs
      obtain ⟨h1, _, h2⟩ := hf2 (i / s) hq
      obtain ⟨_, _, h3⟩ := World.cells?_some h2
      have h4 := h3 (i % s) hmod
      rw [add_add, show i / s * s + i % s = i from by rw [Nat.mul_comm]; exact Nat.div_add_mod i s] at h4
      rw [h4]
      have hdrop : ∀ (l : List Nat) (q r : Nat), (∀ i ∈ l, i < len) → r < s → ∀ x, l[q]? = some x → ((l.map f).flatMap ints)[q * s + r]? = (ints (f x))[r]? := by
        intro l
        induction l with
        | nil => intro q r _ _ x hx; simp at hx
        | cons y l ih =>
          intro q r hl hr x hx
          have hly : (ints (f y)).length = s := by rw [ints_length]; exact (hf2 y (hl y (by simp))).1
          cases q with
          | zero =>
            simp at hx
            subst hx
            simp only [Nat.zero_mul, Nat.zero_add, List.map_cons, List.flatMap_cons]
            rw [List.getElem?_append_left (by omega)]
          | succ q =>
            simp only [List.getElem?_cons_succ] at hx
            simp only [List.map_cons, List.flatMap_cons]
            rw [List.getElem?_append_right (by rw [hly, Nat.add_mul]; omega), hly, show (q + 1) * s + r - s = q * s + r from by rw [Nat.add_mul]; omega]
            exact ih q r (fun i hi => hl i (by simp [hi])) hr x hx
      have := hdrop (List.range len) (i / s) (i % s) (fun i hi => by simpa using hi) hmod (i / s) (by simp [hq])
      rw [show i / s * s + i % s = i from by rw [Nat.mul_comm]; exact Nat.div_add_mod i s] at this
      rw [← this]
      exact hv

/-- The elements as a structure's. -/
theorem rd_of {α : Type} {s : Nat} {f : α → List Value} (of : List Int → α) {v : Value} {l : List (List Int)} {g : Hp} (h : rdS s ints v l g) (hof : ∀ ns ∈ l, f (of ns) = ints ns) : rdS s f v (l.map of) g := by
  obtain ⟨A, c, h1, h2, h3⟩ := h
  refine ⟨A, c, by simpa using h1, by simpa using h2, fun h0 => ?_⟩
  obtain ⟨a, h4, h5⟩ := h3 (by simpa using h0)
  refine ⟨a, h4, ?_⟩
  have e : (l.map of).flatMap f = l.flatMap ints := by
    clear h1 h2 h3 h5 h0
    induction l with
    | nil => rfl
    | cons x l ih => simp only [List.map_cons, List.flatMap_cons, hof x (by simp), ih (fun ns hns => hof ns (by simp [hns]))]
  rw [e]
  exact h5

/-- A struct of integers, by value. -/
theorem open_agg {t : TypeId} {s n : Nat} (hT : eqT P n t = some s) (hsz : szD P t = s) {v : Value} {cs : Array Value} {d : DataW H} {p : List MemPlace} (hv : v = .agg cs) (h : DataW.Trod enc P w base spare held t v d p) :
    ∃ ns : List Int, ns.length = s ∧ v = .agg (ints ns).toArray ∧ ∀ m ∈ ns, (Lit.int .i64 m).wf = true := by
  subst hv
  obtain ⟨fuel, hf⟩ := h
  obtain ⟨ns, h1, h2, h3⟩ := trod_ints n t s hT hsz _ _ _ hf
  refine ⟨ns, h1, ?_, h3⟩
  congr 1
  apply Array.ext'
  simpa [Value.cells] using h2

/-- A slice of integers of kind k that came in. -/
theorem open_intsK {st t : TypeId} {k : IntKind} (hu : P.underlying st = some (.slice t)) (he : P.underlying t = some (.int k)) (hsz : szD P t = 1) {v : Value} {d : DataW H} {p : List MemPlace} {a : Option Addr} {len cap : Nat} (hv : v = .slice a len cap)
    (h : DataW.Trod enc P w base spare held st v d p) : ∃ l : List Int, (∀ m ∈ l, (Lit.int k m).wf = true) ∧ ∀ g, Old w g → rdS 1 (intsK k) v l g := by
  subst hv
  obtain ⟨fuel, hf⟩ := h
  have hf' : DataW.trod enc P w base spare held fuel st [.slice a len cap] = some (d, p) := hf
  rcases open_slice hu hf' with ⟨hcs, _⟩ | ⟨a', len', cap', m, k', D, Pl, hcs, hb, hl, hm, hmm, hx, hi⟩
  · injection hcs with hcs _
    injection hcs with e1 e2 e3
    subst e1; subst e2; subst e3
    exact ⟨[], by simp, fun g _ => ⟨none, 0, rfl, Nat.le_refl _, fun h => absurd h (by simp)⟩⟩
  · injection hcs with hcs _
    injection hcs with e1 e2 e3
    subst e1; subst e2; subst e3
    rw [cellsOf_sz, hsz] at hi
    have hlm : len ≤ m := by rw [hmm]; split <;> omega
    have hex : ∀ i, i < len → ∃ x : Int, (Lit.int k x).wf = true ∧ w.cells? base (a'.add i) 1 = some [.int k x] := by
      intro i hil
      obtain ⟨cs', h1, h2⟩ := hi i (by omega)
      obtain ⟨x, h3, h4⟩ := trod_int64 he h2
      rw [Nat.mul_one] at h1
      exact ⟨x, h4, by rw [← h3]; exact h1⟩
    obtain ⟨f, hf2⟩ : ∃ f : Nat → Int, ∀ i, i < len → (Lit.int k (f i)).wf = true ∧ w.cells? base (a'.add i) 1 = some [.int k (f i)] :=
      ⟨fun i => if h : i < len then (hex i h).choose else 0, fun i h => by simp only [dif_pos h]; exact (hex i h).choose_spec⟩
    refine ⟨(List.range len).map f, fun x hx => ?_, fun g hg => ⟨some a', cap, by simp, by simpa using hl, fun h0 => ⟨a', rfl, ?_⟩⟩⟩
    · obtain ⟨i, hi, rfl⟩ := List.mem_map.1 hx
      exact (hf2 i (by simpa using hi)).1
    · have hlen0 : 0 < len := by simpa using h0
      have hblk : a'.block < w.heap.size := by
        have := cells?_lt Nat.one_pos (hf2 0 hlen0).2
        simpa [Addr.add] using this
      refine Old.cells hblk (fun i v hv => ?_) g hg
      have e : ((List.range len).map f).flatMap (intsK k) = ((List.range len).map f).map (Value.int k) := by
        unfold intsK
        rw [← List.map_eq_flatMap]
      rw [e] at hv
      simp only [List.getElem?_map, Option.map_map] at hv
      have hil : i < len := by
        rcases Nat.lt_or_ge i len with h | h
        · exact h
        · rw [List.getElem?_eq_none (by simpa using h)] at hv; cases hv
      rw [List.getElem?_range hil] at hv
      simp at hv
      obtain ⟨_, _, h3⟩ := World.cells?_some (hf2 i hil).2
      have := h3 0 Nat.one_pos
      rw [add_add, Nat.add_zero] at this
      rw [this, ← hv]
      rfl
end
end Go.E
