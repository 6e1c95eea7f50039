/- The engine, part Q: a law's arguments that are structs of integers of several kinds. Conditions: none. -/
import Derived.Test.YtdiglafiimnfoaaEngI
namespace Go.E
open Go.RowKit Go.WideShapes Go.Deep

/-- A cell of that kind. -/
def okCell (k : IntKind) (v : Value) : Prop := ∃ n, v = .int k n ∧ (Lit.int k n).wf = true
def Fits : List IntKind → List Value → Prop
  | [], [] => True
  | k :: ks, c :: cs => okCell k c ∧ Fits ks cs
  | _, _ => False
theorem Fits.len : ∀ {ks : List IntKind} {cs : List Value}, Fits ks cs → cs.length = ks.length
  | [], [], _ => rfl
  | _ :: _, _ :: _, h => by rw [List.length_cons, List.length_cons, Fits.len h.2]
  | [], _ :: _, h => h.elim
  | _ :: _, [], h => h.elim
theorem Fits.append : ∀ {ks : List IntKind} {cs : List Value} {js : List IntKind} {ds : List Value}, Fits ks cs → Fits js ds → Fits (ks ++ js) (cs ++ ds)
  | [], [], _, _, _, k => k
  | _ :: _, _ :: _, _, _, h, k => ⟨h.1, Fits.append h.2 k⟩
  | [], _ :: _, _, _, h, _ => h.elim
  | _ :: _, [], _, _, h, _ => h.elim
/-- The kinds of a struct's cells. -/
def kdT (P : Program) : Nat → TypeId → Option (List IntKind)
  | 0, _ => none
  | n + 1, t =>
    match P.underlying t with
    | some (.int k) => some [k]
    | some (.struct fs) => match P.stoodInHeld t with
      | true => none
      | false => fs.toList.foldl (fun (acc : Option (List IntKind)) f => match acc with
        | none => none
        | some l => match decide (f.offset = l.length), kdT P n f.type with
          | true, some s => match decide (szD P f.type = s.length) with | true => some (l ++ s) | false => none
          | _, _ => none) (some [])
    | _ => none
section
variable {H : Type} {enc : TypeId × Value → H} {P : Program} {w : World} {base : Nat} {spare : Nat → Bool} {held : Bool}
theorem foldl_none' {α β : Type} (g : Option β → α → Option β) (hg : ∀ x, g none x = none) : ∀ l : List α, l.foldl g none = none
  | [] => rfl
  | x :: l => by simp only [List.foldl_cons, hg]; exact foldl_none' g hg l
theorem trod_fits : ∀ (n : Nat) (t : TypeId) (ks : List IntKind), kdT P n t = some ks → szD P t = ks.length → ∀ (fuel : Nat) (cs : List Value) (x : DataW H × List MemPlace), DataW.trod enc P w base spare held fuel t cs = some x → Fits ks cs := by
  intro n
  induction n with
  | zero => intro t s h; simp [kdT] at h
  | succ n ih =>
    intro t ks h hsz fuel cs x hx
    unfold kdT at h
    split at h
    · rename_i k hu
      obtain ⟨m, rfl, hw⟩ := trod_int64 hu hx
      injection h with h
      subst h
      exact ⟨⟨m, rfl, hw⟩, trivial⟩
    · rename_i fs hu
      split at h
      · cases h
      · obtain ⟨xs, k, _, _, hlen, hxl, hg⟩ := DataW.trod_struct hu hx
        have hcl : P.cellsOf t = ks.length := by rw [← hsz, cellsOf_sz]
        have hlen' : cs.length = ks.length := hlen.trans hcl
        have key : ∀ (l : List Field) (i : Nat) (pre : List IntKind), (∀ j, l[j]? = fs[i + j]?) → l.foldl (fun (acc : Option (List IntKind)) f => match acc with
            | none => none
            | some l => match decide (f.offset = l.length), kdT P n f.type with
              | true, some s => match decide (szD P f.type = s.length) with | true => some (l ++ s) | false => none
              | _, _ => none) (some pre) = some ks → ∃ suf, ks = pre ++ suf ∧ Fits suf (cs.drop pre.length) := by
          intro l
          induction l with
          | nil =>
            intro i pre _ ho
            simp only [List.foldl_nil, Option.some.injEq] at ho
            subst ho
            refine ⟨[], by simp, ?_⟩
            rw [List.drop_of_length_le (by omega)]
            trivial
          | cons f l ihl =>
            intro i pre hl ho
            simp only [List.foldl_cons] at ho
            split at ho
            · rename_i sf hc he
              split at ho
              · rename_i hz
                simp only [decide_eq_true_eq] at hc hz
                obtain ⟨suf, hs1, hs2⟩ := ihl (i + 1) (pre ++ sf) (fun j => by have := hl (j + 1); simpa [Nat.add_assoc, Nat.add_comm 1 j] using this) ho
                have hfi : fs[i]? = some f := by simpa using (hl 0).symm
                have hgf := hg i f hfi
                rw [hc, cellsOf_sz, hz] at hgf
                cases hxi : xs[i]? with
                | none =>
                  have h1 := (Array.getElem?_eq_some_iff.1 hfi).1
                  rw [List.getElem?_eq_none_iff] at hxi
                  omega
                | some y =>
                  rw [hxi] at hgf
                  have h1 := ih f.type sf he hz _ _ _ hgf
                  refine ⟨sf ++ suf, by rw [hs1, List.append_assoc], ?_⟩
                  have e1 : cs.drop pre.length = (cs.drop pre.length).take sf.length ++ cs.drop (pre ++ sf).length := by
                    rw [List.length_append, ← List.drop_drop, List.take_append_drop]
                  rw [e1]
                  exact h1.append hs2
              · rw [foldl_none' _ (fun _ => rfl)] at ho; cases ho
            · rw [foldl_none' _ (fun _ => rfl)] at ho; cases ho
        obtain ⟨suf, h1, h2⟩ := key fs.toList 0 [] (fun j => by simp) h
        rw [h1]
        exact h2
    · cases h

theorem flatMap_get {s : Nat} (f : Nat → List Value) : ∀ (l : List Nat) (q r : Nat), (∀ i ∈ l, (f i).length = s) → r < s → ∀ x, l[q]? = some x → ((l.map f).flatMap id)[q * s + r]? = (f x)[r]? := by
  intro l
  induction l with
  | nil => intro q r _ _ x hx; simp at hx
  | cons y l ih =>
    intro q r hl hr x hx
    have hly : (f y).length = s := hl y (by simp)
    cases q with
    | zero =>
      simp at hx
      subst hx
      simp only [Nat.zero_mul, Nat.zero_add, List.map_cons, List.flatMap_cons, id]
      rw [List.getElem?_append_left (by omega)]
    | succ q =>
      simp only [List.getElem?_cons_succ] at hx
      simp only [List.map_cons, List.flatMap_cons, id]
      rw [List.getElem?_append_right (by rw [hly, Nat.add_mul]; omega), hly, show (q + 1) * s + r - s = q * s + r from by rw [Nat.add_mul]; omega]
      exact ih q r (fun i hi => hl i (by simp [hi])) hr x hx

/-- A slice of such structs that came in. -/
theorem open_fits {st t : TypeId} {ks : List IntKind} {n : Nat} (hu : P.underlying st = some (.slice t)) (hT : kdT P n t = some ks) (hsz : szD P t = ks.length) (hs : 0 < ks.length) {v : Value} {d : DataW H} {p : List MemPlace} {a : Option Addr} {len cap : Nat} (hv : v = .slice a len cap)
    (h : DataW.Trod enc P w base spare held st v d p) : ∃ l : List (List Value), (∀ cs ∈ l, Fits ks cs) ∧ ∀ g, Old w g → rdS ks.length id v l g := by
  subst hv
  obtain ⟨fuel, hf⟩ := h
  have hf' : DataW.trod enc P w base spare held fuel st [.slice a len cap] = some (d, p) := hf
  rcases open_slice hu hf' with ⟨hcs, _⟩ | ⟨a', len', cap', m, k, D, Pl, hcs, hb, hl, hm, hmm, hx, hi⟩
  · injection hcs with hcs _
    injection hcs with e1 e2 e3
    subst e1; subst e2; subst e3
    exact ⟨[], by simp, fun g _ => ⟨none, 0, rfl, Nat.le_refl _, fun h => absurd h (by simp)⟩⟩
  · injection hcs with hcs _
    injection hcs with e1 e2 e3
    subst e1; subst e2; subst e3
    rw [cellsOf_sz, hsz] at hi
    generalize hss : ks.length = s at *
    have hlm : len ≤ m := by rw [hmm]; split <;> omega
    have hex : ∀ i, i < len → ∃ cs : List Value, Fits ks cs ∧ w.cells? base (a'.add (i * s)) s = some cs := by
      intro i hil
      obtain ⟨cs', h1, h2⟩ := hi i (by omega)
      exact ⟨cs', trod_fits n t ks hT (by rw [hsz, hss]) _ _ _ h2, h1⟩
    obtain ⟨f, hf2⟩ : ∃ f : Nat → List Value, ∀ i, i < len → Fits ks (f i) ∧ w.cells? base (a'.add (i * s)) s = some (f i) :=
      ⟨fun i => if h : i < len then (hex i h).choose else [], fun i h => by simp only [dif_pos h]; exact (hex i h).choose_spec⟩
    have hfl : ∀ i, i < len → (f i).length = s := fun i hi => by rw [(hf2 i hi).1.len, hss]
    refine ⟨(List.range len).map f, fun ns hns => ?_, fun g hg => ⟨some a', cap, by simp, by simpa using hl, fun h0 => ⟨a', rfl, ?_⟩⟩⟩
    · obtain ⟨i, hi, rfl⟩ := List.mem_map.1 hns
      exact (hf2 i (by simpa using hi)).1
    · have hlen0 : 0 < len := by simpa using h0
      have hblk : a'.block < w.heap.size := by
        have := cells?_lt hs (hf2 0 hlen0).2
        simpa [Addr.add] using this
      refine Old.cells hblk (fun i v hv => ?_) g hg
      have hli : i < ((List.range len).map f).length * s := by
        have h1 := (List.getElem?_eq_some_iff.1 hv).1
        have h2 : ∀ l : List Nat, (∀ i ∈ l, i < len) → ((l.map f).flatMap id).length = l.length * s := by
          intro l
          induction l with
          | nil => intro _; simp
          | cons x l ih => intro hx; simp only [List.map_cons, List.flatMap_cons, id, List.length_append, List.length_cons, ih (fun i hi => hx i (by simp [hi])), hfl x (hx x (by simp)), Nat.add_mul]; omega
        rw [h2 (List.range len) (fun i hi => by simpa using hi)] at h1
        simpa using h1
      have hq : i / s < len := by
        rw [Nat.div_lt_iff_lt_mul hs]
        simpa using hli
      have hmod := Nat.mod_lt i hs
      obtain ⟨_, h2⟩ := hf2 (i / s) hq
      obtain ⟨_, _, h3⟩ := World.cells?_some h2
      have h4 := h3 (i % s) hmod
      rw [add_add, show i / s * s + i % s = i from by rw [Nat.mul_comm]; exact Nat.div_add_mod i s] at h4
      rw [h4]
      have := flatMap_get (s := s) f (List.range len) (i / s) (i % s) (fun i hi => hfl i (by simpa using hi)) hmod (i / s) (by simp [hq])
      rw [show i / s * s + i % s = i from by rw [Nat.mul_comm]; exact Nat.div_add_mod i s] at this
      rw [← this]
      exact hv
theorem rd_of_fits {α : Type} {s : Nat} {f : α → List Value} (of : List Value → α) {v : Value} {l : List (List Value)} {g : Hp} (h : rdS s id v l g) (hof : ∀ cs ∈ l, f (of cs) = cs) : rdS s f v (l.map of) g := by
  obtain ⟨A, c, h1, h2, h3⟩ := h
  refine ⟨A, c, by simpa using h1, by simpa using h2, fun h0 => ?_⟩
  obtain ⟨a, h4, h5⟩ := h3 (by simpa using h0)
  refine ⟨a, h4, ?_⟩
  have e : (l.map of).flatMap f = l.flatMap id := by
    clear h1 h2 h3 h5 h0
    induction l with
    | nil => rfl
    | cons x l ih => simp only [List.map_cons, List.flatMap_cons, hof x (by simp), ih (fun ns hns => hof ns (by simp [hns])), id]
  rw [e]
  exact h5
/-- The number in a cell. -/
def iOf : Value → Int
  | .int _ n => n
  | _ => 0
theorem okCell.of {k : IntKind} {v : Value} (h : okCell k v) : v = .int k (iOf v) ∧ (Lit.int k (iOf v)).wf = true := by
  obtain ⟨n, rfl, h⟩ := h
  exact ⟨rfl, h⟩
end
end Go.E
