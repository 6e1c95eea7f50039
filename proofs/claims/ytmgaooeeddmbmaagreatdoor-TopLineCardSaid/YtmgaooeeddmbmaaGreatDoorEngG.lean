/- The engine, part G: append, integers, tests. Conditions: none. -/
import Derived.Test.YtmgaooeeddmbmaaGreatDoorEngF
namespace Go.E
open Go.RowKit

/-- What is to be known of a slice's type. -/
structure TE (P : Program) (st t : TypeId) (size bytes : Nat) : Prop where
  und : P.underlying st = some (.slice t)
  inf : ∃ i z, P.info? t = some i ∧ i.size = size ∧ i.bytes = bytes ∧ i.zero = some z ∧ z.cells.size = size
  pos : 0 < size ∧ 0 < bytes

section
variable {P : Program} {w : World}
theorem run_first {size n c : Nat} {a : Addr} {vs : List Value} (hn : vs.length = n * size) (hc : CellsAt w a vs) : (Builtin.firstCells size n (.slice (some a) n c)).run P w = .ok vs.toArray w := by
  simp only [Builtin.firstCells]
  rw [← hn]
  exact run_cells hc

theorem zeroCells_size (z : Array Value) (n : Nat) : (Builtin.zeroCells z n).size = n * z.size := by simp [Builtin.zeroCells]

/-- The new cells, the source read. -/
theorem run_append_room {st t xt ty : TypeId} {size bytes : Nat} (T : TE P st t size bytes) {t2 : TypeId} (hx : P.underlying xt = some (.slice t2)) {b n c m c' : Nat} {A : Option Addr} {new : List Value} (hroom : n + m ≤ c)
    (hsrc : (Builtin.firstCells size m (.slice A m c')).run P w = .ok new.toArray w) (hf : ∀ v ∈ new, flat v = true)
    (hset : ∀ j, j < new.length → (w.cell? ((⟨b, n * size, none⟩ : Addr).add j)).isSome = true ∧ w.frozen? ((⟨b, n * size, none⟩ : Addr).add j) = false) :
    (Builtin.append_ #[st, xt] ty #[.slice (some ⟨b, 0, none⟩) n c, .slice A m c']).run P w = .ok (.slice (some ⟨b, 0, none⟩) (n + m) c) (setCs w ⟨b, n * size, none⟩ 0 new) := by
  obtain ⟨i, z, hi, h1, h2, h3, h4⟩ := T.inf
  have ea : ((⟨b, 0, none⟩ : Addr).add (n * size)) = ⟨b, n * size, none⟩ := by
    unfold Addr.add
    split
    · rename_i h0; rw [h0]
    · simp
  have hst : (storeCells ⟨b, n * size, none⟩ new).run P w = .ok () (setCs w ⟨b, n * size, none⟩ 0 new) :=
    run_storeCells new 0 w hf (fun j _ h => hset j (by omega))
  unfold Builtin.append_
  simp only [List.getElem?_toArray, List.getElem?_cons_zero, List.getElem?_cons_succ, Sem.run_bind, run_und T.und, Result.andThen_ok, run_sz hi, h1, run_und hx, Sem.run_pure, Builtin.lenOf, Bool.false_eq_true, if_false, hroom, if_true, Bool.not_false, hsrc, ea, hst]

theorem run_append_grow {st t xt ty : TypeId} {size bytes : Nat} (T : TE P st t size bytes) {t2 : TypeId} (hx : P.underlying xt = some (.slice t2)) {n c m c' : Nat} {A B : Option Addr} {old new : List Value} (hroom : ¬ n + m ≤ c) (hb : (n + m) * bytes ≤ 140737488355328)
    (hold : ∀ w' : World, w'.heap = w.heap → (Builtin.firstCells size n (.slice B n c)).run P w' = .ok old.toArray w') (hsrc : ∀ w' : World, w'.heap = w.heap → (Builtin.firstCells size m (.slice A m c')).run P w' = .ok new.toArray w') :
    ∃ cap rest, n + m ≤ cap ∧ rest.length = (cap - (n + m)) * size ∧ (Builtin.append_ #[st, xt] ty #[.slice B n c, .slice A m c']).run P w = .ok (.slice (some ⟨w.heap.size, 0, none⟩) (n + m) cap) (w.drew.alloc (.cells (old ++ new ++ rest).toArray t)) := by
  obtain ⟨i, z, hi, h1, h2, h3, h4⟩ := T.inf
  have hn : n + m ≤ 140737488355328 := by
    have := T.pos.2
    exact Nat.le_trans (Nat.le_mul_of_pos_right _ this) hb
  refine ⟨(Question.appendCap (n + m) c t).cut (w.tape w.drawn (.appendCap (n + m) c t)), (Builtin.zeroCells z.cells ((Question.appendCap (n + m) c t).cut (w.tape w.drawn (.appendCap (n + m) c t)) - (n + m))).toList, by simp [Question.cut], by simp [zeroCells_size, h4], ?_⟩
  have g1 : ¬ ((n + m : Nat) : Int) > IntKind.i64.max := by
    simp only [IntKind.max, IntKind.signed, IntKind.bits]; simp; omega
  have g2 : ¬ Builtin.nextslicecap (n + m) c * bytes > 2 ^ 48 := by
    have := growslice_fits (need := n + m) (old := c) (bytes := bytes) (by omega) hb
    omega
  have ho := hold w.drew rfl
  have hs := hsrc w.drew rfl
  have hask : ∀ (x : Nat) (w' : World), (askRoom x).run P w' = .ok () w' := by
    intro x w'
    unfold askRoom
    split <;> rfl
  unfold Builtin.append_
  simp only [List.getElem?_toArray, List.getElem?_cons_zero, List.getElem?_cons_succ, Sem.run_bind, run_und T.und, Result.andThen_ok, run_sz hi, h1, run_und hx, Sem.run_pure, Builtin.lenOf, Bool.false_eq_true, if_false, hroom, Bool.not_false, run_ti hi, h2, g1, false_and, g2, if_true]
  simp only [choose, Sem.run, Question.forced, Bool.false_eq_true, if_false, Result.andThen_ok, hask]
  change ((Builtin.firstCells size n (.slice B n c)).run P w.drew).andThen _ = _
  rw [ho]
  simp only [Result.andThen_ok]
  change ((Builtin.firstCells size m (.slice A m c')).run P w.drew).andThen _ = _
  rw [hs]
  simp only [Result.andThen_ok, run_zero hi h3, newRow, newObj, Sem.run_bind, Sem.run, Sem.run_pure]
  congr 1
  simp only [World.alloc, World.drew]
  congr 2
  simp
end

theorem flat_ok {α : Type} {f : α → List Value} (hf : ∀ x, ∀ v ∈ f x, flat v = true) (l : List α) : ∀ v ∈ l.flatMap f, flat v = true := by
  intro v hv
  obtain ⟨x, _, hx⟩ := List.mem_flatMap.1 hv
  exact hf x v hx

section
variable {P : Program} {e w : World} {α : Type} {f : α → List Value} {size bytes : Nat} {R : List HP} {S : HP} {K : KV}
theorem apS_ownM {st t xt ty t2 : TypeId} {s x : Value} {l m : List α} (T : TE P st t size bytes) (hx : P.underlying xt = some (.slice t2)) (hf : ∀ x, (f x).length = size) (hff : ∀ x ∈ m, ∀ v ∈ f x, flat v = true)
    (hS : Sat e w (ownS t size f s l :: S :: R)) (hr : ∀ g, S g → rdS size f x m g) (hb : (l.length + m.length) * bytes ≤ 140737488355328)
    (hk : ∀ v' w', Sat e w' (ownS t size f v' (l ++ m) :: S :: R) → K v' w') : apS P #[st, xt] ty s x w K := by
  obtain ⟨A, c', rfl, hmc⟩ := hS.shape 1 rfl hr
  have hsrc : ∀ w' : World, w'.heap = w.heap → (Builtin.firstCells size m.length (.slice A m.length c')).run P w' = .ok (m.flatMap f).toArray w' := by
    intro w' hw'
    have hhp : hp w = hp w' := by unfold hp; rw [hw']
    obtain ⟨g, hg, hs⟩ := hS.get 1 rfl
    obtain ⟨A', c2, h1, h2, h3⟩ := hr g hg
    injection h1 with e1 e2 e3
    by_cases h0 : 0 < m.length
    · obtain ⟨a, ha, hc⟩ := h3 h0
      rw [← e1] at ha
      subst ha
      exact run_first (flatMap_length hf m) (hc.up (by rw [← hhp]; exact hs : Sub g (hp w')))
    · obtain rfl : m = [] := List.length_eq_zero_iff.1 (by omega)
      cases A with
      | none => simp [Builtin.firstCells]
      | some a => exact run_first (vs := []) (by simp) (fun i v hv => by simp at hv)
  obtain ⟨h1, h2, d, s1, s2, p, r⟩ := hS.mem
  rcases p with ⟨rfl, rfl⟩ | ⟨b, c, cs, rfl, hbb, hcs, hlc, hx'⟩
  · -- the source is nil
    by_cases hm : m.length = 0
    · obtain rfl : m = [] := List.length_eq_zero_iff.1 hm
      refine ex_oV (w' := w) (v := .slice none 0 0) ?_ (hk _ _ hS)
      obtain ⟨i, z, hi, h1, h2, h3, h4⟩ := T.inf
      have hs0 := hsrc w rfl
      simp only [List.flatMap_nil] at hs0
      change (Builtin.firstCells size 0 (.slice A 0 c')).run P w = .ok #[] w at hs0
      unfold Builtin.append_
      simp only [List.getElem?_toArray, List.getElem?_cons_zero, List.getElem?_cons_succ, Sem.run_bind, run_und T.und, Result.andThen_ok, run_sz hi, h1, run_und hx, Sem.run_pure, Builtin.lenOf, Bool.false_eq_true, if_false, List.length_nil, Nat.add_zero, Nat.le_refl, if_true, Bool.not_false, hs0]
    · obtain ⟨cap, rest, g1, g2, g3⟩ := run_append_grow (P := P) (w := w) (ty := ty) T hx (n := 0) (c := 0) (m := m.length) (c' := c') (A := A) (B := none) (old := []) (new := m.flatMap f) (by omega) (by simpa using hb)
        (fun w' _ => by simp [Builtin.firstCells]) hsrc
      refine ex_oV g3 (hk _ _ ?_)
      have h3 := hS.drop.drew.alloc (.cells ([] ++ m.flatMap f ++ rest).toArray t)
      refine h3.imp fun g hg => .inr ⟨w.heap.size, cap, m.flatMap f ++ rest, by simp, ?_, ?_, by simpa using g1, ?_⟩
      · rw [List.nil_append] at hg; exact hg
      · rw [List.length_append, flatMap_length hf, g2, ← Nat.add_mul]; congr 1; omega
      · rw [List.nil_append, List.take_left' (flatMap_length hf m)]
  · by_cases hroom : l.length + m.length ≤ c
    · have hh : w.heap[b]? = some (.cells cs.toArray t (0, 0)) := s1 _ _ hbb
      have hle : l.length * size + m.length * size ≤ cs.length := by rw [hcs, ← Nat.add_mul]; exact Nat.mul_le_mul_right _ hroom
      have hg := run_append_room (P := P) (w := w) (ty := ty) T hx (b := b) (n := l.length) (c := c) (m := m.length) (c' := c') (A := A) (new := m.flatMap f) hroom (hsrc w rfl) (fun v hv => by obtain ⟨x, hx, hv⟩ := List.mem_flatMap.1 hv; exact hff x hx v hv) (fun j hj => by
        rw [flatMap_length hf] at hj
        have ea : ((⟨b, l.length * size, none⟩ : Addr).add j) = ⟨b, l.length * size + j, none⟩ := by
          unfold Addr.add
          split
          · rename_i h0; subst h0; rfl
          · rfl
        rw [ea]
        constructor
        · simp only [World.cell?, hh]
          simp
          omega
        · simp [World.frozen?, hh])
      refine ex_oV hg (hk _ _ ?_)
      rw [setCs_blk _ w (l.length * size) 0 cs hh (by rw [flatMap_length hf]; omega)]
      have h0 : Sat e w ((fun g => g b = some (.cells cs.toArray t (0, 0))) :: S :: R) := ⟨hS.os, hS.tape, hS.output, hS.drawn, hS.size, h1, h2, d, s1, s2, hbb, r⟩
      refine h0.setB.imp fun g hg => .inr ⟨b, c, _, by simp, hg, ?_, by simpa using hroom, ?_⟩
      · simp only [wrL, List.length_append, List.length_take, List.length_drop, flatMap_length hf, Nat.add_zero]
        omega
      · simp only [wrL, Nat.add_zero, hx', List.flatMap_append]
        rw [List.take_left' (by simp [flatMap_length hf, Nat.add_mul])]
    · obtain ⟨cap, rest, g1, g2, g3⟩ := run_append_grow (P := P) (w := w) (ty := ty) T hx (n := l.length) (c := c) (m := m.length) (c' := c') (A := A) (B := some ⟨b, 0, none⟩) (old := l.flatMap f) (new := m.flatMap f) hroom hb
        (fun w' hw' => by
          have hhp : hp w = hp w' := by unfold hp; rw [hw']
          refine run_first (flatMap_length hf l) ?_
          have : CellsH h1 ⟨b, 0, none⟩ (l.flatMap f) := by rw [← hx']; exact (blk_cells (cs := cs) (t := t) hbb 0).take _
          exact this.up (by rw [← hhp]; exact s1 : Sub h1 (hp w'))) hsrc
      refine ex_oV g3 (hk _ _ ?_)
      have h3 := hS.drop.drew.alloc (.cells (l.flatMap f ++ m.flatMap f ++ rest).toArray t)
      refine h3.imp fun g hg => .inr ⟨w.heap.size, cap, l.flatMap f ++ m.flatMap f ++ rest, by simp, hg, ?_, by simpa using g1, ?_⟩
      · rw [List.length_append, List.length_append, flatMap_length hf, flatMap_length hf, g2, ← Nat.add_mul, ← Nat.add_mul]; congr 1; omega
      · rw [← List.flatMap_append, List.take_left' (flatMap_length hf _)]

/-! ### One element -/
theorem apS_own {st t xt ty t2 : TypeId} {s x : Value} {l m : List α} (T : TE P st t size bytes) (hx : P.underlying xt = some (.slice t2)) (hf : ∀ x, (f x).length = size) (hff : ∀ x, ∀ v ∈ f x, flat v = true)
    (hS : Sat e w (ownS t size f s l :: S :: R)) (hr : ∀ g, S g → rdS size f x m g) (hb : (l.length + m.length) * bytes ≤ 140737488355328)
    (hk : ∀ v' w', Sat e w' (ownS t size f v' (l ++ m) :: S :: R) → K v' w') : apS P #[st, xt] ty s x w K := apS_ownM T hx hf (fun x _ => hff x) hS hr hb hk

theorem fold_set (vs : List Value) : ∀ (k : Nat) (cs : Array Value), k + vs.length ≤ cs.size → ((vs.zipIdx k).foldl (fun (cs : Array Value) (x : Value × Nat) => cs.setIfInBounds x.2 x.1) cs).toList = wrL cs.toList k vs := by
  induction vs with
  | nil => intro k cs _; simp [wrL]
  | cons v vs ih =>
    intro k cs h
    simp only [List.length_cons] at h
    simp only [List.zipIdx_cons, List.foldl_cons]
    rw [ih (k + 1) (cs.setIfInBounds k v) (by simp; omega)]
    rw [Array.toList_setIfInBounds, wrL_step _ _ _ _ (by simp; omega)]
theorem fill_one {size : Nat} {zero : Array Value} {v : Value} (hz : zero.size = size) (hv : v.cells.size = size) :
    Instr.fill (fun i => some (i * size, size)) zero [(0, v)] = some v.cells := by
  simp only [Instr.fill, Nat.zero_mul, hv, hz, ne_eq, not_true_eq_false, decide_false, Nat.zero_add, Nat.lt_irrefl, gt_iff_lt, Bool.or_self, Bool.false_eq_true, if_false]
  congr 1
  apply Array.ext'
  have h := fold_set v.cells.toList 0 zero (by simp [hv, hz])
  have e : (Array.foldl (fun (cs : Array Value) (x : Value × Nat) => cs.setIfInBounds x.2 x.1) zero v.cells.zipIdx) = (v.cells.toList.zipIdx 0).foldl (fun (cs : Array Value) (x : Value × Nat) => cs.setIfInBounds x.2 x.1) zero := by
    rw [← Array.foldl_toList, Array.toList_zipIdx]
  rw [e, h]
  simp [wrL, hv, ← hz]

theorem bsl1 {t : TypeId} {size : Nat} {zero : Array Value} {v : Value} {vs : List Value} {L : List HP} (hv : v.cells.toList = vs) (hn : vs.length = size) (hS : Sat e w L)
    (hk : ∀ b w', Sat e w' (blk b t vs :: L) → K (.slice (some ⟨b, 0, none⟩) 1 1) w') : bsl t size 1 zero [(0, v)] w K := by
  subst hv
  refine ⟨v.cells, ?_, ?_⟩
  · have : ((Array.range (1 * size)).map (zero[· % zero.size]!)).size = size := by simp
    exact fill_one this (by simpa using hn)
  · refine hk _ _ ?_
    have := hS.alloc (.cells v.cells t)
    exact this.imp fun g hg => by simpa [blk] using hg
theorem bsl0 {t : TypeId} {size : Nat} {L : List HP} (hS : Sat e w L) (f : α → List Value) (hk : ∀ v w', Sat e w' (ownS t size f v [] :: L) → K v w') : bsl t size 0 #[] [] w K := by
  refine ⟨#[], by simp [Instr.fill], hk _ _ ?_⟩
  have := hS.alloc (.cells #[] t)
  exact this.imp fun g hg => .inr ⟨_, 0, [], rfl, by simpa using hg, by simp, Nat.le_refl _, by simp⟩
theorem blk_rd1 {b : Nat} {t : TypeId} {x : α} {c : Nat} (hc : 1 ≤ c) : ∀ g, blk b t (f x) g → rdS size f (.slice (some ⟨b, 0, none⟩) 1 c) [x] g := fun g hg =>
  ⟨_, c, rfl, hc, fun _ => ⟨_, rfl, by simpa using blk_cells hg 0⟩⟩
/-- append(s, x). -/
theorem push1 {st t ty : TypeId} {s v : Value} {l : List α} {x : α} {zero : Array Value} (T : TE P st t size bytes) (hf : ∀ x, (f x).length = size) (hff : ∀ x, ∀ v ∈ f x, flat v = true) 
    (hS : Sat e w (ownS t size f s l :: R)) (hv : v.cells.toList = f x) (hb : (l.length + 1) * bytes ≤ 140737488355328)
    (hk : ∀ v' w', Sat e w' (ownS t size f v' (l ++ [x]) :: R) → K v' w') : bsl t size 1 zero [(0, v)] w fun y w => apS P #[st, st] ty s y w K := by
  refine bsl1 hv (hf x) hS fun b w1 h1 => ?_
  refine apS_own T T.und hf hff h1.swap (blk_rd1 (Nat.le_refl _)) (by simpa using hb) fun v' w2 h2 => hk _ _ h2.swap.drop
end

section
variable {e w : World} {K : KV}
theorem bld_s {zero : Array Value} {places : Array (Nat × Nat)} {parts : List (Nat × Value)} (cs : List Value) (hf : Instr.fill (places[·]?) zero parts = some cs.toArray) (hk : K (.agg cs.toArray) w) : bld zero places parts w K := ⟨_, hf, hk⟩
theorem Sat.own_nil {α : Type} {L : List HP} (t : TypeId) (size : Nat) (f : α → List Value) (h : Sat e w L) : Sat e w (ownS t size f (.slice none 0 0) [] :: L) :=
  h.of_mem fun m => ⟨fun _ => none, Go.E.hp w, fun _ => .inl rfl, fun _ _ e => (by cases e), Sub.refl _, .inl ⟨rfl, rfl⟩, m⟩
/-- The slice's value is no aggregate. -/
theorem Sat.own_cells {α : Type} {L : List HP} {t : TypeId} {size : Nat} {f : α → List Value} {v : Value} {l : List α} (h : Sat e w L) (i : Nat) (hi : L[i]? = some (ownS t size f v l)) : v.cells.toList = [v] ∧ flat v = true := by
  obtain ⟨A, c, rfl, _⟩ := h.shape i hi (fun _ hg => own_rd hg)
  exact ⟨rfl, rfl⟩
/-- A store of one value into a cell. -/
theorem st1_at {b off : Nat} {t : TypeId} {cs cs' : List Value} {v : Value} {l : List HP} (hS : Sat e w l) (i : Nat) (hi : l[i]? = some (blk b t cs)) (hv : v.cells.toList = [v] ∧ flat v = true) (hb : off < cs.length)
    (hc' : cs.set off v = cs') (hk : ∀ w', Sat e w' (l.set i (blk b t cs')) → K undef w') : stN 1 (.pointer (some ⟨b, off, none⟩)) v w K := by
  refine stN_at hS i hi hv.1 rfl (by omega) (fun c hc => by simp at hc; rw [hc]; exact hv.2) ?_ hk
  rw [← hc', ← wrL_step cs off v [] (by simp; omega)]
  simp [wrL]
end

section
variable {e w : World} {K : KV}
/-- A slice literal. -/
theorem bsl_s {t : TypeId} {size len : Nat} {zero : Array Value} {parts : List (Nat × Value)} {L : List HP} (cs : List Value) (hS : Sat e w L)
    (hf : Instr.fill (fun i => some (i * size, size)) ((Array.range (len * size)).map (zero[· % zero.size]!)) parts = some cs.toArray)
    (hk : ∀ b w', Sat e w' (blk b t cs :: L) → K (.slice (some ⟨b, 0, none⟩) len len) w') : bsl t size len zero parts w K := by
  refine ⟨_, hf, hk _ _ ?_⟩
  have := hS.alloc (.cells cs.toArray t)
  exact this.imp fun g hg => hg
theorem blk_rdn {α : Type} {size : Nat} {f : α → List Value} {b : Nat} {t : TypeId} {cs : List Value} {c : Nat} (l : List α) (he : cs = l.flatMap f) (hc : l.length ≤ c) : ∀ g, blk b t cs g → rdS size f (.slice (some ⟨b, 0, none⟩) l.length c) l g := fun g hg =>
  ⟨_, c, rfl, hc, fun _ => ⟨_, rfl, by subst he; simpa using blk_cells hg 0⟩⟩
end

end Go.E
