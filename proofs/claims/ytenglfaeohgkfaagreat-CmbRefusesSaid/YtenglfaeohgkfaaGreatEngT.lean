/- The engine, part T: slices.SortFunc over an owned slice of structs, by the shelf's contract. Conditions: the function is a strict weak order's; fewer than 2^61 elements. -/
import Derived.Test.YtenglfaeohgkfaaGreatEngR
import Derived.Shelf.SlSortCmp.NoneTotal
namespace Go.E
open Go.RowKit Go.Shelf

/-- Behind a start, with all that was there as it was: draws and new blocks. -/
theorem Sat.grown {W w : World} (h : Sat W w [Old W]) : ∃ q os, w = Go.Sort.grow (W.drewN q) os := by
  refine ⟨w.drawn - W.drawn, w.heap.extract W.heap.size w.heap.size, ?_⟩
  obtain ⟨h1, h2, d, s1, s2, ho, _⟩ := h.mem
  have hsz := h.size
  have hdr := h.drawn
  have hheap : w.heap = W.heap ++ w.heap.extract W.heap.size w.heap.size := by
    apply Array.ext_getElem?
    intro i
    by_cases hi : i < W.heap.size
    · rw [Array.getElem?_append_left hi, Array.getElem?_eq_getElem hi]
      have h3 : h1 i = W.heap[i]? := ho i hi
      rw [Array.getElem?_eq_getElem hi] at h3
      exact s1 i _ h3
    · rw [Array.getElem?_append_right (by omega), Array.getElem?_extract]
      by_cases hi2 : i < w.heap.size
      · rw [if_pos (by omega)]
        congr 1
        omega
      · rw [if_neg (by omega), Array.getElem?_eq_none (by omega)]
  have e1 := h.os
  have e2 := h.tape
  have e3 := h.output
  cases w with
  | mk heap tape drawn os output =>
    cases W with
    | mk heap' tape' drawn' os' output' =>
      simp only [Go.Sort.grow, World.drewN] at *
      subst e1 e2 e3
      rw [← hheap]
      congr 1
      omega

section
variable {α : Type} {size : Nat} {f : α → List Value}
theorem flatMap_get' (hf : ∀ x, (f x).length = size) : ∀ (l : List α) (j r : Nat) (x : α), r < size → l[j]? = some x → (l.flatMap f)[j * size + r]? = (f x)[r]?
  | [], j, r, x, _, h => by simp at h
  | y :: l, 0, r, x, hr, h => by
    simp at h
    subst h
    rw [List.flatMap_cons, Nat.zero_mul, Nat.zero_add, List.getElem?_append_left (by rw [hf]; exact hr)]
  | y :: l, j + 1, r, x, hr, h => by
    simp only [List.getElem?_cons_succ] at h
    rw [List.flatMap_cons, List.getElem?_append_right (by rw [hf, Nat.add_mul]; omega), hf, show (j + 1) * size + r - size = j * size + r by rw [Nat.add_mul]; omega]
    exact flatMap_get' hf l j r x hr h
variable [Inhabited α]
theorem flatK_list (hf : ∀ x, (f x).length = size) (d : Array α) : (Go.Sort.flatK f size d).toList = d.toList.flatMap f := by
  apply List.ext_getElem?
  intro t
  have hlen : (d.toList.flatMap f).length = d.size * size := by rw [flatMap_length hf]; simp
  by_cases ht : t < d.size * size
  · have h0 : 0 < size := by
      rcases Nat.eq_zero_or_pos size with h | h
      · subst h; simp at ht
      · exact h
    have hj : t / size < d.size := by rw [Nat.div_lt_iff_lt_mul h0]; exact ht
    have hr := Nat.mod_lt t h0
    have h1 := flatMap_get' hf d.toList (t / size) (t % size) d[t / size] hr (by rw [List.getElem?_eq_getElem (by simpa using hj)]; simp)
    rw [show t / size * size + t % size = t from by rw [Nat.mul_comm]; exact Nat.div_add_mod t size] at h1
    rw [h1]
    have h2 := Go.Sort.get_flatK f size d t ht
    rw [Array.getElem?_toList, Array.getElem?_eq_getElem (by rw [Go.Sort.size_flatK]; exact ht)]
    rw [getElem!_pos _ t (by rw [Go.Sort.size_flatK]; exact ht)] at h2
    rw [h2, getElem!_pos d _ hj, getElem!_pos (f d[t / size]) _ (by rw [hf]; exact hr), List.getElem?_eq_getElem (by rw [hf]; exact hr)]
  · rw [Array.getElem?_toList, Array.getElem?_eq_none (by rw [Go.Sort.size_flatK]; omega), List.getElem?_eq_none (by omega)]

variable {P : Program} {ρ : Ren} {e w : World} {R : List HP} {K : KV} {t : TypeId} {v : Value} {l : List α}
theorem sortF_s (L : Go.Proofs.SlLaysF0.n6 P ρ) (aE : ∀ w, (isAgg (ρ.t 24)).run P w = .ok true w) (zE : ∀ w, (Go.sizeOf (ρ.t 24)).run P w = .ok size w) (hf : ∀ x, (f x).length = size) (hff : ∀ x, ∀ v ∈ f x, v.oneCell' = true)
    (cf : α → α → Int) (hO : Go.Sort.SWO (Go.Proofs.ltOf cf)) {g : FuncId} {cb : Array Value} (hg : hasBody P g = true) (hroot : hasBody P (ρ.f 6) = true)
    (hcmp : ∀ (e W : World) (R : List HP) (K : KV) (x y : α), Sat e W R → (∀ w', Sat e w' R → K (.int .i64 (cf x y)) w') → Cl P g (#[.agg (f x).toArray, .agg (f y).toArray] ++ cb) W K)
    (hlen : l.length < 2305843009213693952) (hS : Sat e w (ownS t size f v l :: R))
    (hk : ∀ l' w', l'.Perm l → (l'.Pairwise fun a b => Go.Proofs.ltOf cf b a = false) → Sat e w' (ownS t size f v l' :: R) → K (.tuple #[]) w') :
    Cl P (ρ.f 6) #[v, .func (.func g) #[] cb] w K := by
  refine Cl.mk hroot ?_
  by_cases h0 : l.length = 0
  · have hl0 : l = [] := List.length_eq_zero_iff.1 h0
    subst hl0
    obtain ⟨A, c, rfl, _⟩ := hS.shape 0 rfl (fun _ hg => own_rd hg)
    refine Calls.mono (Go.Proofs.AnyF.slices_SortFunc_none (P := P) (ρ := ρ) { L with } A c _ w) ?_
    rintro ev w' ⟨rfl, rfl⟩
    exact ⟨_, rfl, hk [] _ (.refl _) List.Pairwise.nil hS⟩
  · obtain ⟨h1, h2, dis, s1, s2, hown, hr⟩ := hS.mem
    rcases hown with ⟨_, hl0⟩ | ⟨b, c, cs, rfl, hb, hcs, hlc, htk⟩
    · rw [hl0] at h0; exact absurd rfl h0
    have hh : w.heap[b]? = some (.cells cs.toArray t (0, 0)) := s1 _ _ hb
    have hlt : b < w.heap.size := (Array.getElem?_eq_some_iff.1 hh).1
    have hsz : l.toArray.size = l.length := by simp
    have hrow : l.length * size ≤ cs.length := by rw [hcs]; exact Nat.mul_le_mul_right _ hlc
    have hH : Go.Sort.HoldsK f size w b 0 l.toArray := by
      intro j hj
      rw [Go.Sort.size_flatK, hsz] at hj
      have hfl : (Go.Sort.flatK f size l.toArray)[j]! = (cs[j]?).getD default := by
        rw [getElem!_pos _ j (by rw [Go.Sort.size_flatK, hsz]; exact hj)]
        have e1 := congrArg (fun l => l[j]?) (flatK_list hf l.toArray)
        simp only [Array.getElem?_toList] at e1
        rw [Array.getElem?_eq_getElem (by rw [Go.Sort.size_flatK, hsz]; exact hj), ← htk, List.getElem?_take, if_pos hj] at e1
        rw [← e1]
        rfl
      rw [hfl]
      constructor
      · simp only [World.cell?, hh, id]
        rw [List.getElem?_eq_getElem (by omega)]
        simp
      · simp [World.frozen?, hh]
    have hcm : Go.Proofs.CmpLays P g cb f size cf b 0 l.toArray.size w := by
      intro m os dk _ x y
      have := Cl.ret hg (hcmp _ _ [Old _] (fun v w' => v = .int .i64 (cf x y) ∧ ∃ q os', w' = Go.Sort.grow ((Go.Proofs.sortWorldK f size w b 0 m dk os).drewN q) os') x y (Sat.start (Go.Proofs.sortWorldK f size w b 0 m dk os)) (fun w' h => ⟨rfl, h.grown⟩))
      refine Calls.mono this ?_
      rintro ev w' ⟨v, rfl, rfl, hq⟩
      exact ⟨rfl, hq⟩
    have hcon := Go.Proofs.AnyQ.slices_SortFunc (P := P) (ρ := ρ) L size aE zE f hf hff cf hO g cb b 0 c l.toArray w (fun args w => run_callFunc hg) hcm hH hlt (by rw [hsz]; omega)
    rw [hsz] at hcon
    refine Calls.mono hcon ?_
    rintro ev w' ⟨rfl, d', n, os, hp, hs, rfl⟩
    refine ⟨_, rfl, ?_⟩
    have hd : d'.size = l.length := hp.1.trans hsz
    have hperm : d'.toList.Perm l := by
      have h3 := hp.2.2
      have e1 : d'.extract 0 l.length = d' := by rw [← hd]; exact Array.extract_size
      have e2 : l.toArray.extract 0 l.length = l.toArray := by rw [← hsz]; exact Array.extract_size
      rw [e1, e2] at h3
      exact h3
    have hlen' : d'.toList.length = l.length := by simpa using hd
    have hk' := hk d'.toList (Go.Proofs.sortWorldK f size w b 0 n d' os) hperm (by
      rw [List.pairwise_iff_getElem]
      intro i j hi hj hij
      have := hs i j (Nat.zero_le _) hij (by simpa [hd] using hj)
      rw [getElem!_pos d' j (by simpa using hj), getElem!_pos d' i (by simpa using hi)] at this
      simpa using this)
    refine hk' ?_
    have hheap : (Go.Proofs.sortWorldK f size w b 0 n d' os).heap = w.heap.modify b (Go.Sort.onCells (Go.Sort.putCells id 0 (Go.Sort.flatK f size d'))) ++ os := rfl
    have hbn : (Go.Proofs.sortWorldK f size w b 0 n d' os).heap[b]? = some (.cells (Go.Sort.putCells id 0 (Go.Sort.flatK f size d') cs.toArray) t (0, 0)) := by
      rw [hheap, Array.getElem?_append_left (by simpa using hlt), Array.getElem?_modify, if_pos rfl, hh]
      rfl
    refine ⟨hS.os, hS.tape, hS.output, Nat.le_trans hS.drawn (Nat.le_add_right _ _), ?_, fun x => if x = b then some (.cells (Go.Sort.putCells id 0 (Go.Sort.flatK f size d') cs.toArray) t (0, 0)) else none, h2, fun x => ?_, fun x o hx => ?_, fun x o hx => ?_, ?_, hr⟩
    · rw [hheap, Array.size_append, Array.size_modify]
      have := hS.size
      omega
    · by_cases hx : x = b
      · subst hx
        rcases dis x with h | h
        · rw [hb] at h; cases h
        · exact .inr h
      · exact .inl (if_neg hx)
    · by_cases hxb : x = b
      · subst hxb
        simp only [if_true] at hx
        rw [← hx]
        exact hbn
      · simp only [hxb, if_false] at hx
        cases hx
    · have hxb : x ≠ b := fun e => by
        subst e
        rcases dis x with h | h
        · rw [hb] at h; cases h
        · rw [h] at hx; cases hx
      have hxw : w.heap[x]? = some o := s2 x o hx
      have hxl := (Array.getElem?_eq_some_iff.1 hxw).1
      show (Go.Proofs.sortWorldK f size w b 0 n d' os).heap[x]? = some o
      rw [hheap, Array.getElem?_append_left (by simpa using hxl), Array.getElem?_modify, if_neg (fun e => hxb e.symm), hxw]
    · refine .inr ⟨b, c, (Go.Sort.putCells id 0 (Go.Sort.flatK f size d') cs.toArray).toList, ?_, ?_, ?_, ?_, ?_⟩
      · rw [hlen']
      · simp
      · simpa [Go.Sort.putCells] using hcs
      · rw [hlen']; exact hlc
      · rw [hlen', ← flatK_list hf d']
        apply List.ext_getElem?
        intro j
        rw [List.getElem?_take]
        by_cases hj : j < l.length * size
        · rw [if_pos hj, Array.getElem?_toList, Array.getElem?_toList]
          have hj2 : j < (Go.Sort.flatK f size d').size := by rw [Go.Sort.size_flatK, hd]; exact hj
          simp only [Go.Sort.putCells, Array.getElem?_mapIdx]
          rw [Array.getElem?_eq_getElem (show j < cs.toArray.size by simpa using (by omega : j < cs.length)), Array.getElem?_eq_getElem hj2]
          simp only [Option.map_some]
          rw [if_pos ⟨Nat.zero_le _, by rw [Nat.zero_add]; exact hj2⟩, Nat.sub_zero, getElem!_pos _ j hj2]
          rfl
        · rw [if_neg hj, Array.getElem?_toList, Array.getElem?_eq_none (by rw [Go.Sort.size_flatK, hd]; omega)]
end
end Go.E
