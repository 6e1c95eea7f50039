/- slices.SortFunc at a named type of slices: its inner sort by the library's contract. Conditions: none. -/
import Derived.Test.YtfcnjbannejchaaEngT
namespace Go.E
open Go
section
variable {size : Nat} {α : Type} [Inhabited α] {f : α → List Value}
variable {P : Program} {ρ : Go.Shelf.Ren} {e w : World} {R : List HP} {K : KV} {t : TypeId} {v : Value} {l : List α}
theorem bitsLen_s (L : Go.Proofs.SlLaysF0.n14 P ρ) (hroot : hasBody P (ρ.f 15) = true) {n : Nat} (hn : n < 9223372036854775808) (hk : K (.int .i64 (Go.Lib.bitLen n : Nat)) w) : Cl P (ρ.f 15) #[.int .u64 (n : Int)] w K := by
  refine Cl.mk hroot ?_
  have h := Go.Proofs.Any.bits_Len (Go.Proofs.SlLaysF0.n15.bits (P := P) (ρ := ρ) { L with }) (n : Int) w (by omega) (by omega)
  rw [Int.toNat_natCast] at h
  refine Calls.mono h ?_
  rintro ev w' ⟨rfl, rfl⟩
  exact ⟨_, rfl, hk⟩
theorem pdqF_s (L : Go.Proofs.SlLaysF0.n14 P ρ) (aE : ∀ w, (isAgg (ρ.t 24)).run P w = .ok true w) (zE : ∀ w, (Go.sizeOf (ρ.t 24)).run P w = .ok size w) (hf : ∀ x, (f x).length = size) (hff : ∀ x, ∀ v ∈ f x, v.oneCell' = true)
    (cf : α → α → Int) (hO : Go.Sort.SWO (Go.Proofs.ltOf cf)) {g : FuncId} {cb : Array Value} (hg : hasBody P g = true) (hroot : hasBody P (ρ.f 14) = true)
    (hcmp : ∀ (e W : World) (R : List HP) (K : KV) (x y : α), Sat e W R → (∀ w', Sat e w' R → K (.int .i64 (cf x y)) w') → Cl P g (#[.agg (f x).toArray, .agg (f y).toArray] ++ cb) W K)
    (hlen : l.length < 2305843009213693952) (hS : Sat e w (ownS t size f v l :: R))
    (hk : ∀ l' w', l'.Perm l → (l'.Pairwise fun a b => Go.Proofs.ltOf cf b a = false) → Sat e w' (ownS t size f v l' :: R) → K (.tuple #[]) w') :
    Cl P (ρ.f 14) #[v, .int .i64 0, .int .i64 (l.length : Int), .int .i64 (Go.Lib.bitLen l.length : Nat), .func (.func g) #[] cb] w K := by
  refine Cl.mk hroot ?_
  by_cases h0 : l.length = 0
  · have hl0 : l = [] := List.length_eq_zero_iff.1 h0
    subst hl0
    obtain ⟨A, c, rfl, _⟩ := hS.shape 0 rfl (fun _ hg => own_rd hg)
    refine Calls.mono (Go.Proofs.AnyF.pdqsortCmpFunc_none (P := P) (ρ := ρ) { L with } A c _ _ w) ?_
    rintro ev w' ⟨rfl, rfl⟩
    exact ⟨_, rfl, hk [] _ (.refl _) List.Pairwise.nil hS⟩
  · obtain ⟨h1, h2, dis, s1, s2, hown, hr⟩ := hS.mem
    rcases hown with ⟨_, hl0⟩ | ⟨b, c, cs, rfl, hb, hcs, hlc, htk⟩
    · rw [hl0] at h0; exact absurd rfl h0
    have hh : w.heap[b]? = some (.cells cs.toArray t (0, 0)) := s1 _ _ hb
    have hlt : b < w.heap.size := (Array.getElem?_eq_some_iff.1 hh).1
    have hsz : l.toArray.size = l.length := by simp
    have hrow : l.length * size ≤ cs.length := by rw [hcs]; exact Nat.mul_le_mul_right _ hlc
    have hH : Go.Sort.HoldsK f size w b 0 l.toArray := by
      intro j hj
      rw [Go.Sort.size_flatK, hsz] at hj
      have hfl : (Go.Sort.flatK f size l.toArray)[j]! = (cs[j]?).getD default := by
        rw [getElem!_pos _ j (by rw [Go.Sort.size_flatK, hsz]; exact hj)]
        have e1 := congrArg (fun l => l[j]?) (flatK_list hf l.toArray)
        simp only [Array.getElem?_toList] at e1
        rw [Array.getElem?_eq_getElem (by rw [Go.Sort.size_flatK, hsz]; exact hj), ← htk, List.getElem?_take, if_pos hj] at e1
        rw [← e1]
        rfl
      rw [hfl]
      constructor
      · simp only [World.cell?, hh, id]
        rw [List.getElem?_eq_getElem (by omega)]
        simp
      · simp [World.frozen?, hh]
    have hcm : Go.Proofs.CmpLays P g cb f size cf b 0 l.toArray.size w := by
      intro m os dk _ x y
      have := Cl.ret hg (hcmp _ _ [Old _] (fun v w' => v = .int .i64 (cf x y) ∧ ∃ q os', w' = Go.Sort.grow ((Go.Proofs.sortWorldK f size w b 0 m dk os).drewN q) os') x y (Sat.start (Go.Proofs.sortWorldK f size w b 0 m dk os)) (fun w' h => ⟨rfl, h.grown⟩))
      refine Calls.mono this ?_
      rintro ev w' ⟨v, rfl, rfl, hq⟩
      exact ⟨rfl, hq⟩
    have hlim : Go.Lib.bitLen l.length < 4611686018427387904 := Nat.lt_of_le_of_lt (Go.Lib.bitLen_le l.length 62 (by omega) (by omega)) (by omega)
    have hcon := Go.Proofs.AnyQ.pdqsortCmpFunc_all (P := P) (ρ := ρ) L size aE zE f cf g cb hO b 0 c l.toArray w (fun args w => run_callFunc hg) hcm ⟨hf, hff, hH, hlt⟩ (l.toArray.size + 1) 0 l.toArray.size (Go.Lib.bitLen l.length) l.toArray w (by omega) rfl (Go.Proofs.SWK.start hH) (Nat.zero_le _) (Nat.le_refl _) (by rw [hsz]; omega) hlim (Or.inl rfl)
    rw [hsz] at hcon
    refine Calls.mono hcon ?_
    rintro ev w' ⟨rfl, n, os, rfl⟩
    obtain ⟨hp, hs⟩ := Go.Sort.pdq_sorts (Go.Proofs.ltOf cf) hO l.toArray 0 l.toArray.size (Go.Lib.bitLen l.length) true true (Nat.zero_le _) (Nat.le_refl _) (Or.inl rfl)
    rw [hsz] at hp hs
    generalize Go.Sort.pdq (Go.Proofs.ltOf cf) l.toArray 0 l.length (Go.Lib.bitLen l.length) true true = d' at hp hs ⊢
    refine ⟨_, rfl, ?_⟩
    have hd : d'.size = l.length := hp.1.trans hsz
    have hperm : d'.toList.Perm l := by
      have h3 := hp.2.2
      have e1 : d'.extract 0 l.length = d' := by rw [← hd]; exact Array.extract_size
      have e2 : l.toArray.extract 0 l.length = l.toArray := by rw [← hsz]; exact Array.extract_size
      rw [e1, e2] at h3
      exact h3
    have hlen' : d'.toList.length = l.length := by simpa using hd
    have hk' := hk d'.toList (Go.Proofs.sortWorldK f size w b 0 n d' os) hperm (by
      rw [List.pairwise_iff_getElem]
      intro i j hi hj hij
      have := hs i j (Nat.zero_le _) hij (by simpa [hd] using hj)
      rw [getElem!_pos d' j (by simpa using hj), getElem!_pos d' i (by simpa using hi)] at this
      simpa using this)
    refine hk' ?_
    have hheap : (Go.Proofs.sortWorldK f size w b 0 n d' os).heap = w.heap.modify b (Go.Sort.onCells (Go.Sort.putCells id 0 (Go.Sort.flatK f size d'))) ++ os := rfl
    have hbn : (Go.Proofs.sortWorldK f size w b 0 n d' os).heap[b]? = some (.cells (Go.Sort.putCells id 0 (Go.Sort.flatK f size d') cs.toArray) t (0, 0)) := by
      rw [hheap, Array.getElem?_append_left (by simpa using hlt), Array.getElem?_modify, if_pos rfl, hh]
      rfl
    refine ⟨hS.os, hS.tape, hS.output, Nat.le_trans hS.drawn (Nat.le_add_right _ _), ?_, fun x => if x = b then some (.cells (Go.Sort.putCells id 0 (Go.Sort.flatK f size d') cs.toArray) t (0, 0)) else none, h2, fun x => ?_, fun x o hx => ?_, fun x o hx => ?_, ?_, hr⟩
    · rw [hheap, Array.size_append, Array.size_modify]
      have := hS.size
      omega
    · by_cases hx : x = b
      · subst hx
        rcases dis x with h | h
        · rw [hb] at h; cases h
        · exact .inr h
      · exact .inl (if_neg hx)
    · by_cases hxb : x = b
      · subst hxb
        simp only [if_true] at hx
        rw [← hx]
        exact hbn
      · simp only [hxb, if_false] at hx
        cases hx
    · have hxb : x ≠ b := fun e => by
        subst e
        rcases dis x with h | h
        · rw [hb] at h; cases h
        · rw [h] at hx; cases hx
      have hxw : w.heap[x]? = some o := s2 x o hx
      have hxl := (Array.getElem?_eq_some_iff.1 hxw).1
      show (Go.Proofs.sortWorldK f size w b 0 n d' os).heap[x]? = some o
      rw [hheap, Array.getElem?_append_left (by simpa using hxl), Array.getElem?_modify, if_neg (fun e => hxb e.symm), hxw]
    · refine .inr ⟨b, c, (Go.Sort.putCells id 0 (Go.Sort.flatK f size d') cs.toArray).toList, ?_, ?_, ?_, ?_, ?_⟩
      · rw [hlen']
      · simp
      · simpa [Go.Sort.putCells] using hcs
      · rw [hlen']; exact hlc
      · rw [hlen', ← flatK_list hf d']
        apply List.ext_getElem?
        intro j
        rw [List.getElem?_take]
        by_cases hj : j < l.length * size
        · rw [if_pos hj, Array.getElem?_toList, Array.getElem?_toList]
          have hj2 : j < (Go.Sort.flatK f size d').size := by rw [Go.Sort.size_flatK, hd]; exact hj
          simp only [Go.Sort.putCells, Array.getElem?_mapIdx]
          rw [Array.getElem?_eq_getElem (show j < cs.toArray.size by simpa using (by omega : j < cs.length)), Array.getElem?_eq_getElem hj2]
          simp only [Option.map_some]
          rw [if_pos ⟨Nat.zero_le _, by rw [Nat.zero_add]; exact hj2⟩, Nat.sub_zero, getElem!_pos _ j hj2]
          rfl
        · rw [if_neg hj, Array.getElem?_toList, Array.getElem?_eq_none (by rw [Go.Sort.size_flatK, hd]; omega)]
end
end Go.E
