/- Texts of the proof, joined: EngT, SortLay, PrioL, PrioZ, CmbA, WarpP, WarpQ, WarpG, WarpA, WarpB, WarpC, WarpD, WarpE, WarpF, WarpH. Conditions: none. -/
import Derived.Test.YtbopajpmadlmhaaGreatR6
import Derived.Shelf.SlSortCmp.NoneTotal
section
namespace Go.E
open Go.RowKit Go.Shelf

theorem Sat.grown {W w : World} (h : Sat W w [Old W]) : ∃ q os, w = Go.Sort.grow (W.drewN q) os := by
  refine ⟨w.drawn - W.drawn, w.heap.extract W.heap.size w.heap.size, ?_⟩
  obtain ⟨h1, h2, d, s1, s2, ho, _⟩ := h.mem
  have hsz := h.size
  have hdr := h.drawn
  have hheap : w.heap = W.heap ++ w.heap.extract W.heap.size w.heap.size := by
    apply Array.ext_getElem?
    intro i
    by_cases hi : i < W.heap.size
    · rw [Array.getElem?_append_left hi, Array.getElem?_eq_getElem hi]
      have h3 : h1 i = W.heap[i]? := ho i hi
      rw [Array.getElem?_eq_getElem hi] at h3
      exact s1 i _ h3
    · rw [Array.getElem?_append_right (by omega), Array.getElem?_extract]
      by_cases hi2 : i < w.heap.size
      · rw [if_pos (by omega)]
        congr 1
        omega
      · rw [if_neg (by omega), Array.getElem?_eq_none (by omega)]
  have e1 := h.os
  have e2 := h.tape
  have e3 := h.output
  cases w with
  | mk heap tape drawn os output =>
    cases W with
    | mk heap' tape' drawn' os' output' =>
      simp only [Go.Sort.grow, World.drewN] at *
      subst e1 e2 e3
      rw [← hheap]
      congr 1
      omega

section
variable {α : Type} {size : Nat} {f : α → List Value}
theorem flatMap_get' (hf : ∀ x, (f x).length = size) : ∀ (l : List α) (j r : Nat) (x : α), r < size → l[j]? = some x → (l.flatMap f)[j * size + r]? = (f x)[r]?
  | [], j, r, x, _, h => by simp at h
  | y :: l, 0, r, x, hr, h => by
    simp at h
    subst h
    rw [List.flatMap_cons, Nat.zero_mul, Nat.zero_add, List.getElem?_append_left (by rw [hf]; exact hr)]
  | y :: l, j + 1, r, x, hr, h => by
    simp only [List.getElem?_cons_succ] at h
    rw [List.flatMap_cons, List.getElem?_append_right (by rw [hf, Nat.add_mul]; omega), hf, show (j + 1) * size + r - size = j * size + r by rw [Nat.add_mul]; omega]
    exact flatMap_get' hf l j r x hr h
variable [Inhabited α]
theorem flatK_list (hf : ∀ x, (f x).length = size) (d : Array α) : (Go.Sort.flatK f size d).toList = d.toList.flatMap f := by
  apply List.ext_getElem?
  intro t
  have hlen : (d.toList.flatMap f).length = d.size * size := by rw [flatMap_length hf]; simp
  by_cases ht : t < d.size * size
  · have h0 : 0 < size := by
      rcases Nat.eq_zero_or_pos size with h | h
      · subst h; simp at ht
      · exact h
    have hj : t / size < d.size := by rw [Nat.div_lt_iff_lt_mul h0]; exact ht
    have hr := Nat.mod_lt t h0
    have h1 := flatMap_get' hf d.toList (t / size) (t % size) d[t / size] hr (by rw [List.getElem?_eq_getElem (by simpa using hj)]; simp)
    rw [show t / size * size + t % size = t from by rw [Nat.mul_comm]; exact Nat.div_add_mod t size] at h1
    rw [h1]
    have h2 := Go.Sort.get_flatK f size d t ht
    rw [Array.getElem?_toList, Array.getElem?_eq_getElem (by rw [Go.Sort.size_flatK]; exact ht)]
    rw [getElem!_pos _ t (by rw [Go.Sort.size_flatK]; exact ht)] at h2
    rw [h2, getElem!_pos d _ hj, getElem!_pos (f d[t / size]) _ (by rw [hf]; exact hr), List.getElem?_eq_getElem (by rw [hf]; exact hr)]
  · rw [Array.getElem?_toList, Array.getElem?_eq_none (by rw [Go.Sort.size_flatK]; omega), List.getElem?_eq_none (by omega)]

variable {P : Program} {ρ : Ren} {e w : World} {R : List HP} {K : KV} {t : TypeId} {v : Value} {l : List α}
theorem sortF_s (L : Go.Proofs.SlLaysF0.n6 P ρ) (aE : ∀ w, (isAgg (ρ.t 24)).run P w = .ok true w) (zE : ∀ w, (Go.sizeOf (ρ.t 24)).run P w = .ok size w) (hf : ∀ x, (f x).length = size) (hff : ∀ x, ∀ v ∈ f x, v.oneCell' = true)
    (cf : α → α → Int) (hO : Go.Sort.SWO (Go.Proofs.ltOf cf)) {g : FuncId} {cb : Array Value} (hg : hasBody P g = true) (hroot : hasBody P (ρ.f 6) = true)
    (hcmp : ∀ (e W : World) (R : List HP) (K : KV) (x y : α), Sat e W R → (∀ w', Sat e w' R → K (.int .i64 (cf x y)) w') → Cl P g (#[.agg (f x).toArray, .agg (f y).toArray] ++ cb) W K)
    (hlen : l.length < 2305843009213693952) (hS : Sat e w (ownS t size f v l :: R))
    (hk : ∀ l' w', l'.Perm l → (l'.Pairwise fun a b => Go.Proofs.ltOf cf b a = false) → Sat e w' (ownS t size f v l' :: R) → K (.tuple #[]) w') :
    Cl P (ρ.f 6) #[v, .func (.func g) #[] cb] w K := by
  refine Cl.mk hroot ?_
  by_cases h0 : l.length = 0
  · have hl0 : l = [] := List.length_eq_zero_iff.1 h0
    subst hl0
    obtain ⟨A, c, rfl, _⟩ := hS.shape 0 rfl (fun _ hg => own_rd hg)
    refine Calls.mono (Go.Proofs.AnyF.slices_SortFunc_none (P := P) (ρ := ρ) { L with } A c _ w) ?_
    rintro ev w' ⟨rfl, rfl⟩
    exact ⟨_, rfl, hk [] _ (.refl _) List.Pairwise.nil hS⟩
  · obtain ⟨h1, h2, dis, s1, s2, hown, hr⟩ := hS.mem
    rcases hown with ⟨_, hl0⟩ | ⟨b, c, cs, rfl, hb, hcs, hlc, htk⟩
    · rw [hl0] at h0; exact absurd rfl h0
    have hh : w.heap[b]? = some (.cells cs.toArray t (0, 0)) := s1 _ _ hb
    have hlt : b < w.heap.size := (Array.getElem?_eq_some_iff.1 hh).1
    have hsz : l.toArray.size = l.length := by simp
    have hrow : l.length * size ≤ cs.length := by rw [hcs]; exact Nat.mul_le_mul_right _ hlc
    have hH : Go.Sort.HoldsK f size w b 0 l.toArray := by
      intro j hj
      rw [Go.Sort.size_flatK, hsz] at hj
      have hfl : (Go.Sort.flatK f size l.toArray)[j]! = (cs[j]?).getD default := by
        rw [getElem!_pos _ j (by rw [Go.Sort.size_flatK, hsz]; exact hj)]
        have e1 := congrArg (fun l => l[j]?) (flatK_list hf l.toArray)
        simp only [Array.getElem?_toList] at e1
        rw [Array.getElem?_eq_getElem (by rw [Go.Sort.size_flatK, hsz]; exact hj), ← htk, List.getElem?_take, if_pos hj] at e1
        rw [← e1]
        rfl
      rw [hfl]
      constructor
      · simp only [World.cell?, hh, id]
        rw [List.getElem?_eq_getElem (by omega)]
        simp
      · simp [World.frozen?, hh]
    have hcm : Go.Proofs.CmpLays P g cb f size cf b 0 l.toArray.size w := by
      intro m os dk _ x y
      have := Cl.ret hg (hcmp _ _ [Old _] (fun v w' => v = .int .i64 (cf x y) ∧ ∃ q os', w' = Go.Sort.grow ((Go.Proofs.sortWorldK f size w b 0 m dk os).drewN q) os') x y (Sat.start (Go.Proofs.sortWorldK f size w b 0 m dk os)) (fun w' h => ⟨rfl, h.grown⟩))
      refine Calls.mono this ?_
      rintro ev w' ⟨v, rfl, rfl, hq⟩
      exact ⟨rfl, hq⟩
    have hcon := Go.Proofs.AnyQ.slices_SortFunc (P := P) (ρ := ρ) L size aE zE f hf hff cf hO g cb b 0 c l.toArray w (fun args w => run_callFunc hg) hcm hH hlt (by rw [hsz]; omega)
    rw [hsz] at hcon
    refine Calls.mono hcon ?_
    rintro ev w' ⟨rfl, d', n, os, hp, hs, rfl⟩
    refine ⟨_, rfl, ?_⟩
    have hd : d'.size = l.length := hp.1.trans hsz
    have hperm : d'.toList.Perm l := by
      have h3 := hp.2.2
      have e1 : d'.extract 0 l.length = d' := by rw [← hd]; exact Array.extract_size
      have e2 : l.toArray.extract 0 l.length = l.toArray := by rw [← hsz]; exact Array.extract_size
      rw [e1, e2] at h3
      exact h3
    have hlen' : d'.toList.length = l.length := by simpa using hd
    have hk' := hk d'.toList (Go.Proofs.sortWorldK f size w b 0 n d' os) hperm (by
      rw [List.pairwise_iff_getElem]
      intro i j hi hj hij
      have := hs i j (Nat.zero_le _) hij (by simpa [hd] using hj)
      rw [getElem!_pos d' j (by simpa using hj), getElem!_pos d' i (by simpa using hi)] at this
      simpa using this)
    refine hk' ?_
    have hheap : (Go.Proofs.sortWorldK f size w b 0 n d' os).heap = w.heap.modify b (Go.Sort.onCells (Go.Sort.putCells id 0 (Go.Sort.flatK f size d'))) ++ os := rfl
    have hbn : (Go.Proofs.sortWorldK f size w b 0 n d' os).heap[b]? = some (.cells (Go.Sort.putCells id 0 (Go.Sort.flatK f size d') cs.toArray) t (0, 0)) := by
      rw [hheap, Array.getElem?_append_left (by simpa using hlt), Array.getElem?_modify, if_pos rfl, hh]
      rfl
    refine ⟨hS.os, hS.tape, hS.output, Nat.le_trans hS.drawn (Nat.le_add_right _ _), ?_, fun x => if x = b then some (.cells (Go.Sort.putCells id 0 (Go.Sort.flatK f size d') cs.toArray) t (0, 0)) else none, h2, fun x => ?_, fun x o hx => ?_, fun x o hx => ?_, ?_, hr⟩
    · rw [hheap, Array.size_append, Array.size_modify]
      have := hS.size
      omega
    · by_cases hx : x = b
      · subst hx
        rcases dis x with h | h
        · rw [hb] at h; cases h
        · exact .inr h
      · exact .inl (if_neg hx)
    · by_cases hxb : x = b
      · subst hxb
        simp only [if_true] at hx
        rw [← hx]
        exact hbn
      · simp only [hxb, if_false] at hx
        cases hx
    · have hxb : x ≠ b := fun e => by
        subst e
        rcases dis x with h | h
        · rw [hb] at h; cases h
        · rw [h] at hx; cases hx
      have hxw : w.heap[x]? = some o := s2 x o hx
      have hxl := (Array.getElem?_eq_some_iff.1 hxw).1
      show (Go.Proofs.sortWorldK f size w b 0 n d' os).heap[x]? = some o
      rw [hheap, Array.getElem?_append_left (by simpa using hxl), Array.getElem?_modify, if_neg (fun e => hxb e.symm), hxw]
    · refine .inr ⟨b, c, (Go.Sort.putCells id 0 (Go.Sort.flatK f size d') cs.toArray).toList, ?_, ?_, ?_, ?_, ?_⟩
      · rw [hlen']
      · simp
      · simpa [Go.Sort.putCells] using hcs
      · rw [hlen']; exact hlc
      · rw [hlen', ← flatK_list hf d']
        apply List.ext_getElem?
        intro j
        rw [List.getElem?_take]
        by_cases hj : j < l.length * size
        · rw [if_pos hj, Array.getElem?_toList, Array.getElem?_toList]
          have hj2 : j < (Go.Sort.flatK f size d').size := by rw [Go.Sort.size_flatK, hd]; exact hj
          simp only [Go.Sort.putCells, Array.getElem?_mapIdx]
          rw [Array.getElem?_eq_getElem (show j < cs.toArray.size by simpa using (by omega : j < cs.length)), Array.getElem?_eq_getElem hj2]
          simp only [Option.map_some]
          rw [if_pos ⟨Nat.zero_le _, by rw [Nat.zero_add]; exact hj2⟩, Nat.sub_zero, getElem!_pos _ j hj2]
          rfl
        · rw [if_neg hj, Array.getElem?_toList, Array.getElem?_eq_none (by rw [Go.Sort.size_flatK, hd]; omega)]
end
end Go.E
end
section
namespace Go.Proofs
open Go.Shelf Go.RowKit Go.Lib Go.Sort
def Tryz.sortMsg_ren : Go.Shelf.Ren := ⟨fun | 6 => 115 | 15 => 160 | 14 => 159 | 28 => 186 | 29 => 187 | 20 => 178 | 21 => 179 | 22 => 180 | 23 => 181 | 24 => 182 | 25 => 183 | 26 => 184 | 27 => 185 | 46 => 193 | 47 => 194 | 48 => 195 | 49 => 196 | 50 => 197 | 57 => 200 | n => n, fun | 22 => 33 | 24 => 37 | 25 => 180 | 3 => 3 | 39 => 161 | 0 => 0 | 53 => 263 | 55 => 265 | 4 => 4 | 46 => 257 | 45 => 256 | 50 => 104 | 5 => 5 | 9 => 9 | 66 => 268 | 70 => 272 | 76 => 274 | 77 => 275 | n => n, fun | n => n⟩
theorem Tryz.sortMsg : Go.Proofs.SlLaysF0.n6 Tryz.prog Tryz.sortMsg_ren where
  mixed := by kernel_rfl
  f6 := ⟨Tryz.f115.name, by decide, Tryz.func115.trans (congrArg some (by kernel_rfl))⟩
  f14 := ⟨Tryz.f159.name, by decide, Tryz.func159.trans (congrArg some (by kernel_rfl))⟩
  f15 := Tryz.func160.trans (congrArg some (by kernel_rfl))
  f20 := ⟨Tryz.f178.name, by decide, Tryz.func178.trans (congrArg some (by kernel_rfl))⟩
  f21 := ⟨Tryz.f179.name, by decide, Tryz.func179.trans (congrArg some (by kernel_rfl))⟩
  f22 := ⟨Tryz.f180.name, by decide, Tryz.func180.trans (congrArg some (by kernel_rfl))⟩
  f23 := ⟨Tryz.f181.name, by decide, Tryz.func181.trans (congrArg some (by kernel_rfl))⟩
  f24 := ⟨Tryz.f182.name, by decide, Tryz.func182.trans (congrArg some (by kernel_rfl))⟩
  f25 := ⟨Tryz.f183.name, by decide, Tryz.func183.trans (congrArg some (by kernel_rfl))⟩
  f26 := ⟨Tryz.f184.name, by decide, Tryz.func184.trans (congrArg some (by kernel_rfl))⟩
  f27 := ⟨Tryz.f185.name, by decide, Tryz.func185.trans (congrArg some (by kernel_rfl))⟩
  f28 := Tryz.func186.trans (congrArg some (by kernel_rfl))
  f29 := Tryz.func187.trans (congrArg some (by kernel_rfl))
  f46 := ⟨Tryz.f193.name, by decide, Tryz.func193.trans (congrArg some (by kernel_rfl))⟩
  f47 := Tryz.func194.trans (congrArg some (by kernel_rfl))
  f48 := Tryz.func195.trans (congrArg some (by kernel_rfl))
  f49 := ⟨Tryz.f196.name, by decide, Tryz.func196.trans (congrArg some (by kernel_rfl))⟩
  f50 := ⟨Tryz.f197.name, by decide, Tryz.func197.trans (congrArg some (by kernel_rfl))⟩
  f57 := ⟨Tryz.f200.name, by decide, Tryz.func200.trans (congrArg some (by kernel_rfl))⟩
  t0 := Tryz.underlying0
  a0 := Tryz.isAgg0
  z0 := Tryz.sizeOf0
  v0 := Tryz.zeroValue0
  t3 := Tryz.underlying3
  a3 := Tryz.isAgg3
  z3 := Tryz.sizeOf3
  v3 := Tryz.zeroValue3
  t4 := Tryz.underlying4
  a4 := Tryz.isAgg4
  z4 := Tryz.sizeOf4
  v4 := Tryz.zeroValue4
  t5 := Tryz.underlying5
  a5 := Tryz.isAgg5
  z5 := Tryz.sizeOf5
  v5 := Tryz.zeroValue5
  t9 := Tryz.underlying9
  a9 := Tryz.isAgg9
  z9 := Tryz.sizeOf9
  v9 := Tryz.zeroValue9
  t22 := Tryz.underlying33
  a22 := Tryz.isAgg33
  z22 := Tryz.sizeOf33
  v22 := Tryz.zeroValue33
  t25 := Tryz.underlying180
  a25 := Tryz.isAgg180
  z25 := Tryz.sizeOf180
  v25 := Tryz.zeroValue180
  t39 := Tryz.underlying161
  a39 := Tryz.isAgg161
  z39 := Tryz.sizeOf161
  v39 := Tryz.zeroValue161
  t45 := Tryz.underlying256
  a45 := Tryz.isAgg256
  z45 := Tryz.sizeOf256
  v45 := Tryz.zeroValue256
  t46 := Tryz.underlying257
  a46 := Tryz.isAgg257
  z46 := Tryz.sizeOf257
  v46 := Tryz.zeroValue257
  t50 := Tryz.underlying104
  a50 := Tryz.isAgg104
  z50 := Tryz.sizeOf104
  v50 := Tryz.zeroValue104
  t53 := Tryz.underlying263
  a53 := Tryz.isAgg263
  z53 := Tryz.sizeOf263
  v53 := Tryz.zeroValue263
  t55 := Tryz.underlying265
  a55 := Tryz.isAgg265
  z55 := Tryz.sizeOf265
  v55 := Tryz.zeroValue265
  t66 := Tryz.underlying268
  a66 := Tryz.isAgg268
  z66 := Tryz.sizeOf268
  v66 := Tryz.zeroValue268
  t70 := Tryz.underlying272
  a70 := Tryz.isAgg272
  z70 := Tryz.sizeOf272
  v70 := Tryz.zeroValue272
  t76 := Tryz.underlying274
  a76 := Tryz.isAgg274
  z76 := Tryz.sizeOf274
  v76 := Tryz.zeroValue274
  t77 := Tryz.underlying275
  a77 := Tryz.isAgg275
  z77 := Tryz.sizeOf275
  v77 := Tryz.zeroValue275
end Go.Proofs
end
section
namespace Go.Proofs.YtbopajpmadlmhaaGreat
open Go Go.E
set_option maxRecDepth 100000
variable {e w : World} {R : List HP} {K : KV}

instance : Inhabited Msg := ⟨Msg.zero⟩
def cfM (x y : Msg) : Int := cmpK x.key y.key
theorem ltM {x y : Msg} : Go.Proofs.ltOf cfM x y = true ↔ KeyLt x.key y.key := by
  unfold Go.Proofs.ltOf cfM
  rw [decide_eq_true_eq]
  exact cmpK_lt
theorem ltM_no {x y : Msg} : Go.Proofs.ltOf cfM x y = false ↔ ¬ KeyLt x.key y.key := by
  rw [← ltM]
  cases Go.Proofs.ltOf cfM x y <;> simp
theorem swoM : Go.Sort.SWO (Go.Proofs.ltOf cfM) where
  irrefl _ := ltM_no.2 (KeyLt.irrefl _)
  trans _ _ _ h1 h2 := ltM.2 ((ltM.1 h1).trans (ltM.1 h2))
  ntrans _ _ _ h1 h2 := ltM_no.2 (keyLE_trans (ltM_no.1 h1) (ltM_no.1 h2))
def Upk (l : List Msg) : Prop := l.Pairwise fun a b => KeyLt a.key b.key
theorem up_of {l : List Msg} (hn : (l.map Msg.key).Nodup) (h : l.Pairwise fun a b => Go.Proofs.ltOf cfM b a = false) : Upk l := by
  rw [List.nodup_iff_pairwise_ne, List.pairwise_map] at hn
  have := List.pairwise_and_iff.2 ⟨hn, h⟩
  refine this.imp fun {a b} ⟨h1, h2⟩ => ?_
  rcases KeyLt.tri a.key b.key with h3 | h3 | h3
  · exact h3
  · exact absurd h3 h1
  · exact absurd h3 (ltM_no.1 h2)
theorem up_unique {a b : List Msg} (ha : Upk a) (hb : Upk b) (hp : a.Perm b) : a = b :=
  List.Perm.eq_of_pairwise (le := fun x y : Msg => KeyLt x.key y.key) (fun _ _ _ _ h k => absurd k h.asymm) ha hb hp
theorem nodup_of_at {m : List (Key × Nat)} {l : List Msg} (h : AtOk m l) : (l.map Msg.key).Nodup := by
  rw [List.nodup_iff_pairwise_ne, List.pairwise_map, List.pairwise_iff_getElem]
  intro i j hi hj hij he
  have := h.inj (List.getElem?_eq_getElem hi) (List.getElem?_eq_getElem hj) he
  omega
theorem eqNil_s {A : Option Addr} {n c : Nat} {xo yo : Operand} (hk : K (.bool A.isNone) w) : bO prog .eql 33 xo yo (.slice A n c) (.slice none 0 0) w K := by
  cases A with
  | none => exact ex_oV (w' := w) (v := .bool true) (by kernel_rfl) hk
  | some a => exact ex_oV (w' := w) (v := .bool false) (by kernel_rfl) hk
theorem clone_s {v : Value} {l : List Msg} {S : HP} (hl : l.length ≤ 1000000) (hS : Sat e w (S :: R)) (hr : ∀ g, S g → rdS 6 Msg.cs v l g)
    (hk : ∀ v' w', Sat e w' (ownS 37 6 Msg.cs v' l :: S :: R) → K v' w') : Cl prog 114 #[v] w K := by
  refine slices_Clone_api_Msg_api_Msg_calls ?_
  unfold slices_Clone_api_Msg_api_Msg
  obtain ⟨A, c, rfl, _⟩ := hS.shape 0 rfl hr
  refine eqNil_s ?_
  cases A with
  | none =>
    have hl0 : l = [] := by
      obtain ⟨g, hg, _⟩ := hS.get 0 rfl
      obtain ⟨A', c', h1, h2, h3⟩ := hr g hg
      injection h1 with e1 e2 e3
      by_cases h0 : 0 < l.length
      · obtain ⟨a, ha, _⟩ := h3 h0
        rw [← e1] at ha
        cases ha
      · exact List.length_eq_zero_iff.1 (by omega)
    subst hl0
    exact iff_t (hk _ _ (hS.own_nil 37 6 Msg.cs))
  | some a =>
    refine iff_f ?_
    refine bsl0 hS Msg.cs fun v1 w2 h2 => ?_
    refine apS_own te_33 und_33 (f := Msg.cs) (fun _ => rfl) (fun _ => ints_flat _) h2 hr (by simp; omega) fun v2 w3 h3 => ?_
    rw [List.nil_append] at h3
    exact hk _ _ h3

theorem oneCell_ints (ns : List Int) : ∀ v ∈ ints ns, v.oneCell' = true := by
  intro v hv
  simp only [ints, List.mem_map] at hv
  obtain ⟨n, _, rfl⟩ := hv
  rfl
theorem list1_s {e W : World} {R : List HP} {K : KV} (x y : Msg) (hS : Sat e W R) (hk : ∀ w', Sat e w' R → K (.int .i64 (cfM x y)) w') : Cl prog 116 (#[.agg x.cs.toArray, .agg y.cs.toArray] ++ #[]) W K := by
  refine prio_Queue_List_1_calls (t0 := .agg x.cs.toArray) (t1 := .agg y.cs.toArray) ?_
  unfold prio_Queue_List_1
  refine al_s (cs := x.cs) hS rfl fun b2 w1 h1 => ?_
  refine al_s (cs := y.cs) h1 rfl fun b3 w2 h2 => ?_
  refine fld_at (ldN_at h2 1 (vs := x.key.cs) rfl (by rfl) rfl ?_)
  refine fld_at (ldN_at h2 0 (vs := y.key.cs) rfl (by rfl) rfl ?_)
  exact vtime_Cmp_s h2 fun w3 h3 => hk _ h3.drop.drop
theorem sortM_s {v : Value} {l : List Msg} (hl : l.length ≤ 1000000) (hS : Sat e w (ownS 37 6 Msg.cs v l :: R))
    (hk : ∀ l' w', l'.Perm l → (l'.Pairwise fun a b => Go.Proofs.ltOf cfM b a = false) → Sat e w' (ownS 37 6 Msg.cs v l' :: R) → K (.tuple #[]) w') :
    Cl prog 115 #[v, .func (.func 116) #[] #[]] w K :=
  sortF_s (P := prog) (size := 6) (f := Msg.cs) Tryz.sortMsg (fun w => Tryz.isAgg37 w) (fun w => Tryz.sizeOf37 w) (fun _ => rfl) (fun _ => oneCell_ints _) cfM swoM (by kernel_rfl) (by kernel_rfl) (fun _ _ _ _ x y h hk => list1_s x y h hk) (by omega) hS hk
theorem prio_List_s {q : Nat} {room : Int} {l : List Msg} (hl : l.length ≤ 1000000) (hS : Sat e w (IsPrio q room l :: R))
    (hk : ∀ v l' w', l'.Perm l → Upk l' → Sat e w' (ownS 37 6 Msg.cs v l' :: IsPrio q room l :: R) → K v w') : Cl prog 60 #[.pointer (some ⟨q, 0, none⟩)] w K := by
  refine prio_Queue_List_calls ?_
  unfold prio_Queue_List
  obtain ⟨v, b, m, ha, h1⟩ := prio_of hS
  refine ncP_p (fld_at (ld1_at h1 0 rfl (v := v) rfl ?_))
  refine clone_s hl (h1.pick 1 rfl) (fun g hg => own_rd hg) fun v2 w2 h2 => ?_
  refine sortM_s hl h2 fun l' w3 hp hs h3 => ?_
  have hnd := (hp.map Msg.key).nodup_iff.2 (nodup_of_at ha)
  exact hk _ l' _ hp (up_of hnd hs) (Sat.swap (prio_mk ha (h3.selR [_, _, _, _] [_, _, _, _] [2, 1, 3, 0] (by decide) rfl)))

end Go.Proofs.YtbopajpmadlmhaaGreat
end
section
namespace Go.Proofs.YtbopajpmadlmhaaGreat
open Go Go.E
set_option maxRecDepth 100000
variable {e w : World} {R : List HP} {K : KV}

theorem pushE_in' {room : Int} {l : List Msg} {x : Msg} (h : ∃ y ∈ l, y.key = x.key) : pushE room l x = 3 := by
  obtain ⟨y, hy, hk⟩ := h
  exact if_pos (List.any_eq_true.2 ⟨y, hy, by simpa using hk⟩)
theorem pushE_out {room : Int} {l : List Msg} {x : Msg} (h : ∀ y ∈ l, y.key ≠ x.key) : pushE room l x = if room ≤ l.length then 2 else 0 := by
  unfold pushE
  rw [if_neg]
  intro ha
  obtain ⟨y, hy, hk⟩ := List.any_eq_true.1 ha
  exact h y hy (by simpa using hk)
theorem heap_first {l l' : List Msg} {x : Msg} (hh : Heapy l l.length) (hx : l[0]? = some x) (hp : l'.Perm l) (hu : Upk l') : l'[0]? = some x ∧ ∀ y ∈ l', ¬ KeyLt y.key x.key := by
  have hmin : ∀ y ∈ l', ¬ KeyLt y.key x.key := fun y hy => by
    obtain ⟨i, hi⟩ := List.mem_iff_getElem?.1 (hp.mem_iff.1 hy)
    exact hh.min (Nat.le_refl _) hx i y (List.getElem?_eq_some_iff.1 hi).1 hi
  refine ⟨?_, hmin⟩
  have hxl : x ∈ l' := hp.mem_iff.2 (List.mem_of_getElem? hx)
  cases l' with
  | nil => cases hxl
  | cons y l' =>
    rcases List.mem_cons.1 hxl with rfl | h
    · rfl
    · exact absurd ((List.pairwise_cons.1 hu).1 x h) (hmin y List.mem_cons_self)

end Go.Proofs.YtbopajpmadlmhaaGreat
namespace Go.Proofs.YtbopajpmadlmhaaGreat
open Go Go.E
set_option maxRecDepth 100000
variable {e w : World} {R : List HP} {K : KV}

theorem without_self {l : List Msg} {x : Msg} (hn : ((l ++ [x]).map Msg.key).Nodup) : without (l ++ [x]) x.key = l := by
  unfold without
  rw [List.map_append, List.nodup_append] at hn
  rw [List.filter_append, List.filter_eq_self.2 (fun y hy => by
    have := hn.2.2 y.key (List.mem_map.2 ⟨y, hy, rfl⟩) x.key (by simp)
    simpa using this)]
  simp
theorem without_perm {a l : List Msg} {x : Msg} {b : List Msg} (hb : (b.map Msg.key).Nodup) (hp : (l ++ [x]).Perm b) (ha : a.Perm b) : (without a x.key).Perm l := by
  have hn : ((l ++ [x]).map Msg.key).Nodup := (hp.map Msg.key).nodup_iff.2 hb
  have h1 : (without a x.key).Perm (without (l ++ [x]) x.key) := (ha.trans hp.symm).filter _
  rwa [without_self hn] at h1
theorem without_up {l : List Msg} (h : Upk l) (k : Key) : Upk (without l k) := h.sublist List.filter_sublist

end Go.Proofs.YtbopajpmadlmhaaGreat
namespace Go.Proofs.YtbopajpmadlmhaaGreat
open Go Go.E
set_option maxRecDepth 100000
variable {e w : World} {R : List HP} {K : KV}

def insK (m : Msg) : List Msg → List Msg
  | [] => [m]
  | a :: l => if cmpK m.key a.key < 0 then m :: a :: l else a :: insK m l
theorem insK_perm (m : Msg) : ∀ l, (insK m l).Perm (m :: l)
  | [] => .refl _
  | a :: l => by
    unfold insK
    split
    · exact .refl _
    · exact ((insK_perm m l).cons a).trans (.swap m a l)
theorem insK_up {m : Msg} : ∀ {l : List Msg}, Upk l → (∀ y ∈ l, y.key ≠ m.key) → Upk (insK m l)
  | [], _, _ => List.pairwise_singleton _ _
  | a :: l, h, hn => by
    obtain ⟨h1, h2⟩ := List.pairwise_cons.1 h
    unfold insK
    split
    · rename_i hc
      have hlt := cmpK_lt.1 hc
      refine List.pairwise_cons.2 ⟨fun y hy => ?_, h⟩
      rcases List.mem_cons.1 hy with rfl | hy
      · exact hlt
      · exact hlt.trans (h1 y hy)
    · rename_i hc
      refine List.pairwise_cons.2 ⟨fun y hy => ?_, insK_up h2 fun y hy => hn y (by simp [hy])⟩
      rcases List.mem_cons.1 ((insK_perm m l).mem_iff.1 hy) with rfl | hy
      · rcases KeyLt.tri a.key y.key with h3 | h3 | h3
        · exact h3
        · exact absurd h3 (hn a (by simp))
        · exact absurd (cmpK_lt.2 h3) hc
      · exact h1 y hy
def hdM (l : List Msg) : Msg := l.headD Msg.zero
def hasM (l : List Msg) : Bool := !l.isEmpty
def pushQ (l : List Msg) (x : Msg) : List Msg := if pushE 64 l x = 0 then insK x l else l
structure QOk (l : List Msg) : Prop where
  up : Upk l
  len : l.length ≤ 64
theorem Upk.nodup {l : List Msg} (h : Upk l) : (l.map Msg.key).Nodup := by
  rw [List.nodup_iff_pairwise_ne, List.pairwise_map]
  refine List.Pairwise.imp ?_ (show l.Pairwise fun a b => KeyLt a.key b.key from h)
  intro a b hlt he
  rw [he] at hlt
  exact KeyLt.irrefl _ hlt
theorem Upk.tail {l : List Msg} (h : Upk l) : Upk l.tail := h.sublist (List.tail_sublist l)
theorem without_hd {x : Msg} {l : List Msg} (h : Upk (x :: l)) : without (x :: l) x.key = l := by
  obtain ⟨h1, _⟩ := List.pairwise_cons.1 h
  unfold without
  rw [List.filter_cons_of_neg (by simp), List.filter_eq_self.2]
  intro y hy
  have := h1 y hy
  simp only [Bool.not_eq_true', decide_eq_false_iff_not]
  intro he
  rw [he] at this
  exact KeyLt.irrefl _ this
theorem QOk.nil : QOk [] := ⟨.nil, by simp⟩
theorem QOk.tail {l : List Msg} (h : QOk l) : QOk l.tail := ⟨h.up.tail, by have := h.len; rw [List.length_tail]; omega⟩
theorem QOk.without {l : List Msg} (h : QOk l) (k : Key) : QOk (without l k) := by
  have hs : (Proofs.YtbopajpmadlmhaaGreat.without l k).Sublist l := List.filter_sublist
  have := hs.length_le
  have := h.len
  exact ⟨without_up h.up k, by omega⟩
theorem pushE_perm {l l' : List Msg} {x : Msg} (hp : l.Perm l') : pushE 64 l x = pushE 64 l' x := by
  by_cases hin : ∃ y ∈ l, y.key = x.key
  · rw [pushE_in' hin, pushE_in' (by obtain ⟨y, hy, hk⟩ := hin; exact ⟨y, hp.mem_iff.1 hy, hk⟩)]
  · have hne : ∀ y ∈ l, y.key ≠ x.key := fun y hy hk => hin ⟨y, hy, hk⟩
    rw [pushE_out hne, pushE_out fun y hy => hne y (hp.mem_iff.2 hy), hp.length_eq]
theorem pushE_zero {l : List Msg} {x : Msg} (h : pushE 64 l x = 0) : (∀ y ∈ l, y.key ≠ x.key) ∧ l.length < 64 := by
  by_cases hin : ∃ y ∈ l, y.key = x.key
  · rw [pushE_in' hin] at h; cases h
  · have hne : ∀ y ∈ l, y.key ≠ x.key := fun y hy hk => hin ⟨y, hy, hk⟩
    rw [pushE_out hne] at h
    split at h
    · cases h
    · exact ⟨hne, by omega⟩
theorem QOk.push {l : List Msg} (h : QOk l) (x : Msg) : QOk (pushQ l x) := by
  unfold pushQ
  split
  · rename_i h0
    obtain ⟨h1, h2⟩ := pushE_zero h0
    have := (insK_perm x l).length_eq
    rw [List.length_cons] at this
    exact ⟨insK_up h.up h1, by omega⟩
  · exact h

def IsQ (q : Nat) (l : List Msg) : HP := hex fun lh : List Msg => sepL [pur (Heapy lh lh.length ∧ l.Perm lh ∧ QOk l), IsPrio q 64 lh]
theorem q_of {q : Nat} {l : List Msg} (h : Sat e w (IsQ q l :: R)) : ∃ lh, Heapy lh lh.length ∧ l.Perm lh ∧ QOk l ∧ Sat e w (IsPrio q 64 lh :: R) := by
  obtain ⟨pg, h0⟩ := h.ex
  obtain ⟨⟨h1, h2, h3⟩, h4⟩ := Sat.pure h0.split
  exact ⟨pg, h1, h2, h3, h4⟩
theorem q_mk {q : Nat} {l lh : List Msg} (h1 : Heapy lh lh.length) (h2 : l.Perm lh) (h3 : QOk l) (h : Sat e w (IsPrio q 64 lh :: R)) : Sat e w (IsQ q l :: R) :=
  .mk_ex lh (.join (l' := [_, _]) (.mk_pure ⟨h1, h2, h3⟩ h))
theorem q_New_s (hS : Sat e w R) (hk : ∀ q w', Sat e w' (IsQ q [] :: R) → K (.pointer (some ⟨q, 0, none⟩)) w') : Cl prog 44 #[.int .i64 64] w K :=
  prio_New_s hS fun q w' h => hk q w' (q_mk (fun i _ _ hi1 hi2 _ => absurd hi2 (by simp)) (.refl _) QOk.nil h)
theorem q_Len_s {q : Nat} {l : List Msg} (hS : Sat e w (IsQ q l :: R)) (hk : K (.int .i64 (l.length : Int)) w) : Cl prog 101 #[.pointer (some ⟨q, 0, none⟩)] w K := by
  obtain ⟨lh, h1, h2, h3, h4⟩ := q_of hS
  refine prio_Len_s h4 ?_
  rw [← h2.length_eq]
  exact hk
theorem q_Push_s {q : Nat} {l : List Msg} {x : Msg} (hS : Sat e w (IsQ q l :: R)) (hk : ∀ w', Sat e w' (IsQ q (pushQ l x) :: R) → K (.int .i64 (pushE 64 l x)) w') :
    Cl prog 103 #[.pointer (some ⟨q, 0, none⟩), .agg x.cs.toArray] w K := by
  obtain ⟨lh, h1, h2, h3, h4⟩ := q_of hS
  have hlen := h2.length_eq
  have h64 := h3.len
  have e0 := pushE_perm (x := x) h2
  refine prio_Push_s (by omega) h4 (fun hne w' h => ?_) (fun he hne hr l' w' hp hh h => ?_)
  · have := hk w' (by
      unfold pushQ
      rw [if_neg (by rw [e0]; exact hne)]
      exact q_mk h1 h2 h3 h)
    rw [e0] at this
    exact this
  · have := hk w' (by
      have hq := h3.push x
      unfold pushQ at hq ⊢
      rw [if_pos (by rw [e0]; exact he)] at hq ⊢
      refine q_mk (hh h1) ?_ hq h
      exact (insK_perm x l).trans ((h2.cons x).trans ((List.perm_append_comm (l₁ := [x]) (l₂ := lh)).trans hp.symm)))
    rw [e0, he] at this
    exact this
theorem q_First_s {q : Nat} {l : List Msg} (hS : Sat e w (IsQ q l :: R)) (hk : ∀ w', Sat e w' (IsQ q l :: R) → K (.tuple #[.agg (hdM l).cs.toArray, .bool (hasM l)]) w') :
    Cl prog 51 #[.pointer (some ⟨q, 0, none⟩)] w K := by
  obtain ⟨lh, h1, h2, h3, h4⟩ := q_of hS
  have hlen := h2.length_eq
  cases lh with
  | nil =>
    obtain rfl : l = [] := List.length_eq_zero_iff.1 hlen
    exact prio_First_none h4 fun w' h => hk _ (q_mk h1 h2 h3 h)
  | cons x lh =>
    obtain ⟨hf, hm⟩ := heap_first (x := x) h1 rfl h2 h3.up
    refine prio_First_s (x := x) rfl h4 fun w' h => ?_
    have := hk _ (q_mk h1 h2 h3 h)
    cases l with
    | nil => cases hf
    | cons y l =>
      cases hf
      exact this
theorem q_Pop_s {q : Nat} {l : List Msg} (hS : Sat e w (IsQ q l :: R)) (hk : ∀ w', Sat e w' (IsQ q l.tail :: R) → K (.tuple #[.agg (hdM l).cs.toArray, .bool (hasM l)]) w') :
    Cl prog 54 #[.pointer (some ⟨q, 0, none⟩)] w K := by
  obtain ⟨lh, h1, h2, h3, h4⟩ := q_of hS
  have hlen := h2.length_eq
  have h64 := h3.len
  cases lh with
  | nil =>
    obtain rfl : l = [] := List.length_eq_zero_iff.1 hlen
    exact prio_Pop_none h4 fun w' h => hk _ (q_mk h1 h2 h3 h)
  | cons x lh =>
    obtain ⟨hf, hm⟩ := heap_first (x := x) h1 rfl h2 h3.up
    refine prio_Pop_s (x := x) rfl (by omega) h4 fun l' w' hp hh h => ?_
    cases l with
    | nil => cases hf
    | cons y l =>
      cases hf
      refine hk _ (q_mk (hh h1) ?_ h3.tail h)
      have h5 : (x :: l).Perm (x :: l') := h2.trans (hp.symm.trans (List.perm_append_comm (l₁ := l') (l₂ := [x])))
      exact (List.perm_cons x).1 h5
theorem q_List_s {q : Nat} {l : List Msg} (hS : Sat e w (IsQ q l :: R)) (hk : ∀ v w', Sat e w' (ownS 37 6 Msg.cs v l :: IsQ q l :: R) → K v w') :
    Cl prog 60 #[.pointer (some ⟨q, 0, none⟩)] w K := by
  obtain ⟨lh, h1, h2, h3, h4⟩ := q_of hS
  have hlen := h2.length_eq
  have h64 := h3.len
  refine prio_List_s (by omega) h4 fun v l' w' hp hu h => ?_
  obtain rfl : l' = l := up_unique hu h3.up (hp.trans h2.symm)
  exact hk _ _ (Sat.swap (q_mk h1 h2 h3 (Sat.swap h)))
end Go.Proofs.YtbopajpmadlmhaaGreat
end
section
namespace Go.Proofs.YtbopajpmadlmhaaGreat
open Go Go.E
set_option maxRecDepth 100000
variable {e w : World} {L Q : List HP} {K : KV} {S S2 : HP}

structure ND where
  clk : Clk
  q : List Msg
  st : Int
  sent : Int
  log : List Done
structure NItem where
  Kind : Int
  m : Msg
  Colour : Int
def NItem.ns (i : NItem) : List Int := [i.Kind, i.m.key.T, i.m.key.From, i.m.key.Seq, i.m.To, i.m.Class, i.m.Body, i.Colour]
abbrev NItem.cs (i : NItem) : List Value := ints i.ns
def hearE (N : ND) (j : Int) (i : NItem) : Int := if i.Kind = 2 then N.clk.hearE j i.m.key.T else if i.Kind = 0 then (if N.clk.at' j < 0 then 1 else if i.m.key.T < N.clk.at' j then 110 else pushE 64 N.q i.m) else 130
theorem shortW {x X : WdX} (h : X.w = x.w) (hs : x.short) : X.short := by
  have h1 : X.Parents = x.Parents := congrArg Wd.Parents h
  have h2 : X.Feds.map FedX.f = x.Feds.map FedX.f := congrArg Wd.Feds h
  have hl : X.Feds.length = x.Feds.length := by simpa using congrArg List.length h2
  refine ⟨by rw [hl]; exact hs.feds, by rw [h1]; exact hs.par, fun f hf => ?_⟩
  have h3 : f.f ∈ x.Feds.map FedX.f := by rw [← h2]; exact List.mem_map_of_mem hf
  obtain ⟨g, hg, he⟩ := List.mem_map.1 h3
  have hsg := hs.fed g hg
  have e1 : g.Pubs = f.Pubs := congrArg Fed.Pubs he
  have e2 : g.Subs = f.Subs := congrArg Fed.Subs he
  have e3 : g.Init = f.Init := congrArg Fed.Init he
  have e4 : g.Rules.map RuleX.r = f.Rules.map RuleX.r := congrArg Fed.Rules he
  have e5 : g.Rules.length = f.Rules.length := by simpa using congrArg List.length e4
  refine ⟨by rw [← e1]; exact hsg.pubs, by rw [← e2]; exact hsg.subs, by rw [← e3]; exact hsg.init, by rw [← e5]; exact hsg.rules, fun q hq => ?_⟩
  have h5 : q.r ∈ g.Rules.map RuleX.r := by rw [e4]; exact List.mem_map_of_mem hq
  obtain ⟨q', hq', he'⟩ := List.mem_map.1 h5
  have e6 : q'.Sends = q.Sends := congrArg Rule.Sends he'
  rw [← e6]
  exact hsg.sends q' hq'

theorem hasM_yes {l : List Msg} (h : hasM l = true) : ∃ m r, l = m :: r := by
  cases l with
  | nil => cases h
  | cons a l => exact ⟨a, l, rfl⟩
end Go.Proofs.YtbopajpmadlmhaaGreat
end
section
namespace Go.Proofs.YtbopajpmadlmhaaGreat
open Go Go.E
set_option maxRecDepth 100000

structure WN where
  old : List Msg
  ms : List Msg
  q : List Msg
  fl : Int
  clk : List Int

def nextB (fd : Fed) (b : Int × Int) (m : Msg) : Int × Int := ((stepR fd.Rules b.1 m.Class).1, b.2 + (stepR fd.Rules b.1 m.Class).2.length)
def entB (wd : Wd) (f : Nat) (fd : Fed) (b : Int × Int) (m : Msg) : En := ⟨m, b.1, b.2, (stepR fd.Rules b.1 m.Class).1, spreadL wd.Parents wd.Feds f b.2 m.key.T m.Body (stepR fd.Rules b.1 m.Class).2⟩
def runE (wd : Wd) (f : Nat) (fd : Fed) : Int × Int → List Msg → List En
  | _, [] => []
  | b, m :: l => entB wd f fd b m :: runE wd f fd (nextB fd b m) l
def endE (fd : Fed) : Int × Int → List Msg → Int × Int
  | b, [] => b
  | b, m :: l => endE fd (nextB fd b m) l
def begE (fd : Fed) : Int × Int := (fd.Start, fd.Init.length)
theorem endE_app (fd : Fed) : ∀ (a l : List Msg) (b : Int × Int), endE fd b (a ++ l) = endE fd (endE fd b a) l
  | [], _, _ => rfl
  | m :: a, l, b => endE_app fd a l (nextB fd b m)
theorem runE_app (wd : Wd) (f : Nat) (fd : Fed) : ∀ (a l : List Msg) (b : Int × Int), runE wd f fd b (a ++ l) = runE wd f fd b a ++ runE wd f fd (endE fd b a) l
  | [], _, _ => rfl
  | m :: a, l, b => by
    show entB wd f fd b m :: runE wd f fd (nextB fd b m) (a ++ l) = _
    rw [runE_app wd f fd a l]
    rfl
theorem runE_map (wd : Wd) (f : Nat) (fd : Fed) : ∀ (l : List Msg) (b : Int × Int), (runE wd f fd b l).map En.m = l
  | [], _ => rfl
  | m :: l, b => by
    show m :: (runE wd f fd (nextB fd b m) l).map En.m = _
    rw [runE_map wd f fd l]
theorem runE_len (wd : Wd) (f : Nat) (fd : Fed) (l : List Msg) (b : Int × Int) : (runE wd f fd b l).length = l.length := by
  have := congrArg List.length (runE_map wd f fd l b)
  rwa [List.length_map] at this
theorem runE_take (wd : Wd) (f : Nat) (fd : Fed) (l : List Msg) (b : Int × Int) (n : Nat) : (runE wd f fd b l).take n = runE wd f fd b (l.take n) := by
  by_cases h : n ≤ l.length
  · have e := runE_app wd f fd (l.take n) (l.drop n) b
    rw [List.take_append_drop] at e
    rw [e, List.take_append_of_le_length (by rw [runE_len, List.length_take]; omega), List.take_of_length_le (by rw [runE_len, List.length_take]; omega)]
  · rw [List.take_of_length_le (by rw [runE_len]; omega), List.take_of_length_le (by omega)]
theorem runE_drop (wd : Wd) (f : Nat) (fd : Fed) (l : List Msg) (b : Int × Int) (n : Nat) : (runE wd f fd b l).drop n = runE wd f fd (endE fd b (l.take n)) (l.drop n) := by
  by_cases h : n ≤ l.length
  · have e := runE_app wd f fd (l.take n) (l.drop n) b
    rw [List.take_append_drop] at e
    rw [e, List.drop_append_of_le_length (by rw [runE_len, List.length_take]; omega), List.drop_of_length_le (by rw [runE_len, List.length_take]; omega)]
    rfl
  · rw [List.drop_of_length_le (by rw [runE_len]; omega), List.drop_of_length_le (by omega)]
    rfl
theorem runE_mem {wd : Wd} {f : Nat} {fd : Fed} : ∀ {l : List Msg} {b : Int × Int} {x : En}, x ∈ runE wd f fd b l → x.m ∈ l ∧ ∃ b', x = entB wd f fd b' x.m
  | [], _, _, h => by cases h
  | m :: l, b, x, h => by
    rcases List.mem_cons.1 h with rfl | h
    · exact ⟨List.mem_cons_self .., b, rfl⟩
    · obtain ⟨h1, h2⟩ := runE_mem h
      exact ⟨List.mem_cons_of_mem _ h1, h2⟩

def WN.base (N : WN) (fd : Fed) : Int × Int := endE fd (begE fd) N.old
def WN.now (N : WN) (fd : Fed) : Int × Int := endE fd (N.base fd) N.ms
def WN.past (N : WN) (wd : Wd) (f : Nat) (fd : Fed) : List En := runE wd f fd (N.base fd) N.ms
def doneE (x : En) : Done := ⟨x.m, x.st⟩
def WN.log (N : WN) (wd : Wd) (f : Nat) (fd : Fed) : List Done := (runE wd f fd (begE fd) N.old).map doneE
def boldB (wd : Wd) (j : Int) : Bool := if 0 ≤ j then ((wd.Feds[j.toNat]?).map fun f => decide (f.Kind = 1)).getD false else false
def keptE (wd : Wd) (x : En) : List Kept := (x.outs.filter fun m => !boldB wd m.To).map fun m => ⟨x.m.key, m⟩
def gateE (wd : Wd) (l : List En) : List Kept := l.flatMap (keptE wd)
def lowsM (k : Key) (l : List Msg) : List Msg := l.filter fun m => decide (KeyLt m.key k)
def highsM (k : Key) (l : List Msg) : List Msg := l.filter fun m => !decide (KeyLt m.key k)
def plainI (m : Msg) : NItem := ⟨0, m, 0⟩
def antiI (m : Msg) : NItem := ⟨1, m, 0⟩
def goneE (wd : Wd) (f : Nat) (fd : Fed) (N : WN) (k : Key) : List En := runE wd f fd (endE fd (N.base fd) (lowsM k N.ms)) (highsM k N.ms)
def antiE (wd : Wd) (x : En) : List NItem := (x.outs.filter fun m => boldB wd m.To).map antiI
def undoI (wd : Wd) (l : List En) : List NItem := l.reverse.flatMap (antiE wd)
def WN.at' (N : WN) (j : Int) : Int := if 0 ≤ j then N.clk.getD j.toNat (-1) else -1
def hasK (k : Key) (l : List Msg) : Bool := l.any fun m => decide (m.key = k)
structure HR where
  e : Int
  out : List NItem
  N : WN
def hearW (wd : Wd) (f : Nat) (fd : Fed) (N : WN) (j : Int) (i : NItem) : HR :=
  if ¬ (0 ≤ j ∧ j < wd.Feds.length ∧ j ≠ f) then ⟨1, [], N⟩
  else if i.Kind = 2 then
    (if N.at' j < 0 ∨ validT i.m.key.T = false then ⟨1, [], N⟩ else if i.m.key.T < N.at' j then ⟨110, [], N⟩ else ⟨0, [], ⟨N.old, N.ms, N.q, N.fl, N.clk.set j.toNat i.m.key.T⟩⟩)
  else if i.Kind = 0 then
    (if i.m.key.T < N.fl ∨ (0 ≤ N.at' j ∧ i.m.key.T < N.at' j) then ⟨110, [], N⟩
     else if hasK i.m.key (N.ms ++ N.q) = true then ⟨3, [], N⟩
     else if 64 ≤ N.q.length + (highsM i.m.key N.ms).length then ⟨2, [], N⟩
     else ⟨0, undoI wd (goneE wd f fd N i.m.key), ⟨N.old, lowsM i.m.key N.ms, insK i.m (highsM i.m.key N.ms ++ N.q), N.fl, N.clk⟩⟩)
  else if i.Kind = 1 then
    (if 0 ≤ N.at' j then ⟨1, [], N⟩
     else if i.m.key.T < N.fl then ⟨110, [], N⟩
     else if hasK i.m.key N.q = true then ⟨0, [], ⟨N.old, N.ms, without N.q i.m.key, N.fl, N.clk⟩⟩
     else if hasK i.m.key N.ms = false then ⟨4, [], N⟩
     else if 65 < N.q.length + (highsM i.m.key N.ms).length then ⟨2, [], N⟩
     else ⟨0, undoI wd (goneE wd f fd N i.m.key), ⟨N.old, lowsM i.m.key N.ms, without (highsM i.m.key N.ms ++ N.q) i.m.key, N.fl, N.clk⟩⟩)
  else ⟨130, [], N⟩
def stepWE (wd : Wd) (f : Nat) (fd : Fed) (N : WN) : Int := if ¬ (hasM N.q = true ∧ (hdM N.q).key.T < wd.End) then 150 else if 64 ≤ N.ms.length ∨ 192 < (gateE wd (N.past wd f fd)).length then 2 else 0
def stepEn (wd : Wd) (f : Nat) (fd : Fed) (N : WN) : En := entB wd f fd (N.now fd) (hdM N.q)
def stepI (wd : Wd) (x : En) : List NItem := (x.outs.filter fun m => boldB wd m.To).map plainI
def stepWN (N : WN) : WN := ⟨N.old, N.ms ++ [hdM N.q], N.q.tail, N.fl, N.clk⟩
def localW (N : WN) : Int := leastT ((if hasM N.q = true then [(hdM N.q).key.T] else []) ++ N.clk.filter fun t => decide (0 ≤ t))
def earlyM (t : Int) (l : List Msg) : List Msg := l.filter fun m => decide (m.key.T < t)
def lateM (t : Int) (l : List Msg) : List Msg := l.filter fun m => !decide (m.key.T < t)
def commitWE (N : WN) (t : Int) : Int := if t < N.fl then 110 else if localW N < t then 130 else 0
def settledE (wd : Wd) (f : Nat) (fd : Fed) (N : WN) (t : Int) : List En := runE wd f fd (N.base fd) (earlyM t N.ms)
def commitWN (N : WN) (t : Int) : WN := ⟨N.old ++ earlyM t N.ms, lateM t N.ms, N.q, t, N.clk⟩
def promiseW (fd : Fed) (N : WN) : Int := addT N.fl fd.Look
def nodeWI (wd : Wd) : WN := ⟨[], [], [], 0, wd.Feds.map fun g => if g.Kind = 0 then 0 else -1⟩

structure WOk (wd : Wd) (f : Nat) (fd : Fed) (N : WN) (k : Nat) : Prop where
  may : WdOk wd
  hfd : wd.Feds[f]? = some fd
  kind : fd.Kind = 1
  clen : N.clk.length = wd.Feds.length
  clk : ∀ (j : Nat) (g : Fed), wd.Feds[j]? = some g → ∃ t, N.clk[j]? = some t ∧ ((g.Kind = 0 ∧ 0 ≤ t ∧ t ≤ Inf) ∨ (g.Kind ≠ 0 ∧ t = -1))
  up : Upk (N.old ++ (N.ms ++ N.q))
  lo : ∀ m ∈ N.old, m.key.T < N.fl
  hi : ∀ m ∈ N.ms ++ N.q, N.fl ≤ m.key.T ∨ wd.End ≤ m.key.T
  fl : 0 ≤ N.fl
  ql : N.q.length ≤ 64
  ml : N.ms.length ≤ 64
  cnt : N.old.length + N.ms.length ≤ k
  en : ∀ m ∈ N.old ++ N.ms, m.key.T < wd.End
theorem cut_by {α : Type} {p : α → Bool} {l : List α} {n : Nat} (h1 : ∀ x ∈ l.take n, p x = true) (h2 : ∀ x ∈ l.drop n, p x = false) : l.filter p = l.take n ∧ (l.filter fun x => !p x) = l.drop n := by
  constructor
  · conv => lhs; rw [← List.take_append_drop n l]
    rw [List.filter_append, List.filter_eq_self.2 h1, List.filter_eq_nil_iff.2 (fun x hx => by rw [h2 x hx]; decide), List.append_nil]
  · conv => lhs; rw [← List.take_append_drop n l]
    rw [List.filter_append, List.filter_eq_nil_iff.2 (fun x hx => by rw [h1 x hx]; decide), List.filter_eq_self.2 (fun x hx => by rw [h2 x hx]; rfl), List.nil_append]
theorem cut_at {p : Msg → Bool} : ∀ {l : List Msg}, (l.Pairwise fun a b => p b = true → p a = true) → ∃ n, n ≤ l.length ∧ (∀ x ∈ l.take n, p x = true) ∧ ∀ x ∈ l.drop n, p x = false
  | [], _ => ⟨0, Nat.le_refl _, by simp, by simp⟩
  | a :: l, h => by
    obtain ⟨h1, h2⟩ := List.pairwise_cons.1 h
    cases hp : p a with
    | false =>
      refine ⟨0, Nat.zero_le _, by simp, fun x hx => ?_⟩
      rcases List.mem_cons.1 hx with rfl | hx
      · exact hp
      · cases hx' : p x with
        | false => rfl
        | true => rw [h1 x hx hx'] at hp; cases hp
    | true =>
      obtain ⟨n, hn, h3, h4⟩ := cut_at h2
      refine ⟨n + 1, by simp; omega, fun x hx => ?_, h4⟩
      rcases List.mem_cons.1 hx with rfl | hx
      · exact hp
      · exact h3 x hx
theorem filter_parts {p : Msg → Bool} {l : List Msg} (h : l.Pairwise fun a b => p b = true → p a = true) : l.filter p ++ (l.filter fun x => !p x) = l := by
  obtain ⟨n, _, h1, h2⟩ := cut_at h
  obtain ⟨e1, e2⟩ := cut_by h1 h2
  rw [e1, e2, List.take_append_drop]
theorem lows_highs {l : List Msg} (h : Upk l) (k : Key) : lowsM k l ++ highsM k l = l :=
  filter_parts (h.imp fun {a b} hab hb => by
    rw [decide_eq_true_iff] at *
    exact hab.trans hb)
theorem early_late {l : List Msg} (h : Upk l) (t : Int) : earlyM t l ++ lateM t l = l :=
  filter_parts (h.imp fun {a b} hab hb => by
    rw [decide_eq_true_iff] at *
    unfold KeyLt at hab
    omega)
theorem Upk.left {a b : List Msg} (h : Upk (a ++ b)) : Upk a := (List.pairwise_append.1 h).1
theorem Upk.right {a b : List Msg} (h : Upk (a ++ b)) : Upk b := (List.pairwise_append.1 h).2.1
theorem Upk.mid {a b : List Msg} (h : Upk (a ++ b)) {x y : Msg} (hx : x ∈ a) (hy : y ∈ b) : KeyLt x.key y.key := (List.pairwise_append.1 h).2.2 x hx y hy
theorem insK_low {m : Msg} {l : List Msg} (h : ∀ y ∈ l, KeyLt m.key y.key) : insK m l = m :: l := by
  cases l with
  | nil => rfl
  | cons a l =>
    unfold insK
    rw [if_pos (cmpK_lt.2 (h a (List.mem_cons_self ..)))]
theorem insK_cons (m x : Msg) (l : List Msg) : insK m (x :: l) = if cmpK m.key x.key < 0 then m :: x :: l else x :: insK m l := rfl
theorem insK_high {m : Msg} : ∀ {a b : List Msg}, (∀ y ∈ a, KeyLt y.key m.key) → insK m (a ++ b) = a ++ insK m b
  | [], _, _ => rfl
  | x :: a, b, h => by
    have h1 := h x (List.mem_cons_self ..)
    rw [List.cons_append, insK_cons, if_neg (fun hc => h1.asymm (cmpK_lt.1 hc)), insK_high fun y hy => h y (List.mem_cons_of_mem _ hy), List.cons_append]
theorem without_none {l : List Msg} {k : Key} (h : ∀ y ∈ l, y.key ≠ k) : without l k = l := List.filter_eq_self.2 fun x hx => by rw [decide_eq_false (h x hx)]; rfl
theorem without_app (a b : List Msg) (k : Key) : without (a ++ b) k = without a k ++ without b k := List.filter_append ..
theorem hasK_iff {k : Key} {l : List Msg} : hasK k l = true ↔ ∃ m ∈ l, m.key = k := by
  unfold hasK
  rw [List.any_eq_true]
  constructor
  · rintro ⟨m, h1, h2⟩; exact ⟨m, h1, of_decide_eq_true h2⟩
  · rintro ⟨m, h1, h2⟩; exact ⟨m, h1, decide_eq_true h2⟩
theorem hasK_no {k : Key} {l : List Msg} : hasK k l = false ↔ ∀ m ∈ l, m.key ≠ k := by
  rw [← Bool.not_eq_true, hasK_iff]
  constructor
  · intro h m h1 h2; exact h ⟨m, h1, h2⟩
  · rintro h ⟨m, h1, h2⟩; exact h m h1 h2

section
variable {wd : Wd} {f : Nat} {fd : Fed} {N : WN} {k : Nat}
theorem WOk.ups (h : WOk wd f fd N k) : Upk N.ms := h.up.right.left
theorem WOk.upq (h : WOk wd f fd N k) : Upk N.q := h.up.right.right
theorem WOk.mono (h : WOk wd f fd N k) {k' : Nat} (hk : k ≤ k') : WOk wd f fd N k' := ⟨h.may, h.hfd, h.kind, h.clen, h.clk, h.up, h.lo, h.hi, h.fl, h.ql, h.ml, Nat.le_trans h.cnt hk, h.en⟩
theorem WOk.hf (h : WOk wd f fd N k) : f < wd.Feds.length := (List.getElem?_eq_some_iff.1 h.hfd).1
theorem step_few (h : WdOk wd) (hfd : wd.Feds[f]? = some fd) (s c : Int) : (stepR fd.Rules s c).2.length ≤ 3 := (step_outs h (List.mem_of_getElem? hfd) s c).1
theorem endE_few (h : WdOk wd) (hfd : wd.Feds[f]? = some fd) : ∀ (l : List Msg) (b : Int × Int), b.2 ≤ (endE fd b l).2 ∧ (endE fd b l).2 ≤ b.2 + 3 * l.length
  | [], b => by simp [endE]
  | m :: l, b => by
    have h1 := endE_few h hfd l (nextB fd b m)
    have h2 := step_few h hfd b.1 m.Class
    simp only [List.length_cons]
    show b.2 ≤ (endE fd (nextB fd b m) l).2 ∧ (endE fd (nextB fd b m) l).2 ≤ _
    have h3 : (nextB fd b m).2 = b.2 + (stepR fd.Rules b.1 m.Class).2.length := rfl
    omega
theorem begE_few (h : WdOk wd) (hfd : wd.Feds[f]? = some fd) : 0 ≤ (begE fd).2 ∧ (begE fd).2 ≤ 4 := by
  have h1 := (h.init fd (List.mem_of_getElem? hfd)).1
  show 0 ≤ (fd.Init.length : Int) ∧ (fd.Init.length : Int) ≤ 4
  omega
theorem WOk.sent (h : WOk wd f fd N k) : 0 ≤ (N.base fd).2 ∧ (N.base fd).2 ≤ (N.now fd).2 ∧ (N.now fd).2 ≤ 4 + 3 * k := by
  have h1 := begE_few h.may h.hfd
  have h2 := endE_few h.may h.hfd N.old (begE fd)
  have h3 := endE_few h.may h.hfd N.ms (N.base fd)
  have h4 := h.cnt
  have h5 : N.base fd = endE fd (begE fd) N.old := rfl
  have h6 : N.now fd = endE fd (N.base fd) N.ms := rfl
  rw [← h5] at h2
  rw [← h6] at h3
  omega
theorem ent_outs (h : WdOk wd) (hfd : wd.Feds[f]? = some fd) (b : Int × Int) (m : Msg) : (entB wd f fd b m).outs.length ≤ 24 ∧ ∀ x ∈ (entB wd f fd b m).outs, 0 ≤ x.To ∧ x.To < wd.Feds.length ∧ x.To ≠ f := by
  constructor
  · have h1 := spreadL_len wd.Parents wd.Feds f b.2 m.key.T m.Body (stepR fd.Rules b.1 m.Class).2
    have h2 := step_few h hfd b.1 m.Class
    have h3 := h.n.2
    have h4 : (stepR fd.Rules b.1 m.Class).2.length * wd.Feds.length ≤ 3 * 8 := Nat.mul_le_mul h2 h3
    exact Nat.le_trans h1 h4
  · intro x hx
    have h1 := spread_by hx
    exact h1.to
end
end Go.Proofs.YtbopajpmadlmhaaGreat
end
section
namespace Go.Proofs.YtbopajpmadlmhaaGreat
open Go Go.E
set_option maxRecDepth 100000
variable {wd : Wd} {f : Nat} {fd : Fed} {N : WN} {k : Nat}

theorem insK_mem {m y : Msg} {l : List Msg} : y ∈ insK m l ↔ y = m ∨ y ∈ l := by rw [(insK_perm m l).mem_iff, List.mem_cons]
theorem insK_len (m : Msg) (l : List Msg) : (insK m l).length = l.length + 1 := by rw [(insK_perm m l).length_eq, List.length_cons]
theorem lows_mem {y : Msg} {k : Key} {l : List Msg} : y ∈ lowsM k l ↔ y ∈ l ∧ KeyLt y.key k := by unfold lowsM; rw [List.mem_filter, decide_eq_true_iff]
theorem highs_mem {y : Msg} {k : Key} {l : List Msg} : y ∈ highsM k l ↔ y ∈ l ∧ ¬ KeyLt y.key k := by unfold highsM; rw [List.mem_filter, Bool.not_eq_true', decide_eq_false_iff_not]
theorem without_lt {l : List Msg} {k : Key} (h : hasK k l = true) : (without l k).length < l.length := by
  obtain ⟨m, h1, h2⟩ := hasK_iff.1 h
  unfold without
  rcases Nat.lt_or_eq_of_le (List.length_filter_le (fun x : Msg => !decide (x.key = k)) l) with h3 | h3
  · exact h3
  · rw [List.length_filter_eq_length_iff] at h3
    have := h3 m h1
    rw [decide_eq_true h2] at this
    cases this
theorem line_ins (h : Upk (N.ms ++ N.q)) (m : Msg) : lowsM m.key N.ms ++ insK m (highsM m.key N.ms ++ N.q) = insK m (N.ms ++ N.q) := by
  rw [← insK_high (fun y hy => (lows_mem.1 hy).2), ← List.append_assoc, lows_highs h.left]
theorem line_out (h : Upk (N.ms ++ N.q)) (k : Key) : lowsM k N.ms ++ without (highsM k N.ms ++ N.q) k = without (N.ms ++ N.q) k := by
  have e : without (lowsM k N.ms) k = lowsM k N.ms := without_none fun y hy he => KeyLt.irrefl k (by have := (lows_mem.1 hy).2; rwa [he] at this)
  conv => lhs; rw [← e]
  rw [← without_app, ← List.append_assoc, lows_highs h.left]
theorem at_nat (h : WOk wd f fd N k) {j : Int} (h0 : 0 ≤ j) (h1 : j < wd.Feds.length) : ∃ (n : Nat) (g : Fed) (t : Int), j = n ∧ wd.Feds[n]? = some g ∧ N.clk[n]? = some t ∧ N.at' j = t ∧ ((g.Kind = 0 ∧ 0 ≤ t ∧ t ≤ Inf) ∨ (g.Kind ≠ 0 ∧ t = -1)) := by
  obtain ⟨n, rfl⟩ : ∃ n : Nat, j = n := ⟨j.toNat, by omega⟩
  obtain ⟨g, hg⟩ := get_of_lt (l := wd.Feds) (j := n) (by omega)
  obtain ⟨t, ht, hc⟩ := h.clk n g hg
  refine ⟨n, g, t, rfl, hg, ht, ?_, hc⟩
  unfold WN.at'
  rw [if_pos h0, Int.toNat_natCast, List.getD_eq_getElem?_getD, ht]
  rfl
theorem WOk.line (h : WOk wd f fd N k) : Upk (N.ms ++ N.q) := h.up.right
theorem WOk.hear (h : WOk wd f fd N k) (j : Int) (i : NItem) : WOk wd f fd (hearW wd f fd N j i).N k := by
  unfold hearW
  split
  · exact h
  · rename_i hj
    have hj := Classical.not_not.1 hj
    obtain ⟨n, g, t, rfl, hg, ht, hat, hc⟩ := at_nat h hj.1 hj.2.1
    split
    · split
      · exact h
      · rename_i hb
        split
        · exact h
        · have hv : validT i.m.key.T = true := by
            cases hv : validT i.m.key.T with
            | true => rfl
            | false => exact absurd (.inr hv) hb
          have hb0 : ¬ N.at' n < 0 := fun h0 => hb (.inl h0)
          have hvb := validT_bd hv
          refine ⟨h.may, h.hfd, h.kind, by show (N.clk.set _ _).length = _; rw [List.length_set]; exact h.clen, fun j g' hg' => ?_, h.up, h.lo, h.hi, h.fl, h.ql, h.ml, h.cnt, h.en⟩
          by_cases hjn : n = j
          · subst hjn
            refine ⟨i.m.key.T, ?_, .inl ⟨?_, hvb⟩⟩
            · show (N.clk.set _ _)[_]? = _
              rw [Int.toNat_natCast]
              exact List.getElem?_set_self (List.getElem?_eq_some_iff.1 ht).1
            · rw [hg] at hg'
              cases hg'
              rcases hc with hc | hc
              · exact hc.1
              · omega
          · obtain ⟨t', h1, h2⟩ := h.clk j g' hg'
            refine ⟨t', ?_, h2⟩
            show (N.clk.set _ _)[_]? = _
            rw [Int.toNat_natCast, List.getElem?_set_ne hjn]
            exact h1
    · split
      · split
        · exact h
        · rename_i h1
          split
          · exact h
          · rename_i h2
            have h2 := hasK_no.1 (Bool.not_eq_true _ ▸ h2)
            split
            · exact h
            · rename_i h3
              have hlt : N.fl ≤ i.m.key.T := by
                have : ¬ i.m.key.T < N.fl := fun h0 => h1 (.inl h0)
                omega
              have hll : (lowsM i.m.key N.ms).length ≤ N.ms.length := List.length_filter_le ..
              have hhi : ∀ y ∈ insK i.m (N.ms ++ N.q), N.fl ≤ y.key.T ∨ wd.End ≤ y.key.T := fun y hy => by
                rcases insK_mem.1 hy with rfl | hy
                · exact .inl hlt
                · exact h.hi y hy
              have hjo : ∀ x ∈ N.old, ∀ y ∈ insK i.m (N.ms ++ N.q), KeyLt x.key y.key := fun x hx y hy => by
                rcases insK_mem.1 hy with rfl | hy
                · have := h.lo x hx
                  unfold KeyLt
                  omega
                · exact h.up.mid hx hy
              refine ⟨h.may, h.hfd, h.kind, h.clen, h.clk, ?_, h.lo, ?_, h.fl, ?_, ?_, ?_, fun y hy => ?_⟩
              · show Upk (N.old ++ (lowsM i.m.key N.ms ++ insK i.m (highsM i.m.key N.ms ++ N.q)))
                rw [line_ins h.line]
                exact List.pairwise_append.2 ⟨h.up.left, insK_up h.line h2, hjo⟩
              · show ∀ y ∈ lowsM i.m.key N.ms ++ insK i.m (highsM i.m.key N.ms ++ N.q), _
                rw [line_ins h.line]
                exact hhi
              · show (insK i.m (highsM i.m.key N.ms ++ N.q)).length ≤ 64
                rw [insK_len, List.length_append]
                omega
              · exact Nat.le_trans hll h.ml
              · have := h.cnt
                show N.old.length + (lowsM i.m.key N.ms).length ≤ k
                omega
              · rcases List.mem_append.1 hy with hy | hy
                · exact h.en y (List.mem_append_left _ hy)
                · exact h.en y (List.mem_append_right _ (lows_mem.1 hy).1)
      · split
        · split
          · exact h
          · split
            · exact h
            · split
              · have hsub : (without N.q i.m.key).Sublist N.q := List.filter_sublist
                have hs2 : (N.ms ++ without N.q i.m.key).Sublist (N.ms ++ N.q) := (List.Sublist.refl _).append hsub
                exact ⟨h.may, h.hfd, h.kind, h.clen, h.clk, h.up.sublist ((List.Sublist.refl _).append hs2), h.lo, fun y hy => h.hi y (hs2.subset hy), h.fl, Nat.le_trans hsub.length_le h.ql, h.ml, h.cnt, h.en⟩
              · split
                · exact h
                · rename_i h3 h4
                  have h4 : hasK i.m.key N.ms = true := by
                    cases h5 : hasK i.m.key N.ms with
                    | true => rfl
                    | false => exact absurd h5 h4
                  split
                  · exact h
                  · rename_i h5
                    have hll : (lowsM i.m.key N.ms).length ≤ N.ms.length := List.length_filter_le ..
                    have hs2 : (without (N.ms ++ N.q) i.m.key).Sublist (N.ms ++ N.q) := List.filter_sublist
                    refine ⟨h.may, h.hfd, h.kind, h.clen, h.clk, ?_, h.lo, ?_, h.fl, ?_, ?_, ?_, fun y hy => ?_⟩
                    · show Upk (N.old ++ (lowsM i.m.key N.ms ++ without (highsM i.m.key N.ms ++ N.q) i.m.key))
                      rw [line_out h.line]
                      exact h.up.sublist ((List.Sublist.refl _).append hs2)
                    · show ∀ y ∈ lowsM i.m.key N.ms ++ without (highsM i.m.key N.ms ++ N.q) i.m.key, _
                      rw [line_out h.line]
                      exact fun y hy => h.hi y (hs2.subset hy)
                    · show (without (highsM i.m.key N.ms ++ N.q) i.m.key).length ≤ 64
                      obtain ⟨x, hx1, hx2⟩ := hasK_iff.1 h4
                      have hin : hasK i.m.key (highsM i.m.key N.ms ++ N.q) = true := hasK_iff.2 ⟨x, List.mem_append_left _ (highs_mem.2 ⟨hx1, fun hl => KeyLt.irrefl _ (by rwa [hx2] at hl)⟩), hx2⟩
                      have := without_lt hin
                      rw [List.length_append] at this
                      omega
                    · exact Nat.le_trans hll h.ml
                    · have := h.cnt
                      show N.old.length + (lowsM i.m.key N.ms).length ≤ k
                      omega
                    · rcases List.mem_append.1 hy with hy | hy
                      · exact h.en y (List.mem_append_left _ hy)
                      · exact h.en y (List.mem_append_right _ (lows_mem.1 hy).1)
        · exact h
theorem stepE_ok (h : stepWE wd f fd N = 0) : (∃ m r, N.q = m :: r ∧ m.key.T < wd.End) ∧ N.ms.length < 64 ∧ (gateE wd (N.past wd f fd)).length ≤ 192 := by
  unfold stepWE at h
  split at h
  · cases h
  · rename_i h1
    have h1 := Classical.not_not.1 h1
    split at h
    · cases h
    · rename_i h2
      obtain ⟨m, r, e⟩ := hasM_yes h1.1
      rw [e] at h1
      exact ⟨⟨m, r, e, h1.2⟩, by omega, by omega⟩
theorem step_line {m : Msg} {r : List Msg} (e : N.q = m :: r) : stepWN N = ⟨N.old, N.ms ++ [m], r, N.fl, N.clk⟩ := by
  unfold stepWN
  rw [e]
  rfl
theorem WOk.step (h : WOk wd f fd N k) (he : stepWE wd f fd N = 0) : WOk wd f fd (stepWN N) (k + 1) := by
  obtain ⟨⟨m, r, e, ht⟩, h2, h3⟩ := stepE_ok he
  rw [step_line e]
  have hup := h.up
  have hhi := h.hi
  have hql := h.ql
  have hcnt := h.cnt
  rw [e] at hup hhi hql
  rw [List.length_cons] at hql
  have e2 : (N.ms ++ [m]) ++ r = N.ms ++ m :: r := by simp
  refine ⟨h.may, h.hfd, h.kind, h.clen, h.clk, ?_, h.lo, ?_, h.fl, ?_, ?_, ?_, fun y hy => ?_⟩
  · show Upk (N.old ++ ((N.ms ++ [m]) ++ r))
    rw [e2]
    exact hup
  · show ∀ y ∈ (N.ms ++ [m]) ++ r, _
    rw [e2]
    exact hhi
  · show r.length ≤ 64
    omega
  · show (N.ms ++ [m]).length ≤ 64
    rw [List.length_append, List.length_singleton]
    omega
  · show N.old.length + (N.ms ++ [m]).length ≤ k + 1
    rw [List.length_append, List.length_singleton]
    omega
  · rcases List.mem_append.1 hy with hy | hy
    · exact h.en y (List.mem_append_left _ hy)
    · rcases List.mem_append.1 hy with hy | hy
      · exact h.en y (List.mem_append_right _ hy)
      · rw [List.mem_singleton.1 hy]; exact ht
theorem leastT_le {l : List Int} {x : Int} (h : x ∈ l) : leastT l ≤ clampT x := by
  unfold leastT
  have key : ∀ (l : List Int) (n : Int), l.foldl (fun n t => min n (clampT t)) n ≤ n ∧ ∀ x ∈ l, l.foldl (fun n t => min n (clampT t)) n ≤ clampT x := by
    intro l
    induction l with
    | nil => exact fun n => ⟨Int.le_refl _, fun x hx => by cases hx⟩
    | cons a l ih =>
      intro n
      obtain ⟨h1, h2⟩ := ih (min n (clampT a))
      refine ⟨by rw [List.foldl_cons]; omega, fun x hx => ?_⟩
      rw [List.foldl_cons]
      rcases List.mem_cons.1 hx with rfl | hx
      · omega
      · exact h2 x hx
  exact (key l Inf).2 x h
theorem leastT_inf (l : List Int) : leastT l ≤ Inf := by
  unfold leastT
  have key : ∀ (l : List Int) (n : Int), l.foldl (fun n t => min n (clampT t)) n ≤ n := by
    intro l
    induction l with
    | nil => exact fun n => Int.le_refl _
    | cons a l ih =>
      intro n
      have := ih (min n (clampT a))
      rw [List.foldl_cons]
      omega
  exact key l Inf
theorem local_first {m : Msg} {r : List Msg} (e : N.q = m :: r) : localW N ≤ clampT m.key.T := by
  unfold localW
  rw [e]
  exact leastT_le (x := m.key.T) (by simp [hasM, hdM])
theorem early_mem {y : Msg} {t : Int} {l : List Msg} : y ∈ earlyM t l ↔ y ∈ l ∧ y.key.T < t := by unfold earlyM; rw [List.mem_filter, decide_eq_true_iff]
theorem late_mem {y : Msg} {t : Int} {l : List Msg} : y ∈ lateM t l ↔ y ∈ l ∧ t ≤ y.key.T := by unfold lateM; rw [List.mem_filter, Bool.not_eq_true', decide_eq_false_iff_not, Int.not_lt]
theorem commitE_ok {t : Int} (h : commitWE N t = 0) : N.fl ≤ t ∧ t ≤ localW N := by
  unfold commitWE at h
  split at h
  · cases h
  · split at h
    · cases h
    · omega
theorem WOk.first_hi (h : WOk wd f fd N k) {t : Int} (he : commitWE N t = 0) : ∀ y ∈ N.q, t ≤ y.key.T ∨ wd.End ≤ y.key.T := by
  obtain ⟨h1, h2⟩ := commitE_ok he
  have hen := h.may.en
  cases e : N.q with
  | nil => intro y hy; cases hy
  | cons m r =>
    have h3 := local_first e
    have h4 : 0 ≤ m.key.T := by
      have := h.hi m (by rw [e]; simp)
      have := h.fl
      omega
    have h6 : t ≤ m.key.T ∨ wd.End ≤ m.key.T := by
      by_cases hm : m.key.T ≤ MaxT
      · rw [clampT_id h4 hm] at h3; omega
      · unfold MaxT at hm; omega
    intro y hy
    rcases List.mem_cons.1 hy with rfl | hy
    · exact h6
    · have hu := h.upq
      rw [e] at hu
      have := (List.pairwise_cons.1 hu).1 y hy
      unfold KeyLt at this
      omega
theorem WOk.commit (h : WOk wd f fd N k) {t : Int} (he : commitWE N t = 0) : WOk wd f fd (commitWN N t) k := by
  obtain ⟨h1, h2⟩ := commitE_ok he
  have hq := h.first_hi he
  have hel := early_late h.ups t
  have hll : (lateM t N.ms).length ≤ N.ms.length := List.length_filter_le ..
  have hln : (earlyM t N.ms).length + (lateM t N.ms).length = N.ms.length := by rw [← List.length_append, hel]
  have hfl := h.fl
  refine ⟨h.may, h.hfd, h.kind, h.clen, h.clk, ?_, fun y hy => ?_, fun y hy => ?_, ?_, h.ql, Nat.le_trans hll h.ml, ?_, fun y hy => ?_⟩
  · show Upk ((N.old ++ earlyM t N.ms) ++ (lateM t N.ms ++ N.q))
    rw [List.append_assoc, ← List.append_assoc (earlyM t N.ms), hel]
    exact h.up
  · show y.key.T < t
    rcases List.mem_append.1 hy with hy | hy
    · have := h.lo y hy; omega
    · exact (early_mem.1 hy).2
  · show t ≤ _ ∨ _
    rcases List.mem_append.1 hy with hy | hy
    · exact .inl (late_mem.1 hy).2
    · exact hq y hy
  · show 0 ≤ t
    omega
  · have := h.cnt
    show (N.old ++ earlyM t N.ms).length + (lateM t N.ms).length ≤ k
    rw [List.length_append]
    omega
  · refine h.en y ?_
    rcases List.mem_append.1 hy with hy | hy
    · rcases List.mem_append.1 hy with hy | hy
      · exact List.mem_append_left _ hy
      · exact List.mem_append_right _ (early_mem.1 hy).1
    · exact List.mem_append_right _ (late_mem.1 hy).1
theorem WOk.init (h : WdOk wd) (hfd : wd.Feds[f]? = some fd) (hk : fd.Kind = 1) : WOk wd f fd (nodeWI wd) 0 := by
  refine ⟨h, hfd, hk, by simp [nodeWI], fun j g hg => ?_, .nil, fun y hy => (by cases hy), fun y hy => (by cases hy), Int.le_refl 0, Nat.zero_le _, Nat.zero_le _, Nat.le_refl _, fun y hy => (by cases hy)⟩
  refine ⟨if g.Kind = 0 then 0 else -1, by simp [nodeWI, hg], ?_⟩
  by_cases hg0 : g.Kind = 0
  · rw [if_pos hg0]
    exact .inl ⟨hg0, Int.le_refl _, by decide⟩
  · rw [if_neg hg0]
    exact .inr ⟨hg0, rfl⟩
end Go.Proofs.YtbopajpmadlmhaaGreat
end
section
namespace Go.Proofs.YtbopajpmadlmhaaGreat
open Go Go.E
set_option maxRecDepth 100000
variable {wd : Wd} {f : Nat} {fd : Fed} {N : WN} {k : Nat}

theorem flatMap_filter_const {α β : Type} (g : α → List β) (p : β → Bool) (q : α → Bool) (h : ∀ a, ∀ b ∈ g a, p b = q a) : ∀ l : List α, (l.flatMap g).filter p = (l.filter q).flatMap g
  | [] => rfl
  | a :: l => by
    rw [List.flatMap_cons, List.filter_append, flatMap_filter_const g p q h l, List.filter_cons]
    cases hq : q a with
    | true =>
      rw [if_pos rfl, List.flatMap_cons, List.filter_eq_self.2 fun b hb => by rw [h a b hb, hq]]
    | false =>
      rw [if_neg (by decide), List.filter_eq_nil_iff.2 fun b hb => by rw [h a b hb, hq]; decide, List.nil_append]
theorem kept_cause {x : En} {y : Kept} (h : y ∈ keptE wd x) : y.cause = x.m.key ∧ y.m ∈ x.outs ∧ boldB wd y.m.To = false := by
  unfold keptE at h
  obtain ⟨m, hm, rfl⟩ := List.mem_map.1 h
  rw [List.mem_filter, Bool.not_eq_true'] at hm
  exact ⟨rfl, hm⟩
theorem gate_drop (l : List En) (k : Key) : ((gateE wd l).filter fun x => !dropP k x) = gateE wd (l.filter fun x => decide (KeyLt x.m.key k)) :=
  flatMap_filter_const _ _ _ (fun a b hb => by
    rw [(show dropP k b = !decide (KeyLt a.m.key k) from ?_), Bool.not_not]
    unfold dropP
    rw [(kept_cause hb).1]
    by_cases hl : KeyLt a.m.key k
    · rw [decide_eq_true hl, decide_eq_false (by have := cmpK_lt.2 hl; omega)]; rfl
    · rw [decide_eq_false hl, decide_eq_true (by have := mt cmpK_lt.1 hl; omega)]; rfl) l
theorem gate_open (l : List En) (t : Int) : (gateE wd l).filter (openP t) = gateE wd (l.filter fun x => decide (x.m.key.T < t)) :=
  flatMap_filter_const _ _ _ (fun a b hb => by unfold openP; rw [(kept_cause hb).1]) l
theorem gate_left (l : List En) (t : Int) : openL (gateE wd l) t = gateE wd (l.filter fun x => !decide (x.m.key.T < t)) :=
  flatMap_filter_const _ _ _ (fun a b hb => by unfold openP; rw [(kept_cause hb).1]) l
theorem mg_self {α : Type} {lt : α → α → Bool} {x : α} {l : List α} (h : ∀ y ∈ l, lt y x = false) : mg lt [x] l = x :: l := by
  cases l with
  | nil => rw [mg_nil']
  | cons y l => rw [mg_ge (h y (List.mem_cons_self ..)), mg_nil]
theorem stab_self {α : Type} {lt : α → α → Bool} : ∀ {l : List α}, Asc lt l → stab lt l = l
  | [], _ => by rw [stab]
  | x :: l, h => by
    obtain ⟨h1, h2⟩ := List.pairwise_cons.1 h
    rw [stab, stab_self h2, mg_self h1]
theorem gate_asc {l : List En} (h : l.Pairwise fun a b => KeyLt a.m.key b.m.key) : Asc (ltC cfK) (gateE wd l) := by
  induction l with
  | nil => exact .nil
  | cons x l ih =>
    obtain ⟨h1, h2⟩ := List.pairwise_cons.1 h
    refine List.pairwise_append.2 ⟨?_, ih h2, fun a ha b hb => ?_⟩
    · refine List.Pairwise.imp_of_mem (R := fun _ _ => True) (fun {a b} ha hb _ => ?_) (List.pairwise_of_forall fun _ _ => trivial)
      rw [ltC_no, (kept_cause ha).1, (kept_cause hb).1]
      exact KeyLt.irrefl _
    · obtain ⟨y, hy, hb⟩ := List.mem_flatMap.1 hb
      rw [ltC_no, (kept_cause ha).1, (kept_cause hb).1]
      exact (h1 y hy).asymm
theorem gate_opened {l : List En} (h : l.Pairwise fun a b => KeyLt a.m.key b.m.key) (t : Int) : openR (gateE wd l) t = gateE wd (l.filter fun x => decide (x.m.key.T < t)) := by
  unfold openR
  rw [gate_open]
  exact stab_self (gate_asc (h.sublist List.filter_sublist))
theorem runE_up : ∀ {l : List Msg} {b : Int × Int}, Upk l → (runE wd f fd b l).Pairwise fun a b => KeyLt a.m.key b.m.key
  | [], _, _ => .nil
  | m :: l, b, h => by
    obtain ⟨h1, h2⟩ := List.pairwise_cons.1 h
    exact List.pairwise_cons.2 ⟨fun y hy => h1 _ (runE_mem hy).1, runE_up h2⟩
theorem runE_cut {p : Msg → Bool} {l : List Msg} {b : Int × Int} (h : l.Pairwise fun a b => p b = true → p a = true) :
    ((runE wd f fd b l).filter fun x => p x.m) = runE wd f fd b (l.filter p) ∧ ((runE wd f fd b l).filter fun x => !p x.m) = runE wd f fd (endE fd b (l.filter p)) (l.filter fun m => !p m) := by
  obtain ⟨n, _, h1, h2⟩ := cut_at h
  obtain ⟨e1, e2⟩ := cut_by h1 h2
  have hm := runE_map wd f fd l b
  have k1 : ∀ x ∈ (runE wd f fd b l).take n, p x.m = true := fun x hx => by
    rw [runE_take] at hx
    exact h1 _ (runE_mem hx).1
  have k2 : ∀ x ∈ (runE wd f fd b l).drop n, p x.m = false := fun x hx => by
    rw [runE_drop] at hx
    exact h2 _ (runE_mem hx).1
  obtain ⟨e3, e4⟩ := cut_by (p := fun x : En => p x.m) k1 k2
  rw [e3, e4, e1, e2]
  exact ⟨runE_take .., runE_drop ..⟩
theorem lows_cut {l : List Msg} (h : Upk l) (k : Key) : l.Pairwise fun a b => decide (KeyLt b.key k) = true → decide (KeyLt a.key k) = true :=
  h.imp fun {a b} hab hb => by
    rw [decide_eq_true_iff] at *
    exact hab.trans hb
theorem early_cut {l : List Msg} (h : Upk l) (t : Int) : l.Pairwise fun a b => decide (b.key.T < t) = true → decide (a.key.T < t) = true :=
  h.imp fun {a b} hab hb => by
    rw [decide_eq_true_iff] at *
    unfold KeyLt at hab
    omega
theorem keptE_len (h : WdOk wd) (hfd : wd.Feds[f]? = some fd) (b : Int × Int) (m : Msg) : (keptE wd (entB wd f fd b m)).length ≤ 24 := by
  have h1 := (ent_outs h hfd b m).1
  unfold keptE
  rw [List.length_map]
  exact Nat.le_trans (List.length_filter_le _ _) h1
theorem gate_app (a b : List En) : gateE wd (a ++ b) = gateE wd a ++ gateE wd b := List.flatMap_append
theorem gate_le (h : WdOk wd) (hfd : wd.Feds[f]? = some fd) : ∀ (l : List Msg) (b : Int × Int), (gateE wd (runE wd f fd b l)).length ≤ 24 * l.length
  | [], _ => Nat.le_refl _
  | m :: l, b => by
    have h1 := gate_le h hfd l (nextB fd b m)
    have h2 := keptE_len h hfd b m
    show (keptE wd (entB wd f fd b m) ++ gateE wd (runE wd f fd (nextB fd b m) l)).length ≤ _
    rw [List.length_append, List.length_cons]
    omega
end Go.Proofs.YtbopajpmadlmhaaGreat
end
section
namespace Go.Proofs.YtbopajpmadlmhaaGreat
open Go Go.E
set_option maxRecDepth 100000
variable {e w : World} {L Q R : List HP} {K : KV} {S S2 : HP}

abbrev DI (v : Value) (l : List NItem) : HP := ownS 43 8 NItem.cs v l
def wcs (X : WdX) (f st sent : Int) (q p g b : Nat) (lv : Value) : List Value := [X.pv, X.fv, .int .i64 X.End, .int .i64 f, .int .i64 st, .int .i64 sent, .pointer (some ⟨q, 0, none⟩), .pointer (some ⟨p, 0, none⟩), .pointer (some ⟨g, 0, none⟩), .map (some b), lv]
abbrev BW (n : Nat) (X : WdX) (f st sent : Int) (q p g b : Nat) (lv : Value) : HP := blk n 101 (wcs X f st sent q p g b lv)
theorem ens_rd {xs : List EnX} {x : EnX} (hx : x ∈ xs) : ∀ g, sepL (xs.map eOwn) g → rdS 6 Msg.cs x.ov x.outs g := fun g hg => by
  obtain ⟨j, hj⟩ := List.getElem?_of_mem hx
  obtain ⟨g', k1, k2⟩ := sepL_get (i := j) (P := eOwn x) hg (by rw [List.getElem?_map, hj]; rfl)
  exact rdS_up k2 (own_rd k1)
theorem bold_s {n : Nat} {X : WdX} {f st sent : Int} {q p g b : Nat} {lv : Value} {j : Int} (hj : 0 ≤ j ∧ j < X.Feds.length) (i i2 : Nat) (hi : L[i]? = some (BW n X f st sent q p g b lv)) (hi2 : L[i2]? = some (WdOwn X)) (hS : Sat e w L)
    (hk : K (.bool (boldB X.w j)) w) : Cl prog 58 #[.pointer (some ⟨n, 0, none⟩), .int .i64 j] w K := by
  refine warp_Node_bold_calls ?_
  unfold warp_Node_bold
  obtain ⟨m, rfl⟩ : ∃ m : Nat, j = m := ⟨j.toNat, by omega⟩
  obtain ⟨fd, hfd⟩ := get_of_lt (l := X.Feds) (j := m) (by omega)
  refine ncP_p (fld_at (fld_at (ld1_at hS i hi (v := X.fv) rfl ?_)))
  refine ixS_rd hS i2 hi2 (fun g hg => (wdOwn_rd hg).feds) (fun _ => rfl) hfd fun a ha => ?_
  refine fld_of ha fun a1 ha1 => ld1_of hS i2 hi2 ha1 (v := .int .i64 fd.Kind) rfl ?_
  refine eq_d ?_
  have e1 : boldB X.w m = decide (fd.Kind = 1) := by
    unfold boldB
    rw [if_pos (by omega), Int.toNat_natCast]
    simp only [WdX.w]
    rw [List.getElem?_map, hfd]
    rfl
  rw [e1] at hk
  exact hk
def undoB (b : Int × Int) (r : List En) : Int × Int := r.foldl (fun _ x => (x.ahead, x.sent)) b
def undoQ (but : Bool) (k : Key) (q : List Msg) (r : List En) : List Msg := r.foldl (fun q x => if (but && decide (x.m.key = k)) = true then q else pushQ q x.m) q
theorem undoB_snoc (b : Int × Int) (r : List En) (x : En) : undoB b (r ++ [x]) = (x.ahead, x.sent) := by unfold undoB; rw [List.foldl_append]; rfl
theorem undoQ_snoc (but : Bool) (k : Key) (q : List Msg) (r : List En) (x : En) : undoQ but k q (r ++ [x]) = if (but && decide (x.m.key = k)) = true then undoQ but k q r else pushQ (undoQ but k q r) x.m := by unfold undoQ; rw [List.foldl_append]; rfl
theorem filterA_snoc {α : Type} {p : α → Bool} {l : List α} {j : Nat} {x : α} (hx : l[j]? = some x) : (l.take (j + 1)).filter p = (l.take j).filter p ++ if p x then [x] else [] := by
  rw [take_snoc hx, List.filter_append, List.filter_cons, List.filter_nil]
theorem antiE_len (wd : Wd) (x : En) : (antiE wd x).length ≤ x.outs.length := by unfold antiE; rw [List.length_map]; exact List.length_filter_le _ _
theorem flat_le {α β : Type} (g : α → List β) (c : Nat) : ∀ l : List α, (∀ x ∈ l, (g x).length ≤ c) → (l.flatMap g).length ≤ c * l.length
  | [], _ => Nat.le_refl _
  | a :: l, h => by
    have h1 := flat_le g c l fun x hx => h x (List.mem_cons_of_mem _ hx)
    have h2 := h a (List.mem_cons_self ..)
    rw [List.flatMap_cons, List.length_append, List.length_cons, Nat.mul_add]
    omega

theorem undo_s {n f : Nat} {X : WdX} {st sent fl : Int} {q p g b : Nat} {lv : Value} {ql : List Msg} {l : List En} {gl : List Kept} {k : Key} {but : Bool} (hto : ∀ x ∈ l, ∀ m ∈ x.outs, 0 ≤ m.To ∧ m.To < X.Feds.length) (hgl : gl.length ≤ 1000000)
    (hS : Sat e w (BW n X f st sent q p g b lv :: IsQ q ql :: IsPast p fl l :: IsGate g fl gl :: WdOwn X :: Q))
    (hk : ∀ v w', Sat e w' (DI v (undoI X.w (goneL k l)) :: BW n X f (undoB (st, sent) (goneL k l).reverse).1 (undoB (st, sent) (goneL k l).reverse).2 q p g b lv :: IsQ q (undoQ but k ql (goneL k l).reverse) :: IsPast p fl (keepE k l) :: IsGate g fl (gl.filter fun x => !dropP k x) :: WdOwn X :: Q) → K v w') :
    Cl prog 102 #[.pointer (some ⟨n, 0, none⟩), .agg k.cs.toArray, .bool but] w K := by
  refine warp_Node_undo_calls ?_
  unfold warp_Node_undo
  have hpo : PastOk l := by
    obtain ⟨_, _, hp, _⟩ := past_of (hS.pick 2 rfl)
    exact hp.2
  refine al_s (cs := k.cs) hS rfl fun t4 w1 h1 => ?_
  refine dr_s h1 fun w2 h2 => ?_
  refine ncP_p (fld_at (ld1_at h2 1 rfl (v := .pointer (some ⟨p, 0, none⟩)) rfl ?_))
  refine ldN_at h2 0 (vs := k.cs) rfl (by rfl) rfl ?_
  refine past_Back_s (h2.pick 3 rfl) fun v w3 h3 => ?_
  obtain ⟨xs, hxs, h4⟩ := ens_of h3
  generalize hr : (goneL k l).reverse = r at hxs
  have hrm : ∀ x ∈ r, x ∈ l := fun x hx => by rw [← hr, List.mem_reverse] at hx; exact (List.mem_filter.1 hx).1
  have hrl : r.length ≤ 64 := by rw [← hr, List.length_reverse]; exact Nat.le_trans (List.length_filter_le _ _) hpo.len
  have hxl : xs.length = r.length := by rw [← hxs, List.length_map]
  have hgx : ∀ {j : Nat} {x : EnX}, xs[j]? = some x → r[j]? = some x.e := fun hx => by rw [← hxs, List.getElem?_map, hx]; rfl
  have hlen : ∀ j, ((r.take j).flatMap (antiE X.w)).length ≤ 64000 := fun j => by
    have h0 := flat_le (antiE X.w) 1000 (r.take j) fun x hx => Nat.le_trans (antiE_len X.w x) (hpo.outs x (hrm x (List.mem_of_mem_take hx)))
    have h1 : (r.take j).length ≤ 64 := by rw [List.length_take]; omega
    omega
  refine lnS_rd h4 0 rfl (fun g hg => own_rd hg) ?_
  rw [zero_113, zero_37]
  replace h4 : Sat e w3 (DE v xs :: sepL (xs.map eOwn) :: IsPast p fl (keepE k l) :: blk t4 35 k.cs :: BW n X f st sent q p g b lv :: IsQ q ql :: IsGate g fl gl :: WdOwn X :: Q) := h4
  refine lpi2 (fun mm t7 t19 w => ∃ j : Nat, j ≤ r.length ∧ t19 = .int .i64 j ∧ mm = r.length - j ∧ Sat e w (DI t7 ((r.take j).flatMap (antiE X.w)) :: BW n X f (undoB (st, sent) (r.take j)).1 (undoB (st, sent) (r.take j)).2 q p g b lv :: IsQ q (undoQ but k ql (r.take j)) :: DE v xs :: sepL (xs.map eOwn) :: IsPast p fl (keepE k l) :: IsGate g fl gl :: WdOwn X :: blk t4 35 k.cs :: Q)) r.length
    ⟨0, Nat.zero_le _, rfl, rfl, ?_⟩ ?_
  · have h5 := h4.own_nil 43 8 NItem.cs
    exact h5.selR [_, _, _, _, _, _, _, _, _] [_, _, _, _, _, _, _, _, _] [0, 5, 6, 1, 2, 3, 7, 8, 4] (by decide) rfl
  rintro mm t7 _ w g1 ⟨j, hj, rfl, rfl, h5⟩ hg1
  rw [hxl]
  refine lt_c (fun c => iff_t ?_) (fun c => iff_f ?_)
  · obtain ⟨x, hx⟩ := get_of_lt (l := xs) (j := j) (by omega)
    have hxm := List.mem_of_getElem? hx
    have hxe := hgx hx
    have hxl' := hrm x.e (List.mem_of_getElem? hxe)
    have hol : x.outs.length ≤ 1000 := hpo.outs x.e hxl'
    have hxt : ∀ m ∈ x.outs, 0 ≤ m.To ∧ m.To < X.Feds.length := hto x.e hxl'
    have hts := take_snoc hxe
    refine ixS_rd h5 3 rfl (fun g hg => own_rd hg) (fun _ => rfl) hx fun a ha => ldN_of h5 3 rfl ha rfl ?_
    refine al_s (cs := EnX.zero.cs) h5 rfl fun t9 w6 h6 => ?_
    refine stN_at h6 0 rfl (vs := x.cs) rfl rfl (by simp [EnX.zero, EnX.cs]) (EnX.flat (en_flat 5 h6 rfl hxm)) (cs' := x.cs) (by rfl) fun w7 h7 => ?_
    refine dr_s h7 fun w8 h8 => ?_
    refine fld_at (ld1_at h8 0 rfl (v := .int .i64 x.ahead) rfl (fld_at (ld1_at h8 0 rfl (v := .int .i64 x.sent) rfl ?_)))
    refine ncP_p (fld_at (stN_at h8 2 rfl (vs := ints [x.ahead]) rfl rfl (Nat.le_of_ble_eq_true rfl) (ints_flat _) (cs' := wcs X f x.ahead (undoB (st, sent) (r.take j)).2 q p g b lv) (by rfl) fun w9 h9 => ?_))
    refine ⟨ld1_at h9 0 rfl (v := .int .i64 x.sent) rfl ⟨rfl, rfl⟩, ?_⟩
    refine ncP_p (fld_at (stN_at h9 2 rfl (vs := ints [x.sent]) rfl rfl (Nat.le_of_ble_eq_true rfl) (ints_flat _) (cs' := wcs X f x.ahead x.sent q p g b lv) (by rfl) fun w10 h10 => ?_))
    replace h10 : Sat e w10 (blk t9 113 x.cs :: DI t7 ((r.take j).flatMap (antiE X.w)) :: BW n X f x.ahead x.sent q p g b lv :: IsQ q (undoQ but k ql (r.take j)) :: DE v xs :: sepL (xs.map eOwn) :: IsPast p fl (keepE k l) :: IsGate g fl gl :: WdOwn X :: blk t4 35 k.cs :: Q) := h10
    have key : ∀ (t41 : Bool) (w' : World), t41 = !(but && decide (x.m.key = k)) → Sat e w' (blk t9 113 x.cs :: DI t7 ((r.take j).flatMap (antiE X.w)) :: BW n X f x.ahead x.sent q p g b lv :: IsQ q (undoQ but k ql (r.take j)) :: DE v xs :: sepL (xs.map eOwn) :: IsPast p fl (keepE k l) :: IsGate g fl gl :: WdOwn X :: blk t4 35 k.cs :: Q) →
        J0 (fun w => fld 9 (.pointer (some ⟨t9, 0, none⟩)) w fun t49 w => ld1 t49 w fun t50 w => lnS t50 w fun t51 w => lp [t7, (Value.int IntKind.i64 0)] w (b2 fun t7_1 t52 w g3 => bi .lss .i64 t52 t51 w fun t53 w => iff' t53
          (J1 (fun t7_2 w => bi .add .i64 t52 (Value.int IntKind.i64 1) w fun t65 w => g3 [t7_2, t65] w) fun k4 => ixS 6 t50 t52 w fun t54 w => ldN 6 t54 w fun t55 w => al Msg.zero.cs.toArray 37 w fun t11 w => stN 6 t11 t55 w fun _ w => fld 3 t11 w fun t57 w => ld1 t57 w fun t58 w =>
            Cl prog 58 #[.pointer (some ⟨n, 0, none⟩), t58] w fun t59 w => iff' t59
            (ldN 6 t11 w fun t61 w => bld (zeroD prog 43) #[(0, 1), (1, 6), (7, 1)] [(0, (Value.int IntKind.i64 1)), (1, t61)] w fun t62 w => bsl 43 8 1 (zeroD prog 43) [(0, t62)] w fun t63 w => apS prog #[39, 39] 39 t7_1 t63 w fun t64 w => k4 t64 w)
            (k4 t7_1 w))
          (bi .add .i64 (.int .i64 j) (Value.int IntKind.i64 1) w fun t66 w => g1 [t7_1, t66] w))) fun k2 =>
        iff' (.bool t41) (dr w' fun w => ncP (.pointer (some ⟨n, 0, none⟩)) <| fld 6 (.pointer (some ⟨n, 0, none⟩)) w fun t44 _ => ld1 t44 w fun t45 _ => fld 0 (.pointer (some ⟨t9, 0, none⟩)) w fun t46 _ => ldN 6 t46 w fun t47 _ => Cl prog 103 #[t45, t47] w fun _ w => k2 w) (k2 w') := by
      intro t41 w' ht h11
      refine J0.cut (fun w => Sat e w (blk t9 113 x.cs :: DI t7 ((r.take j).flatMap (antiE X.w)) :: BW n X f x.ahead x.sent q p g b lv :: IsQ q (undoQ but k ql (r.take (j + 1))) :: DE v xs :: sepL (xs.map eOwn) :: IsPast p fl (keepE k l) :: IsGate g fl gl :: WdOwn X :: blk t4 35 k.cs :: Q)) (fun k2 hcut => ?_) ?_
      · rw [hts, undoQ_snoc] at hcut
        cases t41 with
        | false =>
          have hb : (but && decide (x.e.m.key = k)) = true := by
            cases hb : (but && decide (x.e.m.key = k)) with
            | true => rfl
            | false => rw [show x.m = x.e.m from rfl, hb] at ht; cases ht
          rw [if_pos hb] at hcut
          exact iff_f (hcut _ h11)
        | true =>
          have hb : (but && decide (x.e.m.key = k)) = false := by
            cases hb : (but && decide (x.e.m.key = k)) with
            | false => rfl
            | true => rw [show x.m = x.e.m from rfl, hb] at ht; cases ht
          rw [if_neg (by rw [hb]; decide)] at hcut
          refine iff_t (dr_s h11 fun w12 h12 => ?_)
          refine ncP_p (fld_at (ld1_at h12 2 rfl (v := .pointer (some ⟨q, 0, none⟩)) rfl ?_))
          refine fld_at (ldN_at h12 0 (vs := x.m.cs) rfl (by rfl) rfl ?_)
          refine q_Push_s (x := x.m) (h12.pick 3 rfl) fun w13 h13 => ?_
          exact hcut _ (h13.selR [_, _, _, _, _, _, _, _, _, _] [_, _, _, _, _, _, _, _, _, _] [1, 2, 3, 0, 4, 5, 6, 7, 8, 9] (by decide) rfl)
      · intro w12 h12
        refine fld_at (ld1_at h12 0 rfl (v := x.ov) rfl ?_)
        refine lnS_rd h12 5 rfl (ens_rd hxm) ?_
        refine lpi2 (fun mm t7' t52 w => ∃ i : Nat, i ≤ x.outs.length ∧ t52 = .int .i64 i ∧ mm = x.outs.length - i ∧ Sat e w (DI t7' ((r.take j).flatMap (antiE X.w) ++ ((x.outs.take i).filter fun m => boldB X.w m.To).map antiI) :: blk t9 113 x.cs :: BW n X f x.ahead x.sent q p g b lv :: IsQ q (undoQ but k ql (r.take (j + 1))) :: DE v xs :: sepL (xs.map eOwn) :: IsPast p fl (keepE k l) :: IsGate g fl gl :: WdOwn X :: blk t4 35 k.cs :: Q)) x.outs.length
          ⟨0, Nat.zero_le _, rfl, rfl, ?_⟩ ?_
        · rw [List.take_zero, List.filter_nil, List.map_nil, List.append_nil]
          exact h12.swap
        rintro mm t7' _ w g3 ⟨i, hi, rfl, rfl, h13⟩ hg3
        refine lt_c (fun c2 => iff_t ?_) (fun c2 => iff_f ?_)
        · obtain ⟨m, hm⟩ := get_of_lt (l := x.outs) (j := i) (by omega)
          have hmt := hxt m (List.mem_of_getElem? hm)
          have hfs := filterA_snoc (p := fun m => boldB X.w m.To) hm
          refine J1.cut (fun t7'' w => Sat e w (DI t7'' ((r.take j).flatMap (antiE X.w) ++ ((x.outs.take (i + 1)).filter fun m => boldB X.w m.To).map antiI) :: blk t9 113 x.cs :: BW n X f x.ahead x.sent q p g b lv :: IsQ q (undoQ but k ql (r.take (j + 1))) :: DE v xs :: sepL (xs.map eOwn) :: IsPast p fl (keepE k l) :: IsGate g fl gl :: WdOwn X :: blk t4 35 k.cs :: Q)) (fun k4 hcut => ?_) ?_
          · refine ixS_rd h13 5 rfl (ens_rd hxm) (fun _ => rfl) hm fun a ha => ldN_of h13 5 rfl ha rfl ?_
            refine al_s (cs := Msg.zero.cs) h13 rfl fun t11 w14 h14 => ?_
            refine stN_at h14 0 rfl (vs := m.cs) rfl rfl (by decide) (ints_flat _) (cs' := m.cs) (by rfl) fun w15 h15 => ?_
            refine fld_at (ld1_at h15 0 rfl (v := .int .i64 m.To) rfl ?_)
            refine bold_s hmt 3 9 rfl rfl h15 ?_
            cases hb : boldB X.w m.To with
            | false =>
              refine iff_f (hcut _ _ ?_)
              rw [hfs, hb]
              simp only [Bool.false_eq_true, if_false, List.append_nil]
              exact h15.drop
            | true =>
              refine iff_t (ldN_at h15 0 (vs := m.cs) rfl (by rfl) rfl ?_)
              refine bld_s (antiI m).cs (by kernel_rfl) ?_
              refine push1 te_39 (f := NItem.cs) (fun _ => rfl) (fun _ => ints_flat _) (h15.pick 1 rfl) (x := antiI m) rfl ?_ fun v' w16 h16 => ?_
              · have h0 := hlen j
                have h2 := List.length_filter_le (fun m => boldB X.w m.To) (x.outs.take i)
                rw [List.length_take] at h2
                rw [List.length_append, List.length_map]
                omega
              · refine hcut _ _ ?_
                rw [hfs, hb]
                simp only [if_true, List.map_append, List.map_singleton]
                rw [← List.append_assoc]
                exact h16.selR [_, _, _, _, _, _, _, _, _, _, _] [_, _, _, _, _, _, _, _, _, _] [0, 2, 3, 4, 5, 6, 7, 8, 9, 10] (by decide) rfl
          · intro t7'' w14 h14
            refine inc_s (by omega) ?_
            exact hg3 _ _ _ _ (by omega) ⟨i + 1, by omega, rfl, rfl, h14⟩
        · have ei : i = x.outs.length := by omega
          rw [ei, List.take_length] at h13
          refine inc_s (by omega) ?_
          refine hg1 _ _ _ _ (by omega) ⟨j + 1, by omega, rfl, rfl, ?_⟩
          rw [hts, undoB_snoc, List.flatMap_append, List.flatMap_singleton]
          rw [hts] at h13
          exact h13.selR [_, _, _, _, _, _, _, _, _, _] [_, _, _, _, _, _, _, _, _] [0, 2, 3, 4, 5, 6, 7, 8, 9] (by decide) rfl
    cases but with
    | false =>
      refine not_f ?_
      refine gd_tf (gd_tf (gd_tf (gd_tf (gd_tf (pk_t ?_)))))
      exact key true w10 rfl h10
    | true =>
      refine not_t ?_
      refine gd_ff (fld_at (gd_ff (fld_at (gd_ff (ldN_at h10 0 (vs := x.m.key.cs) rfl (by rfl) rfl (gd_ff (ldN_at h10 9 (vs := k.cs) rfl (by rfl) rfl (gd_ff ?_))))))))
      refine bO_ne (ns := x.m.key.ns) (ms := k.ns) eqT_35 agg_35 egt_35 (by decide) rfl ?_
      rw [Key.eq_ns]
      refine pk_f ?_
      exact key _ w10 rfl h10
  · have ej : j = r.length := by omega
    rw [ej, List.take_length] at h5
    refine dr_s h5 fun w6 h6 => ?_
    refine ncP_p (fld_at (ld1_at h6 1 rfl (v := .pointer (some ⟨g, 0, none⟩)) rfl ?_))
    refine ldN_at h6 8 (vs := k.cs) rfl (by rfl) rfl ?_
    refine gate_Drop_s k (h6.pick 6 rfl) hgl fun v8 w8 h8 => ?_
    subst hr
    exact hk _ _ (h8.selR [_, _, _, _, _, _, _, _, _, _] [_, _, _, _, _, _] [2, 3, 4, 7, 1, 8] (by decide) rfl)
end Go.Proofs.YtbopajpmadlmhaaGreat
end
section
namespace Go.Proofs.YtbopajpmadlmhaaGreat
open Go Go.E
set_option maxRecDepth 100000
variable {e w : World} {L Q R : List HP} {K : KV} {S S2 : HP}

section
variable {wd : Wd} {f : Nat} {fd : Fed} {N : WN} {k : Nat}
theorem undoB_run (b : Int × Int) (l : List Msg) : undoB (endE fd b l) (runE wd f fd b l).reverse = b := by
  cases l with
  | nil => rfl
  | cons m l =>
    show undoB _ (entB wd f fd b m :: runE wd f fd (nextB fd b m) l).reverse = b
    rw [List.reverse_cons, undoB_snoc]
    rfl
theorem pushQ_low {m : Msg} {q : List Msg} (h : ∀ y ∈ q, KeyLt m.key y.key) (hl : q.length < 64) : pushQ q m = m :: q := by
  unfold pushQ
  have hne : ∀ y ∈ q, y.key ≠ m.key := fun y hy he => KeyLt.irrefl m.key (by have := h y hy; rwa [he] at this)
  have he : pushE 64 q m = 0 := by rw [pushE_out hne, if_neg (by omega)]
  rw [if_pos he, insK_low h]
theorem undoQ_all {k : Key} (q : List Msg) : ∀ (l : List Msg) (b : Int × Int), Upk (l ++ q) → l.length + q.length ≤ 64 → (but : Bool) → (but = true → ∀ m ∈ l, m.key ≠ k) → undoQ but k q (runE wd f fd b l).reverse = l ++ q
  | [], _, _, _, _, _ => rfl
  | m :: l, b, hu, hl, but, hn => by
    show undoQ but k q (entB wd f fd b m :: runE wd f fd (nextB fd b m) l).reverse = _
    obtain ⟨h1, h2⟩ := List.pairwise_cons.1 hu
    rw [List.length_cons] at hl
    have hb : (but && decide ((entB wd f fd b m).m.key = k)) = false := by
      show (but && decide (m.key = k)) = false
      cases but with
      | false => rfl
      | true => rw [decide_eq_false (hn rfl m (List.mem_cons_self ..))]; rfl
    rw [List.reverse_cons, undoQ_snoc, if_neg (by rw [hb]; decide), undoQ_all q l _ h2 (by omega) but fun h y hy => hn h y (List.mem_cons_of_mem _ hy)]
    exact pushQ_low h1 (by rw [List.length_append]; omega)
theorem goneL_past (h : WOk wd f fd N k) (key : Key) : goneL key (N.past wd f fd) = goneE wd f fd N key := (runE_cut (lows_cut h.ups key)).2
theorem keepE_past (h : WOk wd f fd N k) (key : Key) : keepE key (N.past wd f fd) = runE wd f fd (N.base fd) (lowsM key N.ms) := (runE_cut (lows_cut h.ups key)).1
theorem now_cut (h : WOk wd f fd N k) (key : Key) : N.now fd = endE fd (endE fd (N.base fd) (lowsM key N.ms)) (highsM key N.ms) := by
  rw [← endE_app, lows_highs h.ups]
  rfl
theorem undoB_now (h : WOk wd f fd N k) (key : Key) : undoB (N.now fd) (goneE wd f fd N key).reverse = endE fd (N.base fd) (lowsM key N.ms) := by
  rw [now_cut h key]
  exact undoB_run _ _
theorem highs_line (h : WOk wd f fd N k) (key : Key) : Upk (highsM key N.ms ++ N.q) := by
  have := h.line
  rw [← lows_highs h.ups key, List.append_assoc] at this
  exact this.right
theorem undoQ_plain (h : WOk wd f fd N k) (key : Key) (hl : N.q.length + (highsM key N.ms).length ≤ 64) : undoQ false key N.q (goneE wd f fd N key).reverse = highsM key N.ms ++ N.q :=
  undoQ_all N.q _ _ (highs_line h key) (by omega) false fun h => by cases h
theorem undoQ_anti (h : WOk wd f fd N k) (key : Key) (hd : hasK key N.ms = true) (hl : N.q.length + (highsM key N.ms).length ≤ 65) : undoQ true key N.q (goneE wd f fd N key).reverse = without (highsM key N.ms ++ N.q) key := by
  obtain ⟨x, hx1, hx2⟩ := hasK_iff.1 hd
  have hin : x ∈ highsM key N.ms := highs_mem.2 ⟨hx1, fun hl => KeyLt.irrefl _ (by rwa [hx2] at hl)⟩
  have hu := highs_line h key
  unfold goneE
  have hhi : ∀ y ∈ highsM key N.ms, ¬ KeyLt y.key key := fun y hy => (highs_mem.1 hy).2
  cases hh : highsM key N.ms with
  | nil => rw [hh] at hin; cases hin
  | cons m l =>
    rw [hh] at hin hu hl hhi
    rw [List.length_cons] at hl
    obtain ⟨h1, h2⟩ := List.pairwise_cons.1 (show Upk (m :: (l ++ N.q)) from hu)
    have hm : m.key = key := by
      rcases List.mem_cons.1 hin with rfl | hin
      · exact hx2
      · have := h1 x (List.mem_append_left _ hin)
        rw [hx2] at this
        exact absurd this (hhi m (List.mem_cons_self ..))
    have hne : ∀ y ∈ l ++ N.q, y.key ≠ key := fun y hy he => by
      have := h1 y hy
      rw [he, hm] at this
      exact KeyLt.irrefl _ this
    show undoQ true key N.q (entB wd f fd _ m :: runE wd f fd _ l).reverse = _
    rw [List.reverse_cons, undoQ_snoc, if_pos (show (true && decide ((entB wd f fd (endE fd (N.base fd) (lowsM key N.ms)) m).m.key = key)) = true from (show (true && decide (m.key = key)) = true by rw [decide_eq_true hm]; rfl)), undoQ_all N.q l _ h2 (by omega) true fun _ y hy => hne y (List.mem_append_left _ hy)]
    rw [List.cons_append, show m :: (l ++ N.q) = [m] ++ (l ++ N.q) from rfl, without_app, without_none hne]
    unfold without
    rw [List.filter_cons, if_neg (by rw [decide_eq_true hm]; decide), List.filter_nil]
    rfl
theorem gate_undone (h : WOk wd f fd N k) (key : Key) : ((gateE wd (N.past wd f fd)).filter fun x => !dropP key x) = gateE wd (runE wd f fd (N.base fd) (lowsM key N.ms)) := by
  rw [gate_drop]
  exact congrArg (gateE wd) (keepE_past h key)
end

def clkAt (l : List Int) (j : Int) : Int := if 0 ≤ j then l.getD j.toNat (-1) else -1
structure ClkM (l : List Int) (m : List (Int × Int)) : Prop where
  u : Uniq m
  lk : ∀ j, lkA m j = if 0 ≤ clkAt l j then some (clkAt l j) else none
  len : m.length ≤ 1000
theorem ClkM.up {l : List Int} {m : List (Int × Int)} (h : ClkM l m) {j t : Int} (hj : 0 ≤ clkAt l j) (ht : 0 ≤ t) : ClkM (l.set j.toNat t) (upA m j t) := by
  have h0 : 0 ≤ j := by
    unfold clkAt at hj
    split at hj
    · assumption
    · omega
  have hl : j.toNat < l.length := by
    unfold clkAt at hj
    rw [if_pos h0, List.getD_eq_getElem?_getD] at hj
    rcases Nat.lt_or_ge j.toNat l.length with h | h
    · exact h
    · rw [List.getElem?_eq_none h] at hj
      simp at hj
  refine ⟨h.u.up j t, fun i => ?_, ?_⟩
  · rw [lkA_up h.u]
    by_cases hij : i = j
    · subst hij
      have e1 : clkAt (l.set i.toNat t) i = t := by unfold clkAt; rw [if_pos h0, List.getD_eq_getElem?_getD, List.getElem?_set_self hl]; rfl
      rw [if_pos rfl, e1, if_pos ht]
    · rw [if_neg hij, h.lk i]
      have e1 : clkAt (l.set j.toNat t) i = clkAt l i := by
        unfold clkAt
        by_cases hi : 0 ≤ i
        · rw [if_pos hi, if_pos hi, List.getD_eq_getElem?_getD, List.getD_eq_getElem?_getD, List.getElem?_set_ne (by omega)]
        · rw [if_neg hi, if_neg hi]
      rw [e1]
  · have hs : (lkA m j).isSome = true := by rw [h.lk j, if_pos hj]; rfl
    unfold upA
    rw [if_pos hs, List.length_map]
    exact h.len
structure WV where
  X : WdX
  q : Nat
  p : Nat
  g : Nat
  b : Nat
  m : List (Int × Int)
  lv : Value
abbrev DD (v : Value) (l : List Done) : HP := ownS 45 7 Done.cs v l
structure WFits (X : WdX) (wd : Wd) (f : Nat) (fd : Fed) (N : WN) (k : Nat) (m : List (Int × Int)) : Prop where
  eq : X.w = wd
  short : X.short
  ok : WOk wd f fd N k
  map : ClkM N.clk m
abbrev WParts (n : Nat) (X : WdX) (wd : Wd) (f : Nat) (fd : Fed) (N : WN) (q p g b : Nat) (m : List (Int × Int)) (lv : Value) : List HP :=
  [BW n X f (N.now fd).1 (N.now fd).2 q p g b lv, IsQ q N.q, IsPast p N.fl (N.past wd f fd), IsGate g N.fl (gateE wd (N.past wd f fd)), WdOwn X, isMap kI kI b m, DD lv (N.log wd f fd)]
def IsWarp (n : Nat) (wd : Wd) (f : Nat) (fd : Fed) (N : WN) (k : Nat) : HP := hex fun v : WV => sepL (pur (WFits v.X wd f fd N k v.m) :: WParts n v.X wd f fd N v.q v.p v.g v.b v.m v.lv)
variable {n f k : Nat} {wd : Wd} {fd : Fed} {N : WN}
theorem warp_of (h : Sat e w (IsWarp n wd f fd N k :: Q)) : ∃ X q p g b m lv, WFits X wd f fd N k m ∧ Sat e w (BW n X f (N.now fd).1 (N.now fd).2 q p g b lv :: IsQ q N.q :: IsPast p N.fl (N.past wd f fd) :: IsGate g N.fl (gateE wd (N.past wd f fd)) :: WdOwn X :: isMap kI kI b m :: DD lv (N.log wd f fd) :: Q) := by
  obtain ⟨v, h0⟩ := h.ex
  exact ⟨v.X, v.q, v.p, v.g, v.b, v.m, v.lv, Sat.pure h0.split⟩
theorem warp_mk {X : WdX} {q p g b : Nat} {m : List (Int × Int)} {lv : Value} (hp : WFits X wd f fd N k m) (h : Sat e w (BW n X f (N.now fd).1 (N.now fd).2 q p g b lv :: IsQ q N.q :: IsPast p N.fl (N.past wd f fd) :: IsGate g N.fl (gateE wd (N.past wd f fd)) :: WdOwn X :: isMap kI kI b m :: DD lv (N.log wd f fd) :: Q)) : Sat e w (IsWarp n wd f fd N k :: Q) :=
  .mk_ex ⟨X, q, p, g, b, m, lv⟩ (.join (l' := [_, _, _, _, _, _, _, _]) (.mk_pure hp h))
theorem warp_ok (i : Nat) (h : Sat e w L) (hi : L[i]? = some (IsWarp n wd f fd N k)) : WOk wd f fd N k := by
  obtain ⟨X, q, p, g, b, m, lv, hX, _⟩ := warp_of (h.pick i hi)
  exact hX.ok
theorem WFits.len {X : WdX} {m : List (Int × Int)} (h : WFits X wd f fd N k m) : X.Feds.length = wd.Feds.length := by rw [← h.eq]; simp [WdX.w]
theorem WFits.fed {X : WdX} {m : List (Int × Int)} (h : WFits X wd f fd N k m) : ∃ fx : FedX, X.Feds[f]? = some fx ∧ fx.f = fd := by
  have h1 := h.ok.hfd
  rw [← h.eq] at h1
  simp only [WdX.w] at h1
  rw [List.getElem?_map] at h1
  exact Option.map_eq_some_iff.1 h1

theorem warp_Floor_s (hS : Sat e w (IsWarp n wd f fd N k :: Q)) (hk : K (.int .i64 N.fl) w) : Cl prog 19 #[.pointer (some ⟨n, 0, none⟩)] w K := by
  refine warp_Node_Floor_calls ?_
  unfold warp_Node_Floor
  obtain ⟨X, q, p, g, b, m, lv, hX, h1⟩ := warp_of hS
  refine ncP_p (fld_at (ld1_at h1 0 rfl (v := .pointer (some ⟨p, 0, none⟩)) rfl ?_))
  exact past_Floor_s (h1.pick 2 rfl) hk
theorem warp_Ahead_s (hS : Sat e w (IsWarp n wd f fd N k :: Q)) (hk : K (.int .i64 (N.ms.length : Int)) w) : Cl prog 16 #[.pointer (some ⟨n, 0, none⟩)] w K := by
  refine warp_Node_Ahead_calls ?_
  unfold warp_Node_Ahead
  obtain ⟨X, q, p, g, b, m, lv, hX, h1⟩ := warp_of hS
  refine ncP_p (fld_at (ld1_at h1 0 rfl (v := .pointer (some ⟨p, 0, none⟩)) rfl ?_))
  refine past_Len_s (h1.pick 2 rfl) ?_
  rw [show (N.past wd f fd).length = N.ms.length from runE_len ..]
  exact hk
theorem warp_State_s (hS : Sat e w (IsWarp n wd f fd N k :: Q)) (hk : K (.int .i64 (N.now fd).1) w) : Cl prog 18 #[.pointer (some ⟨n, 0, none⟩)] w K := by
  refine warp_Node_State_calls ?_
  unfold warp_Node_State
  obtain ⟨X, q, p, g, b, m, lv, hX, h1⟩ := warp_of hS
  exact ncP_p (fld_at (ld1_at h1 0 rfl (v := .int .i64 (N.now fd).1) rfl hk))
theorem warp_Waiting_s (hS : Sat e w (IsWarp n wd f fd N k :: Q)) (hk : ∀ v w', Sat e w' (ownS 37 6 Msg.cs v N.q :: IsWarp n wd f fd N k :: Q) → K v w') : Cl prog 17 #[.pointer (some ⟨n, 0, none⟩)] w K := by
  refine warp_Node_Waiting_calls ?_
  unfold warp_Node_Waiting
  obtain ⟨X, q, p, g, b, m, lv, hX, h1⟩ := warp_of hS
  refine ncP_p (fld_at (ld1_at h1 0 rfl (v := .pointer (some ⟨q, 0, none⟩)) rfl ?_))
  refine q_List_s (h1.pick 1 rfl) fun v w3 h3 => ?_
  have h4 := warp_mk hX (h3.selR [_, _, _, _, _, _, _, _] [_, _, _, _, _, _, _, _] [2, 1, 3, 4, 5, 6, 7, 0] (by decide) rfl)
  exact hk _ _ h4.swap
theorem warp_Log_s (hk0 : k ≤ 1000) (hS : Sat e w (IsWarp n wd f fd N k :: Q)) (hk : ∀ v w', Sat e w' (DD v (N.log wd f fd) :: IsWarp n wd f fd N k :: Q) → K v w') : Cl prog 28 #[.pointer (some ⟨n, 0, none⟩)] w K := by
  refine warp_Node_Log_calls ?_
  unfold warp_Node_Log
  obtain ⟨X, q, p, g, b, m, lv, hX, h1⟩ := warp_of hS
  have hl : (N.log wd f fd).length ≤ k := by
    have := hX.ok.cnt
    unfold WN.log
    rw [List.length_map, runE_len]
    omega
  refine ncP_p (fld_at (ld1_at h1 0 rfl (v := lv) rfl ?_))
  refine clone_dones_i (l := N.log wd f fd) 6 rfl (by omega) (fun _ _ => ints_flat _) h1 (fun g hg => own_rd hg) fun v w3 h3 => ?_
  have h4 := warp_mk hX (h3.selR [_, _, _, _, _, _, _, _] [_, _, _, _, _, _, _, _] [1, 2, 3, 4, 5, 6, 7, 0] (by decide) rfl)
  exact hk _ _ h4.swap
theorem warp_Promise_s (hS : Sat e w (IsWarp n wd f fd N k :: Q)) (hk : ∀ w', Sat e w' (IsWarp n wd f fd N k :: Q) → K (.int .i64 (promiseW fd N)) w') : Cl prog 27 #[.pointer (some ⟨n, 0, none⟩)] w K := by
  refine warp_Node_Promise_calls ?_
  unfold warp_Node_Promise
  refine dr_s hS fun w1 h0 => ?_
  obtain ⟨X, q, p, g, b, m, lv, hX, h1⟩ := warp_of h0
  obtain ⟨fx, hfx, rfl⟩ := hX.fed
  refine ncP_p (fld_at (ld1_at h1 0 rfl (v := .pointer (some ⟨p, 0, none⟩)) rfl ?_))
  refine ncP_p (fld_at (fld_at (ld1_at h1 0 rfl (v := X.fv) rfl ?_)))
  refine ncP_p (fld_at (ld1_at h1 0 rfl (v := .int .i64 f) rfl ?_))
  refine ixS_rd h1 4 rfl (fun g hg => (wdOwn_rd hg).feds) (fun _ => rfl) hfx fun a ha => ?_
  refine fld_of ha fun a1 ha1 => ld1_of h1 4 rfl ha1 (v := .int .i64 fx.Look) rfl ?_
  refine past_Floor_s (h1.pick 2 rfl) ?_
  refine ⟨ld1_of h1 4 rfl ha1 (v := .int .i64 fx.Look) rfl ⟨rfl, rfl⟩, ld1_at h1 0 rfl (v := .int .i64 f) rfl ⟨rfl, rfl⟩, ld1_at h1 0 rfl (v := X.fv) rfl ⟨rfl, rfl⟩, ?_⟩
  refine vtime_Add_s ?_
  exact hk _ (warp_mk hX h1)
end Go.Proofs.YtbopajpmadlmhaaGreat
end
section
namespace Go.Proofs.YtbopajpmadlmhaaGreat
open Go Go.E
set_option maxRecDepth 100000
variable {e w : World} {L Q R : List HP} {K : KV} {S S2 : HP}

theorem containsM_s {v fv : Value} {l : List Msg} {p : Msg → Bool} (i : Nat) (hi : L[i]? = some S) (hS : Sat e w L) (hr : ∀ g, S g → rdS 6 Msg.cs v l g) (hl : l.length ≤ 1000000)
    (hp : ∀ o ∈ l, ∀ (w : World) (K : KV), Sat e w L → (∀ w', Sat e w' L → K (.bool (p o)) w') → clV prog fv #[.agg o.cs.toArray] w K)
    (hk : ∀ w', Sat e w' L → K (.bool (l.any p)) w') : Cl prog 144 #[v, fv] w K := by
  refine slices_ContainsFunc_api_Msg_api_Msg_calls ?_
  unfold slices_ContainsFunc_api_Msg_api_Msg
  refine slices_IndexFunc_api_Msg_api_Msg_calls ?_
  unfold slices_IndexFunc_api_Msg_api_Msg
  refine lnS_rd hS i hi hr ?_
  refine lpi1 (fun q t8 w => ∃ j : Nat, j ≤ l.length ∧ t8 = .int .i64 j ∧ q = l.length - j ∧ (∀ o ∈ l.take j, p o = false) ∧ Sat e w L) l.length ⟨0, Nat.zero_le _, rfl, rfl, by simp, hS⟩ ?_
  rintro q _ w g ⟨j, hj, rfl, rfl, hno, h1⟩ hg
  refine lt_c (fun c => iff_t ?_) (fun c => iff_f ?_)
  · obtain ⟨o, ho⟩ := get_of_lt (l := l) (j := j) (by omega)
    refine ixS_rd h1 i hi hr (fun _ => rfl) ho fun a ha => ?_
    refine ldN_of h1 i hi ha rfl ?_
    refine hp o (List.mem_of_getElem? ho) _ _ h1 fun w2 h2 => ?_
    cases hb : p o with
    | true =>
      have := hk _ h2
      rw [List.any_eq_true.2 ⟨o, List.mem_of_getElem? ho, hb⟩] at this
      exact iff_t (ge_t (by omega) this)
    | false =>
      refine iff_f (inc_s (by omega) ?_)
      refine hg _ _ _ (by omega) ⟨j + 1, by omega, rfl, rfl, fun y hy => ?_, h2⟩
      rw [take_snoc ho] at hy
      rcases List.mem_append.1 hy with h | h
      · exact hno y h
      · rw [List.mem_singleton.1 h]; exact hb
  · have ej : j = l.length := by omega
    rw [ej, List.take_length] at hno
    have := hk _ h1
    rw [List.any_eq_false.2 fun x hx => by rw [hno x hx]; decide] at this
    exact ge_f (by omega) this

variable {n f k : Nat} {wd : Wd} {fd : Fed} {N : WN}
theorem highs_len (key : Key) : ∀ l : List Msg, ((l.map Msg.key).filter fun y => decide (0 ≤ cmpK y key)).length = (highsM key l).length
  | [] => rfl
  | m :: l => by
    unfold highsM
    rw [List.map_cons, List.filter_cons, List.filter_cons]
    have h1 := highs_len key l
    unfold highsM at h1
    by_cases h : KeyLt m.key key
    · rw [decide_eq_true h, decide_eq_false (by have := cmpK_lt.2 h; omega), if_neg (by decide), if_neg (by decide), h1]
    · rw [decide_eq_false h, decide_eq_true (by have := mt cmpK_lt.1 h; omega), if_pos rfl, if_pos (by decide), List.length_cons, List.length_cons, h1]
theorem hasK_map (key : Key) (l : List Msg) : ((l.map Msg.key).any fun y => decide (y = key)) = hasK key l := by unfold hasK; rw [List.any_map]; rfl
theorem past_keys : (N.past wd f fd).map (fun x => x.m.key) = N.ms.map Msg.key := by
  rw [show (fun x : En => x.m.key) = Msg.key ∘ En.m from rfl, ← List.map_map]
  exact congrArg (List.map Msg.key) (runE_map wd f fd N.ms (N.base fd))
def earlyB (N : WN) (j : Int) (key : Key) : Prop := key.T < N.fl ∨ (0 ≤ N.at' j ∧ key.T < N.at' j)
instance (N : WN) (j : Int) (key : Key) : Decidable (earlyB N j key) := by unfold earlyB; infer_instance
theorem clk_lk {m : List (Int × Int)} (h : ClkM N.clk m) (j : Int) : lkA m j = if 0 ≤ N.at' j then some (N.at' j) else none := h.lk j
theorem fit_s {j : Int} {key : Key} (hS : Sat e w (IsWarp n wd f fd N k :: Q))
    (hbad : earlyB N j key → ∀ t w', Sat e w' (BT t key 110 :: IsWarp n wd f fd N k :: Q) → K (.tuple #[.int .i64 0, .bool false, .bool false, erV t]) w')
    (hok : ¬ earlyB N j key → ∀ w', Sat e w' (IsWarp n wd f fd N k :: Q) → K (.tuple #[.int .i64 ((highsM key N.ms).length : Int), .bool (hasK key N.q), .bool (hasK key N.ms), .nilIface]) w') :
    Cl prog 99 #[.pointer (some ⟨n, 0, none⟩), .int .i64 j, .agg key.cs.toArray] w K := by
  refine warp_Node_fit_calls ?_
  unfold warp_Node_fit
  refine al_s (cs := key.cs) hS rfl fun t5 w1 h1 => ?_
  obtain ⟨X, q, p, g, b, m, lv, hX, h2⟩ := warp_of h1.swap
  refine ncP_p (fld_at (ld1_at h2 0 rfl (v := .map (some b)) rfl ?_))
  refine lkM_s keyT_99 mapT_99 h2 5 rfl j ?_
  rw [clk_lk hX.map]
  have hml : N.ms.length ≤ 64 := hX.ok.ml
  have key1 : ∀ (v22 : Value) (q23 : Bool), (q23 = decide (0 ≤ N.at' j)) → (0 ≤ N.at' j → v22 = .int .i64 (N.at' j)) →
      xt 0 (.tuple #[v22, .bool q23]) w1 fun t22 w => xt 1 (.tuple #[v22, .bool q23]) w fun t23 w => dr w fun w => fld 0 (.pointer (some ⟨t5, 0, none⟩)) w fun t24 _ => ld1 t24 w fun t25 _ => ncP (.pointer (some ⟨n, 0, none⟩)) <| fld 7 (.pointer (some ⟨n, 0, none⟩)) w fun t28 _ => ld1 t28 w fun t29 _ =>
      Cl prog 61 #[t29] w fun t30 w => (ld1 t24 w (fun v' w'' => v' = t25 ∧ w'' = w)) ∧ (bi .lss .i64 t25 t30 w fun t31 _ => gd t31 false (fun k => k t23 w) w fun t33 _ => gd t31 false (fun k => k t33 w) w fun t34 _ => gd t34 true (fun k => fld 0 (.pointer (some ⟨t5, 0, none⟩)) w k) w fun t35 _ =>
      gd t34 true (fun k => ld1 t35 w k) w fun t36 _ => gd t34 true (fun k => k t22 w) w fun t37 _ => gd t34 true (fun k => bi .lss .i64 t36 t37 w k) w fun t38 _ => gd t31 false (fun k => pk t34 t38 (Value.bool false) w k) w fun t39 _ => pk t31 (Value.bool true) t39 w fun t40 _ => iff' t40
      (ldN 3 (.pointer (some ⟨t5, 0, none⟩)) w fun t41 w => Cl prog 100 #[t41, (Value.int IntKind.i64 110)] w fun t42 w => K (Value.tuple #[(Value.int IntKind.i64 0), (Value.bool false), (Value.bool false), t42]) w)
      (ncP (.pointer (some ⟨n, 0, none⟩)) <| fld 7 (.pointer (some ⟨n, 0, none⟩)) w fun t45 w => ld1 t45 w fun t46 w => Cl prog 143 #[t46] w fun t47 w => lnS t47 w fun t48 w => lp [(Value.int IntKind.i64 0), (Value.bool false), (Value.int IntKind.i64 0)] w (b3 fun t6 t8 t49 w g1 =>
      bi .lss .i64 t49 t48 w fun t50 w => iff' t50 (ixS 3 t47 t49 w fun t51 w => ldN 3 t51 w fun t52 w => al (zeroD prog 35) 35 w fun t13 w => stN 3 t13 t52 w fun _ w => ldN 3 t13 w fun t53 w => ldN 3 (.pointer (some ⟨t5, 0, none⟩)) w fun t54 w => Cl prog 117 #[t53, t54] w fun t55 w =>
      bi .geq .i64 t55 (Value.int IntKind.i64 0) w fun t57 w => J1 (fun t6_1 w => gd t8 false (fun k => k t55 w) w fun t62 w => gd t8 false (fun k => bi .eql .i64 t62 (Value.int IntKind.i64 0) w k) w fun t63 w => pk t8 (Value.bool true) t63 w fun t64 w => bi .add .i64 t49 (Value.int IntKind.i64 1) w fun t65 w => g1 [t6_1, t64, t65] w) fun k2 =>
      iff' t57 (bi .add .i64 t6 (Value.int IntKind.i64 1) w fun t59 w => k2 t59 w) (k2 t6 w))
      (ncP (.pointer (some ⟨n, 0, none⟩)) <| fld 6 (.pointer (some ⟨n, 0, none⟩)) w fun t68 w => ld1 t68 w fun t69 w => Cl prog 60 #[t69] w fun t70 w => Cl prog 144 #[t70, (Value.func (Fn.func 145) #[] #[(.pointer (some ⟨t5, 0, none⟩))])] w fun t72 w =>
      K (Value.tuple #[t6, t72, t8, Value.nilIface]) w)))) := by
    intro v22 q23 hq hv
    refine xt_02 (xt_12 ?_)
    refine dr_s h2 fun w3 h3 => ?_
    refine fld_at (ld1_at h3 7 rfl (v := .int .i64 key.T) rfl ?_)
    refine ncP_p (fld_at (ld1_at h3 0 rfl (v := .pointer (some ⟨p, 0, none⟩)) rfl ?_))
    refine past_Floor_s (h3.pick 2 rfl) ?_
    refine ⟨ld1_at h3 7 rfl (v := .int .i64 key.T) rfl ⟨rfl, rfl⟩, ?_⟩
    have early : earlyB N j key → ldN 3 (.pointer (some ⟨t5, 0, none⟩)) w3 fun t41 w => Cl prog 100 #[t41, (Value.int IntKind.i64 110)] w fun t42 w => K (Value.tuple #[(Value.int IntKind.i64 0), (Value.bool false), (Value.bool false), t42]) w := fun hb => by
      refine ldN_at h3 7 (vs := key.cs) rfl (by rfl) rfl ?_
      refine late_s h3 fun t w4 h4 => ?_
      have h5 := warp_mk hX (h4.selR [_, _, _, _, _, _, _, _, _] [_, _, _, _, _, _, _, _] [1, 2, 3, 4, 5, 6, 7, 0] (by decide) rfl)
      exact hbad hb t _ h5.swap
    have rest : ¬ earlyB N j key → (ncP (.pointer (some ⟨n, 0, none⟩)) <| fld 7 (.pointer (some ⟨n, 0, none⟩)) w3 fun t45 w => ld1 t45 w fun t46 w => Cl prog 143 #[t46] w fun t47 w => lnS t47 w fun t48 w => lp [(Value.int IntKind.i64 0), (Value.bool false), (Value.int IntKind.i64 0)] w (b3 fun t6 t8 t49 w g1 =>
        bi .lss .i64 t49 t48 w fun t50 w => iff' t50 (ixS 3 t47 t49 w fun t51 w => ldN 3 t51 w fun t52 w => al (zeroD prog 35) 35 w fun t13 w => stN 3 t13 t52 w fun _ w => ldN 3 t13 w fun t53 w => ldN 3 (.pointer (some ⟨t5, 0, none⟩)) w fun t54 w => Cl prog 117 #[t53, t54] w fun t55 w =>
        bi .geq .i64 t55 (Value.int IntKind.i64 0) w fun t57 w => J1 (fun t6_1 w => gd t8 false (fun k => k t55 w) w fun t62 w => gd t8 false (fun k => bi .eql .i64 t62 (Value.int IntKind.i64 0) w k) w fun t63 w => pk t8 (Value.bool true) t63 w fun t64 w => bi .add .i64 t49 (Value.int IntKind.i64 1) w fun t65 w => g1 [t6_1, t64, t65] w) fun k2 =>
        iff' t57 (bi .add .i64 t6 (Value.int IntKind.i64 1) w fun t59 w => k2 t59 w) (k2 t6 w))
        (ncP (.pointer (some ⟨n, 0, none⟩)) <| fld 6 (.pointer (some ⟨n, 0, none⟩)) w fun t68 w => ld1 t68 w fun t69 w => Cl prog 60 #[t69] w fun t70 w => Cl prog 144 #[t70, (Value.func (Fn.func 145) #[] #[(.pointer (some ⟨t5, 0, none⟩))])] w fun t72 w =>
        K (Value.tuple #[t6, t72, t8, Value.nilIface]) w))) := fun hb => by
      refine ncP_p (fld_at (ld1_at h3 0 rfl (v := .pointer (some ⟨p, 0, none⟩)) rfl ?_))
      refine past_Keys_s (h3.pick 2 rfl) fun v47 w4 h4 => ?_
      rw [past_keys] at h4
      replace h4 : Sat e w4 (ownS 35 3 Key.cs v47 (N.ms.map Msg.key) :: IsPast p N.fl (N.past wd f fd) :: BW n X f (N.now fd).1 (N.now fd).2 q p g b lv :: IsQ q N.q :: IsGate g N.fl (gateE wd (N.past wd f fd)) :: WdOwn X :: isMap kI kI b m :: DD lv (N.log wd f fd) :: blk t5 35 key.cs :: Q) := h4
      refine lnS_rd h4 0 rfl (fun g hg => own_rd hg) ?_
      rw [List.length_map, zero_35]
      generalize hks : N.ms.map Msg.key = ks at h4
      have hkl : ks.length = N.ms.length := by rw [← hks, List.length_map]
      refine lpi3 (fun mm t6 t8 t49 w => ∃ i : Nat, i ≤ ks.length ∧ t49 = .int .i64 i ∧ mm = ks.length - i ∧ t6 = .int .i64 (((ks.take i).filter fun y => decide (0 ≤ cmpK y key)).length : Int) ∧ t8 = .bool ((ks.take i).any fun y => decide (y = key)) ∧ Sat e w (ownS 35 3 Key.cs v47 ks :: IsPast p N.fl (N.past wd f fd) :: BW n X f (N.now fd).1 (N.now fd).2 q p g b lv :: IsQ q N.q :: IsGate g N.fl (gateE wd (N.past wd f fd)) :: WdOwn X :: isMap kI kI b m :: DD lv (N.log wd f fd) :: blk t5 35 key.cs :: Q)) ks.length
        ⟨0, Nat.zero_le _, rfl, rfl, rfl, rfl, h4⟩ ?_
      rintro mm _ _ _ w g1 ⟨i, hi, rfl, rfl, rfl, rfl, h5⟩ hg1
      refine lt_c (fun c => iff_t ?_) (fun c => iff_f ?_)
      · obtain ⟨y, hy⟩ := get_of_lt (l := ks) (j := i) (by omega)
        refine ixS_rd h5 0 rfl (fun g hg => own_rd hg) (fun _ => rfl) hy fun a ha => ldN_of h5 0 rfl ha rfl ?_
        refine al_s (cs := Key.zero.cs) h5 rfl fun t13 w6 h6 => ?_
        refine stN_at h6 0 rfl (vs := y.cs) rfl rfl (by decide) (ints_flat _) (cs' := y.cs) (by rfl) fun w7 h7 => ?_
        refine ldN_at h7 0 (vs := y.cs) rfl (by rfl) rfl (ldN_at h7 9 (vs := key.cs) rfl (by rfl) rfl ?_)
        refine vtime_Cmp_s h7 fun w8 h8 => ?_
        have hfl : ((ks.take i).filter fun y => decide (0 ≤ cmpK y key)).length ≤ i := Nat.le_trans (List.length_filter_le _ _) (by rw [List.length_take]; omega)
        have hfs : ((ks.take (i + 1)).filter fun y => decide (0 ≤ cmpK y key)).length = ((ks.take i).filter fun y => decide (0 ≤ cmpK y key)).length + if 0 ≤ cmpK y key then 1 else 0 := by
          rw [filterA_snoc hy, List.length_append]
          by_cases hc : 0 ≤ cmpK y key
          · rw [if_pos hc, if_pos (decide_eq_true hc)]; rfl
          · rw [if_neg hc, if_neg (by rw [decide_eq_false hc]; decide)]; rfl
        have hany : ((ks.take (i + 1)).any fun y => decide (y = key)) = (((ks.take i).any fun y => decide (y = key)) || decide (cmpK y key = 0)) := by
          rw [take_snoc hy, List.any_append]
          congr 1
          rw [List.any_cons, List.any_nil, Bool.or_false, Bool.eq_iff_iff, decide_eq_true_iff, decide_eq_true_iff, cmpK_eq]
        have fin : ∀ c6 : Int, c6 = (((ks.take (i + 1)).filter fun y => decide (0 ≤ cmpK y key)).length : Int) → gd (.bool ((ks.take i).any fun y => decide (y = key))) false (fun k => k (.int .i64 (cmpK y key)) w8) w8 fun t62 w => gd (.bool ((ks.take i).any fun y => decide (y = key))) false (fun k => bi .eql .i64 t62 (Value.int IntKind.i64 0) w k) w fun t63 w => pk (.bool ((ks.take i).any fun y => decide (y = key))) (Value.bool true) t63 w fun t64 w => bi .add .i64 (.int .i64 i) (Value.int IntKind.i64 1) w fun t65 w => g1 [.int .i64 c6, t64, t65] w := by
          rintro _ rfl
          cases hb8 : (ks.take i).any fun y => decide (y = key) with
          | true =>
            rw [hb8, Bool.true_or] at hany
            refine gd_tf (gd_tf (pk_t (inc_s (by omega) ?_)))
            exact hg1 _ _ _ _ _ (by omega) ⟨i + 1, by omega, rfl, rfl, rfl, by rw [hany], h8.drop⟩
          | false =>
            rw [hb8, Bool.false_or] at hany
            refine gd_ff (gd_ff (eq_d (pk_f (inc_s (by omega) ?_))))
            exact hg1 _ _ _ _ _ (by omega) ⟨i + 1, by omega, rfl, rfl, rfl, by rw [hany], h8.drop⟩
        refine ge_d ?_
        refine J1.cut (fun t6 w' => t6 = .int .i64 (((ks.take (i + 1)).filter fun y => decide (0 ≤ cmpK y key)).length : Int) ∧ w' = w8) (fun k2 hcut => ?_) ?_
        · by_cases hc : 0 ≤ cmpK y key
          · rw [decide_eq_true hc]
            rw [if_pos hc] at hfs
            refine iff_t (inc_s (by omega) (hcut _ _ ⟨by rw [hfs], rfl⟩))
          · rw [decide_eq_false hc]
            rw [if_neg hc] at hfs
            exact iff_f (hcut _ _ ⟨by rw [hfs]; rfl, rfl⟩)
        · rintro _ _ ⟨rfl, rfl⟩
          exact fin _ rfl
      · have ei : i = ks.length := by omega
        rw [ei, List.take_length, ← hks, highs_len, hasK_map]
        refine ncP_p (fld_at (ld1_at h5 2 rfl (v := .pointer (some ⟨q, 0, none⟩)) rfl ?_))
        refine q_List_s (h5.pick 3 rfl) fun v70 w6 h6 => ?_
        have hql : N.q.length ≤ 64 := hX.ok.ql
        refine containsM_s (p := fun m => decide (m.key = key)) 0 rfl h6 (fun g hg => own_rd hg) (by omega) (fun o ho w K h hk => ?_) fun w7 h7 => ?_
        · refine ⟨_, _, _, rfl, ?_⟩
          refine warp_Node_fit_1_calls (t0 := .agg o.cs.toArray) (t1 := .pointer (some ⟨t5, 0, none⟩)) ?_
          unfold warp_Node_fit_1
          refine al_s (cs := o.cs) h rfl fun bb w8 h8 => ?_
          refine fld_at (ldN_at h8 0 (vs := o.key.cs) rfl (by rfl) rfl ?_)
          refine ldN_at h8 10 (vs := key.cs) rfl (by rfl) rfl ?_
          refine bO_eq (ns := o.key.ns) (ms := key.ns) eqT_35 agg_35 egt_35 (by decide) rfl ?_
          rw [Key.eq_ns]
          exact hk _ h8.drop
        · refine hok hb _ (warp_mk hX (h7.selR [_, _, _, _, _, _, _, _, _, _] [_, _, _, _, _, _, _] [4, 1, 3, 5, 6, 7, 8] (by decide) rfl))
    by_cases d1 : key.T < N.fl
    · refine lt_t d1 (gd_tf (gd_tf (gd_u (gd_u (gd_u (gd_u (gd_tf (pk_t (iff_t ?_)))))))))
      exact early (.inl d1)
    refine lt_f d1 (gd_ff (gd_ff ?_))
    by_cases d2 : 0 ≤ N.at' j
    · rw [decide_eq_true d2] at hq
      subst hq
      rw [hv d2]
      refine gd_tt (fld_at (gd_tt (ld1_at h3 7 rfl (v := .int .i64 key.T) rfl (gd_tt (gd_tt ?_)))))
      refine lt_c (fun d3 => gd_ff (pk_t (pk_f (iff_t (early (.inr ⟨d2, d3⟩)))))) (fun d3 => gd_ff (pk_t (pk_f (iff_f (rest ?_)))))
      rintro (h | h)
      · exact d1 h
      · exact d3 h.2
    · rw [decide_eq_false d2] at hq
      subst hq
      refine gd_ft (gd_ft (gd_ft (gd_ft (gd_ff (pk_f (pk_f (iff_f (rest ?_))))))))
      rintro (h | h)
      · exact d1 h
      · exact d2 h.1
  by_cases d2 : 0 ≤ N.at' j
  · rw [if_pos d2]
    exact key1 _ _ (by rw [decide_eq_true d2]; rfl) fun _ => rfl
  · rw [if_neg d2]
    exact key1 _ _ (by rw [decide_eq_false d2]; rfl) fun h => absurd h d2
end Go.Proofs.YtbopajpmadlmhaaGreat
end
section
namespace Go.Proofs.YtbopajpmadlmhaaGreat
open Go Go.E
set_option maxRecDepth 100000
variable {e w : World} {L Q R : List HP} {K : KV} {S S2 : HP}
variable {n f k : Nat} {wd : Wd} {fd : Fed} {N : WN}

theorem past_to {X : WdX} {m : List (Int × Int)} (hX : WFits X wd f fd N k m) : ∀ x ∈ N.past wd f fd, ∀ y ∈ x.outs, 0 ≤ y.To ∧ y.To < X.Feds.length := fun x hx y hy => by
  obtain ⟨b, hb⟩ := (runE_mem hx).2
  rw [hb] at hy
  have := (ent_outs hX.ok.may hX.ok.hfd b x.m).2 y hy
  rw [hX.len]
  exact ⟨this.1, this.2.1⟩
theorem gate_few (h : WOk wd f fd N k) : (gateE wd (N.past wd f fd)).length ≤ 1000000 := by
  have h1 := gate_le h.may h.hfd N.ms (N.base fd)
  have h2 := h.ml
  show (gateE wd (runE wd f fd (N.base fd) N.ms)).length ≤ _
  omega
theorem plain_s {j : Int} {m : Msg} (hS : Sat e w (IsWarp n wd f fd N k :: Q))
    (h1 : earlyB N j m.key → ∀ t w', Sat e w' (BT t m.key 110 :: IsWarp n wd f fd N k :: Q) → K (.tuple #[.slice none 0 0, erV t]) w')
    (h2 : ¬ earlyB N j m.key → hasK m.key (N.ms ++ N.q) = true → ∀ t w', Sat e w' (BT t m.key 3 :: IsWarp n wd f fd N k :: Q) → K (.tuple #[.slice none 0 0, erV t]) w')
    (h3 : ¬ earlyB N j m.key → hasK m.key (N.ms ++ N.q) = false → 64 ≤ N.q.length + (highsM m.key N.ms).length → ∀ t w', Sat e w' (BT t m.key 2 :: IsWarp n wd f fd N k :: Q) → K (.tuple #[.slice none 0 0, erV t]) w')
    (h4 : ¬ earlyB N j m.key → hasK m.key (N.ms ++ N.q) = false → ¬ 64 ≤ N.q.length + (highsM m.key N.ms).length → WOk wd f fd ⟨N.old, lowsM m.key N.ms, insK m (highsM m.key N.ms ++ N.q), N.fl, N.clk⟩ k ∧
      ∀ v w', Sat e w' (DI v (undoI wd (goneE wd f fd N m.key)) :: IsWarp n wd f fd ⟨N.old, lowsM m.key N.ms, insK m (highsM m.key N.ms ++ N.q), N.fl, N.clk⟩ k :: Q) → K (.tuple #[v, .nilIface]) w') :
    Cl prog 48 #[.pointer (some ⟨n, 0, none⟩), .int .i64 j, .agg m.cs.toArray] w K := by
  refine warp_Node_plain_calls ?_
  unfold warp_Node_plain
  refine al_s (cs := m.cs) hS rfl fun t5 w1 hs1 => ?_
  refine fld_at (ldN_at hs1 0 (vs := m.key.cs) rfl (by rfl) rfl ?_)
  refine fit_s hs1.swap (fun hb t w2 hs2 => ?_) (fun hb w2 hs2 => ?_)
  · refine xt_s rfl (xt_s rfl (xt_s rfl (xt_s rfl (neT_nil (iff_t ?_)))))
    exact h1 hb t _ (hs2.selR [_, _, _] [_, _] [0, 1] (by decide) rfl)
  refine xt_s rfl (xt_s rfl (xt_s rfl (xt_s rfl (neN_nil (iff_f ?_)))))
  have hat : hasK m.key (N.ms ++ N.q) = (hasK m.key N.q || hasK m.key N.ms) := by unfold hasK; rw [List.any_append, Bool.or_comm]
  have twice : hasK m.key (N.ms ++ N.q) = true → fld 0 (.pointer (some ⟨t5, 0, none⟩)) w2 fun t32 w => ldN 3 t32 w fun t33 w => Cl prog 100 #[t33, (Value.int IntKind.i64 3)] w fun t34 w => K (Value.tuple #[(Value.slice none 0 0), t34]) w := fun hh => by
    refine fld_at (ldN_at hs2 1 (vs := m.key.cs) rfl (by rfl) rfl ?_)
    refine late_s hs2 fun t w3 hs3 => ?_
    exact h2 hb hh t _ (hs3.selR [_, _, _] [_, _] [0, 1] (by decide) rfl)
  cases hq : hasK m.key N.q with
  | true =>
    rw [hq, Bool.true_or] at hat
    exact gd_tf (pk_t (iff_t (twice hat)))
  | false =>
    rw [hq, Bool.false_or] at hat
    refine gd_ff (pk_f ?_)
    cases hm : hasK m.key N.ms with
    | true =>
      rw [hm] at hat
      exact iff_t (twice hat)
    | false =>
      rw [hm] at hat
      refine iff_f ?_
      obtain ⟨X, q, p, g, b, mm, lv, hX, hs3⟩ := warp_of hs2
      refine ncP_p (fld_at (ld1_at hs3 0 rfl (v := .pointer (some ⟨q, 0, none⟩)) rfl ?_))
      refine q_Len_s (hs3.pick 1 rfl) ?_
      have hql := hX.ok.ql
      have hml := hX.ok.ml
      have hhl : (highsM m.key N.ms).length ≤ N.ms.length := List.length_filter_le ..
      refine add_s (by omega) (by omega) ?_
      refine ge_c (fun c => iff_t ?_) (fun c => iff_f ?_)
      · refine fld_at (ldN_at hs2 1 (vs := m.key.cs) rfl (by rfl) rfl ?_)
        refine late_s hs2 fun t w3 hs3 => ?_
        exact h3 hb hat (by omega) t _ (hs3.selR [_, _, _] [_, _] [0, 1] (by decide) rfl)
      · obtain ⟨hN', hk⟩ := h4 hb hat (by omega)
        refine fld_at (ldN_at hs3 7 (vs := m.key.cs) rfl (by rfl) rfl ?_)
        refine undo_s (past_to hX) (gate_few hX.ok) hs3 fun v w4 hs4 => ?_
        rw [goneL_past hX.ok, undoB_now hX.ok, undoQ_plain hX.ok m.key (by omega), keepE_past hX.ok, gate_undone hX.ok, hX.eq] at hs4
        refine dr_s hs4 fun w5 hs5 => ?_
        refine ncP_p (fld_at (ld1_at hs5 1 rfl (v := .pointer (some ⟨q, 0, none⟩)) rfl ?_))
        refine ldN_at hs5 8 (vs := m.cs) rfl (by rfl) rfl ?_
        refine q_Push_s (x := m) (hs5.pick 2 rfl) fun w6 hs6 => ?_
        have hpe : pushE 64 (highsM m.key N.ms ++ N.q) m = 0 := by
          rw [pushE_out fun y hy => hasK_no.1 hat y ?_, if_neg (by rw [List.length_append]; omega)]
          rcases List.mem_append.1 hy with h | h
          · exact List.mem_append_left _ (highs_mem.1 h).1
          · exact List.mem_append_right _ h
        have hpq : pushQ (highsM m.key N.ms ++ N.q) m = insK m (highsM m.key N.ms ++ N.q) := by unfold pushQ; rw [if_pos hpe]
        rw [hpq] at hs6
        have hs7 := warp_mk (N := ⟨N.old, lowsM m.key N.ms, insK m (highsM m.key N.ms ++ N.q), N.fl, N.clk⟩) (X := X) (q := q) (p := p) (g := g) (b := b) (m := mm) (lv := lv) ⟨hX.eq, hX.short, hN', hX.map⟩ (hs6.selR [_, _, _, _, _, _, _, _, _] [_, _, _, _, _, _, _, _] [2, 0, 3, 4, 5, 6, 7, 1] (by decide) rfl)
        exact hk v _ (hs7.selR [_, _] [_, _] [1, 0] (by decide) rfl)
theorem q_Remove_s {q : Nat} {l : List Msg} {key : Key} {x : Msg} (hx : x ∈ l) (hk' : x.key = key) (hS : Sat e w (IsQ q l :: Q)) (hk : ∀ v w', Sat e w' (IsQ q (without l key) :: Q) → K v w') :
    Cl prog 104 #[.pointer (some ⟨q, 0, none⟩), .agg key.cs.toArray] w K := by
  subst hk'
  obtain ⟨lh, hh, hp, hq, h1⟩ := q_of hS
  have hlen := hp.length_eq
  have hql := hq.len
  have hxl : x ∈ lh := hp.mem_iff.1 hx
  refine prio_Remove_s hxl (by omega) h1 fun l' w2 hp2 hheap h2 => ?_
  exact hk _ _ (q_mk (hheap hh) (without_perm ((hp.map Msg.key).nodup_iff.1 hq.up.nodup) hp2 hp) (hq.without x.key) h2)
theorem anti_s {j : Int} {m : Msg} (hj : N.at' j < 0) (hS : Sat e w (IsWarp n wd f fd N k :: Q))
    (h1 : m.key.T < N.fl → ∀ t w', Sat e w' (BT t m.key 110 :: IsWarp n wd f fd N k :: Q) → K (.tuple #[.slice none 0 0, erV t]) w')
    (h2 : ¬ m.key.T < N.fl → hasK m.key N.q = true → WOk wd f fd ⟨N.old, N.ms, without N.q m.key, N.fl, N.clk⟩ k ∧ ∀ w', Sat e w' (IsWarp n wd f fd ⟨N.old, N.ms, without N.q m.key, N.fl, N.clk⟩ k :: Q) → K (.tuple #[.slice none 0 0, .nilIface]) w')
    (h3 : ¬ m.key.T < N.fl → hasK m.key N.q = false → hasK m.key N.ms = false → ∀ t w', Sat e w' (BT t m.key 4 :: IsWarp n wd f fd N k :: Q) → K (.tuple #[.slice none 0 0, erV t]) w')
    (h4 : ¬ m.key.T < N.fl → hasK m.key N.q = false → hasK m.key N.ms = true → 65 < N.q.length + (highsM m.key N.ms).length → ∀ t w', Sat e w' (BT t m.key 2 :: IsWarp n wd f fd N k :: Q) → K (.tuple #[.slice none 0 0, erV t]) w')
    (h5 : ¬ m.key.T < N.fl → hasK m.key N.q = false → hasK m.key N.ms = true → ¬ 65 < N.q.length + (highsM m.key N.ms).length → WOk wd f fd ⟨N.old, lowsM m.key N.ms, without (highsM m.key N.ms ++ N.q) m.key, N.fl, N.clk⟩ k ∧
      ∀ v w', Sat e w' (DI v (undoI wd (goneE wd f fd N m.key)) :: IsWarp n wd f fd ⟨N.old, lowsM m.key N.ms, without (highsM m.key N.ms ++ N.q) m.key, N.fl, N.clk⟩ k :: Q) → K (.tuple #[v, .nilIface]) w') :
    Cl prog 49 #[.pointer (some ⟨n, 0, none⟩), .int .i64 j, .agg m.cs.toArray] w K := by
  refine warp_Node_anti_calls ?_
  unfold warp_Node_anti
  refine al_s (cs := m.cs) hS rfl fun t5 w1 hs1 => ?_
  refine fld_at (ldN_at hs1 0 (vs := m.key.cs) rfl (by rfl) rfl ?_)
  rw [zero_35]
  refine al_s (cs := Key.zero.cs) hs1 rfl fun t8 w2 hs2 => ?_
  refine stN_at hs2 0 rfl (vs := m.key.cs) rfl rfl (by decide) (ints_flat _) (cs' := m.key.cs) (by rfl) fun w3 hs3 => ?_
  replace hs3 : Sat e w3 (blk t8 35 m.key.cs :: blk t5 37 m.cs :: IsWarp n wd f fd N k :: Q) := hs3
  refine ldN_at hs3 0 (vs := m.key.cs) rfl (by rfl) rfl ?_
  have hea : earlyB N j m.key ↔ m.key.T < N.fl := by unfold earlyB; omega
  refine fit_s (hs3.pick 2 rfl) (fun hb t w4 hs4 => ?_) (fun hb w4 hs4 => ?_)
  · refine xt_s rfl (xt_s rfl (xt_s rfl (xt_s rfl (neT_nil (iff_t ?_)))))
    exact h1 (hea.1 hb) t _ (hs4.selR [_, _, _, _] [_, _] [0, 1] (by decide) rfl)
  have hb' : ¬ m.key.T < N.fl := fun h => hb (hea.2 h)
  replace hs4 : Sat e w4 (IsWarp n wd f fd N k :: blk t8 35 m.key.cs :: blk t5 37 m.cs :: Q) := hs4
  refine xt_s rfl (xt_s rfl (xt_s rfl (xt_s rfl (neN_nil (iff_f ?_)))))
  obtain ⟨X, q, p, g, b, mm, lv, hX, hs5⟩ := warp_of hs4
  cases hq : hasK m.key N.q with
  | true =>
    obtain ⟨hN', hk⟩ := h2 hb' hq
    obtain ⟨x, hx1, hx2⟩ := hasK_iff.1 hq
    refine iff_t (dr_s hs5 fun w6 hs6 => ?_)
    refine ncP_p (fld_at (ld1_at hs6 0 rfl (v := .pointer (some ⟨q, 0, none⟩)) rfl ?_))
    refine ldN_at hs6 7 (vs := m.key.cs) rfl (by rfl) rfl ?_
    refine q_Remove_s hx1 hx2 (hs6.pick 1 rfl) fun _ w7 hs7 => ?_
    have hs8 := warp_mk (N := ⟨N.old, N.ms, without N.q m.key, N.fl, N.clk⟩) (X := X) (q := q) (p := p) (g := g) (b := b) (m := mm) (lv := lv) ⟨hX.eq, hX.short, hN', hX.map⟩ (hs7.selR [_, _, _, _, _, _, _] [_, _, _, _, _, _, _] [1, 0, 2, 3, 4, 5, 6] (by decide) rfl)
    exact hk _ (hs8.selR [_, _, _] [_] [0] (by decide) rfl)
  | false =>
    refine iff_f ?_
    cases hm : hasK m.key N.ms with
    | false =>
      refine not_f (iff_t (ldN_at hs4 1 (vs := m.key.cs) rfl (by rfl) rfl ?_))
      refine late_s hs4 fun t w6 hs6 => ?_
      exact h3 hb' hq hm t _ (hs6.selR [_, _, _, _] [_, _] [0, 1] (by decide) rfl)
    | true =>
      refine not_t (iff_f ?_)
      refine ncP_p (fld_at (ld1_at hs5 0 rfl (v := .pointer (some ⟨q, 0, none⟩)) rfl ?_))
      refine q_Len_s (hs5.pick 1 rfl) ?_
      have hql := hX.ok.ql
      have hml := hX.ok.ml
      have hhl : (highsM m.key N.ms).length ≤ N.ms.length := List.length_filter_le ..
      refine add_s (by omega) (by omega) ?_
      refine gt_c (fun c => iff_t ?_) (fun c => iff_f ?_)
      · refine ldN_at hs4 1 (vs := m.key.cs) rfl (by rfl) rfl ?_
        refine late_s hs4 fun t w6 hs6 => ?_
        exact h4 hb' hq hm (by omega) t _ (hs6.selR [_, _, _, _] [_, _] [0, 1] (by decide) rfl)
      · obtain ⟨hN', hk⟩ := h5 hb' hq hm (by omega)
        refine ldN_at hs5 7 (vs := m.key.cs) rfl (by rfl) rfl ?_
        refine undo_s (past_to hX) (gate_few hX.ok) hs5 fun v w6 hs6 => ?_
        rw [goneL_past hX.ok, undoB_now hX.ok, undoQ_anti hX.ok m.key hm (by omega), keepE_past hX.ok, gate_undone hX.ok, hX.eq] at hs6
        have hs7 := warp_mk (N := ⟨N.old, lowsM m.key N.ms, without (highsM m.key N.ms ++ N.q) m.key, N.fl, N.clk⟩) (X := X) (q := q) (p := p) (g := g) (b := b) (m := mm) (lv := lv) ⟨hX.eq, hX.short, hN', hX.map⟩ (hs6.selR [_, _, _, _, _, _, _, _] [_, _, _, _, _, _, _, _] [1, 2, 3, 4, 5, 6, 7, 0] (by decide) rfl)
        exact hk v _ (hs7.selR [_, _, _, _] [_, _] [1, 0] (by decide) rfl)
theorem hear_args {j : Int} {i : NItem} (h : 0 ≤ j ∧ j < wd.Feds.length ∧ j ≠ f) : hearW wd f fd N j i =
    if i.Kind = 2 then (if N.at' j < 0 ∨ validT i.m.key.T = false then ⟨1, [], N⟩ else if i.m.key.T < N.at' j then ⟨110, [], N⟩ else ⟨0, [], ⟨N.old, N.ms, N.q, N.fl, N.clk.set j.toNat i.m.key.T⟩⟩)
    else if i.Kind = 0 then (if i.m.key.T < N.fl ∨ (0 ≤ N.at' j ∧ i.m.key.T < N.at' j) then ⟨110, [], N⟩ else if hasK i.m.key (N.ms ++ N.q) = true then ⟨3, [], N⟩ else if 64 ≤ N.q.length + (highsM i.m.key N.ms).length then ⟨2, [], N⟩
      else ⟨0, undoI wd (goneE wd f fd N i.m.key), ⟨N.old, lowsM i.m.key N.ms, insK i.m (highsM i.m.key N.ms ++ N.q), N.fl, N.clk⟩⟩)
    else if i.Kind = 1 then (if 0 ≤ N.at' j then ⟨1, [], N⟩ else if i.m.key.T < N.fl then ⟨110, [], N⟩ else if hasK i.m.key N.q = true then ⟨0, [], ⟨N.old, N.ms, without N.q i.m.key, N.fl, N.clk⟩⟩ else if hasK i.m.key N.ms = false then ⟨4, [], N⟩
      else if 65 < N.q.length + (highsM i.m.key N.ms).length then ⟨2, [], N⟩ else ⟨0, undoI wd (goneE wd f fd N i.m.key), ⟨N.old, lowsM i.m.key N.ms, without (highsM i.m.key N.ms ++ N.q) i.m.key, N.fl, N.clk⟩⟩)
    else ⟨130, [], N⟩ := by
  unfold hearW
  rw [if_neg (fun hn => hn h)]
theorem warp_Hear_s {j : Int} {i : NItem} (ht : In64 i.m.key.T) (hS : Sat e w (IsWarp n wd f fd N k :: Q)) (hk : ∀ v w', Sat e w' (DI v (hearW wd f fd N j i).out :: IsWarp n wd f fd (hearW wd f fd N j i).N k :: Q) → K (.tuple #[v, .int .i64 (hearW wd f fd N j i).e]) w') :
    Cl prog 14 #[.pointer (some ⟨n, 0, none⟩), .int .i64 j, .agg i.cs.toArray] w K := by
  have hWok := (warp_ok 0 hS rfl)
  have hN' := hWok.hear j i
  generalize hR : hearW wd f fd N j i = R at hk hN'
  refine warp_Node_Hear_calls ?_
  unfold warp_Node_Hear
  refine al_s (cs := i.cs) hS rfl fun t5 w1 hs1 => ?_
  obtain ⟨X, q, p, g, b, mm, lv, hX, hs2⟩ := warp_of hs1.swap
  have bad : ∀ (er : Int) (w' : World), R = ⟨er, [], N⟩ → Sat e w' (IsWarp n wd f fd N k :: Q) → K (.tuple #[.slice none 0 0, .int .i64 er]) w' := by
    rintro er w' rfl h
    exact hk _ _ (h.own_nil 43 8 NItem.cs)
  have badj : ¬ (0 ≤ j ∧ j < wd.Feds.length ∧ j ≠ f) → K (.tuple #[.slice none 0 0, .int .i64 1]) w1 := fun hn => bad 1 _ (by rw [← hR]; exact if_pos hn) (hs1.selR [_, _] [_] [1] (by decide) rfl)
  by_cases d1 : j < 0
  · refine lt_t d1 ?_
    refine gd_tf (gd_tf (gd_tf (gd_tf (gd_tf (gd_tf (gd_tf (gd_tf (pk_t ?_))))))))
    refine gd_tf (gd_tf (gd_tf (gd_tf (gd_tf (gd_tf (pk_t (iff_t ?_)))))))
    exact badj (fun h => by omega)
  refine lt_f d1 (gd_ff (gd_ff (gd_ff (nc_p (gd_ff (fld_at (gd_ff (fld_at (gd_ff (ld1_at hs2 0 rfl (v := X.fv) rfl (gd_ff ?_)))))))))))
  refine lnS_rd hs2 4 rfl (fun g hg => (wdOwn_rd hg).feds) ?_
  by_cases d2 : (X.Feds.length : Int) ≤ j
  · refine gd_ff (ge_t d2 (pk_f ?_))
    refine gd_tf (gd_tf (gd_tf (gd_tf (gd_tf (gd_tf (pk_t (iff_t ?_)))))))
    exact badj (fun h => by have := hX.len; omega)
  refine gd_ff (ge_f d2 (pk_f ?_))
  refine gd_ff (gd_ff (gd_ff (nc_p (gd_ff (fld_at (gd_ff (ld1_at hs2 0 rfl (v := .int .i64 f) rfl (gd_ff ?_))))))))
  by_cases d3 : j = f
  · exact eq_t d3 (pk_f (iff_t (badj fun h => h.2.2 d3)))
  refine eq_f d3 (pk_f (iff_f ?_))
  have hargs : 0 ≤ j ∧ j < wd.Feds.length ∧ j ≠ f := ⟨by omega, by have := hX.len; omega, d3⟩
  have hRR := hear_args (fd := fd) (N := N) (i := i) hargs
  rw [hR] at hRR
  refine ncP_p (fld_at (ld1_at hs2 0 rfl (v := .map (some b)) rfl ?_))
  refine lkM_s keyT_99 mapT_99 hs2 5 rfl j ?_
  rw [clk_lk hX.map]
  have key1 : ∀ (v22 : Value) (q23 : Bool), (q23 = decide (0 ≤ N.at' j)) → (0 ≤ N.at' j → v22 = .int .i64 (N.at' j)) →
      xt 0 (.tuple #[v22, .bool q23]) w1 fun t41 w => xt 1 (.tuple #[v22, .bool q23]) w fun t42 w => fld 0 (.pointer (some ⟨t5, 0, none⟩)) w fun t43 w => ld1 t43 w fun t44 w =>
      J2 (fun t8 t9 w => Cl prog 50 #[t9] w fun t91 w => K (Value.tuple #[t8, t91]) w) fun k1 =>
      J0 (fun w => fld 0 (.pointer (some ⟨t5, 0, none⟩)) w fun t76 w => ld1 t76 w fun t77 w => bi .eql .i64 t77 (Value.int IntKind.i64 1) w fun t78 w =>
        J1 (fun t13 w => fld 1 (.pointer (some ⟨t5, 0, none⟩)) w fun t84 w => ldN 6 t84 w fun t85 w => clV prog t13 #[.int .i64 j, t85] w fun t86 w => xt 0 t86 w fun t87 w => xt 1 t86 w fun t88 w => k1 t87 t88 w) fun k3 =>
        iff' t78 (k3 (Value.func (Fn.func 49) #[.pointer (some ⟨n, 0, none⟩)] #[]) w) (k3 (Value.func (Fn.func 48) #[.pointer (some ⟨n, 0, none⟩)] #[]) w)) fun k2 =>
      bi .eql .i64 t44 (Value.int IntKind.i64 2) w fun t46 w => iff' t46
      (fld 1 (.pointer (some ⟨t5, 0, none⟩)) w fun t51 w => fld 0 t51 w fun t52 w => fld 0 t52 w fun t53 w => ld1 t53 w fun t54 w => bnot t42 w fun t57 w => gd t57 false (fun k => k t54 w) w fun t59 w => gd t57 false (fun k => Cl prog 47 #[t59] w k) w fun t60 w => gd t57 false (fun k => bnot t60 w k) w fun t61 w => pk t57 (Value.bool true) t61 w fun t62 w => iff' t62
        (K (Value.tuple #[(Value.slice none 0 0), (Value.int IntKind.i64 1)]) w)
        (bi .lss .i64 t54 t41 w fun t66 w => iff' t66 (K (Value.tuple #[(Value.slice none 0 0), (Value.int IntKind.i64 110)]) w)
          (ncP (.pointer (some ⟨n, 0, none⟩)) <| fld 9 (.pointer (some ⟨n, 0, none⟩)) w fun t69 w => ld1 t69 w fun t70 w => upM prog 99 t70 (.int .i64 j) t54 w fun _ w => K (Value.tuple #[(Value.slice none 0 0), (Value.int IntKind.i64 0)]) w)))
      (bi .eql .i64 t44 (Value.int IntKind.i64 1) w fun t48 w => iff' t48 (iff' t42 (K (Value.tuple #[(Value.slice none 0 0), (Value.int IntKind.i64 1)]) w) (k2 w))
        (bi .eql .i64 t44 (Value.int IntKind.i64 0) w fun t50 w => iff' t50 (k2 w) (K (Value.tuple #[(Value.slice none 0 0), (Value.int IntKind.i64 130)]) w))) := by
    intro v22 q23 hq hv
    refine xt_02 (xt_12 (fld_at (ld1_at hs2 7 rfl (v := .int .i64 i.Kind) rfl ?_)))
    refine J2.cut (fun t8 t9 w => (R.e = 0 ∧ t9 = .nilIface ∧ Sat e w (DI t8 R.out :: IsWarp n wd f fd R.N k :: Q)) ∨ (oneErr R.e ∧ R = ⟨R.e, [], N⟩ ∧ t8 = .slice none 0 0 ∧ ∃ t, t9 = erV t ∧ Sat e w (BT t i.m.key R.e :: IsWarp n wd f fd N k :: Q))) (fun k1 hk1 => ?_) ?_
    rotate_left
    · rintro t8 t9 w' (⟨h0, rfl, h⟩ | ⟨h0, h1, rfl, t, rfl, h⟩)
      · refine errno_nil h fun w2 h2 => ?_
        rw [← h0]
        exact hk _ _ h2
      · exact errno_s h h0 fun w2 h2 => bad R.e _ h1 h2
    refine J0.cut (fun w' => w' = w1 ∧ (i.Kind = 0 ∨ (i.Kind = 1 ∧ N.at' j < 0))) (fun k2 hk2 => ?_) ?_
    rotate_left
    · rintro w' ⟨rfl, hkd⟩
      refine fld_at (ld1_at hs2 7 rfl (v := .int .i64 i.Kind) rfl (eq_d ?_))
      have hback : ∀ {t : Nat} {er : Int} {w'}, Sat e w' (BT t i.m.key er :: IsWarp n wd f fd N k :: blk t5 43 i.cs :: Q) → Sat e w' (BT t i.m.key er :: IsWarp n wd f fd N k :: Q) := fun h => h.selR [_, _, _] [_, _] [0, 1] (by decide) rfl
      have hfail : ∀ {t : Nat} {er : Int} {w'}, oneErr er → R = ⟨er, [], N⟩ → Sat e w' (BT t i.m.key er :: IsWarp n wd f fd N k :: blk t5 43 i.cs :: Q) → k1 (.slice none 0 0) (erV t) w' := fun ho hr h => by
        refine hk1 _ _ _ (.inr ⟨by rw [hr]; exact ho, by rw [hr], rfl, _, rfl, ?_⟩)
        rw [hr]
        exact hback h
      have hs3 := hs1.swap
      refine J1.cut (fun t13 w2 => w2 = w' ∧ ((i.Kind = 0 ∧ t13 = Value.func (Fn.func 48) #[.pointer (some ⟨n, 0, none⟩)] #[]) ∨ (i.Kind = 1 ∧ N.at' j < 0 ∧ t13 = Value.func (Fn.func 49) #[.pointer (some ⟨n, 0, none⟩)] #[]))) (fun k3 hk3 => ?_) ?_
      · rcases hkd with h0 | ⟨h0, h00⟩
        · rw [h0]
          exact iff_f (hk3 _ _ ⟨rfl, .inl ⟨h0, rfl⟩⟩)
        · rw [h0]
          exact iff_t (hk3 _ _ ⟨rfl, .inr ⟨h0, h00, rfl⟩⟩)
      rintro t13 _ ⟨rfl, hkk⟩
      refine fld_at (ldN_at hs1 0 (vs := i.m.cs) rfl (by rfl) rfl ?_)
      rcases hkk with ⟨h0, rfl⟩ | ⟨h0, h00, rfl⟩
      · rw [if_neg (by omega), if_pos h0] at hRR
        refine ⟨_, _, _, rfl, ?_⟩
        refine plain_s (j := j) (m := i.m) hs3 (fun c1 t w2 h => ?_) (fun c1 c2 t w2 h => ?_) (fun c1 c2 c3 t w2 h => ?_) (fun c1 c2 c3 => ?_)
        · rw [if_pos (show i.m.key.T < N.fl ∨ (0 ≤ N.at' j ∧ i.m.key.T < N.at' j) from c1)] at hRR
          exact xt_02 (xt_12 (hfail (.inl rfl) hRR h))
        · rw [if_neg (show ¬ (i.m.key.T < N.fl ∨ (0 ≤ N.at' j ∧ i.m.key.T < N.at' j)) from c1), if_pos c2] at hRR
          exact xt_02 (xt_12 (hfail (.inr (.inl rfl)) hRR h))
        · rw [if_neg (show ¬ (i.m.key.T < N.fl ∨ (0 ≤ N.at' j ∧ i.m.key.T < N.at' j)) from c1), if_neg (by rw [c2]; decide), if_pos c3] at hRR
          exact xt_02 (xt_12 (hfail (.inr (.inr (.inr rfl))) hRR h))
        · rw [if_neg (show ¬ (i.m.key.T < N.fl ∨ (0 ≤ N.at' j ∧ i.m.key.T < N.at' j)) from c1), if_neg (by rw [c2]; decide), if_neg c3] at hRR
          subst hRR
          exact ⟨hN', fun v w2 h => xt_02 (xt_12 (hk1 _ _ _ (.inl ⟨rfl, rfl, h.selR [_, _, _] [_, _] [0, 1] (by decide) rfl⟩)))⟩
      · rw [if_neg (by omega), if_neg (by omega), if_pos h0, if_neg (by omega)] at hRR
        refine ⟨_, _, _, rfl, ?_⟩
        refine anti_s (j := j) (m := i.m) h00 hs3 (fun c1 t w2 h => ?_) (fun c1 c2 => ?_) (fun c1 c2 c3 t w2 h => ?_) (fun c1 c2 c3 c4 t w2 h => ?_) (fun c1 c2 c3 c4 => ?_)
        · rw [if_pos c1] at hRR
          exact xt_02 (xt_12 (hfail (.inl rfl) hRR h))
        · rw [if_neg c1, if_pos c2] at hRR
          subst hRR
          exact ⟨hN', fun w2 h => xt_02 (xt_12 (hk1 _ _ _ (.inl ⟨rfl, rfl, (h.selR [_, _] [_] [0] (by decide) rfl).own_nil 43 8 NItem.cs⟩)))⟩
        · rw [if_neg c1, if_neg (by rw [c2]; decide), if_pos c3] at hRR
          exact xt_02 (xt_12 (hfail (.inr (.inr (.inl rfl))) hRR h))
        · rw [if_neg c1, if_neg (by rw [c2]; decide), if_neg (by rw [c3]; decide), if_pos c4] at hRR
          exact xt_02 (xt_12 (hfail (.inr (.inr (.inr rfl))) hRR h))
        · rw [if_neg c1, if_neg (by rw [c2]; decide), if_neg (by rw [c3]; decide), if_neg c4] at hRR
          subst hRR
          exact ⟨hN', fun v w2 h => xt_02 (xt_12 (hk1 _ _ _ (.inl ⟨rfl, rfl, h.selR [_, _, _] [_, _] [0, 1] (by decide) rfl⟩)))⟩
    have hsame : Sat e w1 (IsWarp n wd f fd N k :: Q) := hs1.selR [_, _] [_] [1] (by decide) rfl
    refine eq_c (fun c1 => iff_t ?_) (fun c1 => iff_f ?_)
    · rw [if_pos c1] at hRR
      refine fld_at (fld_at (fld_at (ld1_at hs2 7 rfl (v := .int .i64 i.m.key.T) rfl ?_)))
      by_cases d4 : 0 ≤ N.at' j
      · rw [decide_eq_true d4] at hq
        subst hq
        rw [hv d4]
        refine not_t (gd_ff (gd_ff (vtime_Valid_s ht (gd_ff ?_))))
        cases hval : validT i.m.key.T with
        | false =>
          rw [if_pos (.inr hval)] at hRR
          exact not_f (pk_f (iff_t (bad 1 _ hRR hsame)))
        | true =>
          rw [if_neg (fun h => h.elim (fun h => by omega) (fun h => by rw [hval] at h; cases h))] at hRR
          refine not_t (pk_f (iff_f ?_))
          refine lt_c (fun c2 => iff_t ?_) (fun c2 => iff_f ?_)
          · rw [if_pos c2] at hRR
            exact bad 110 _ hRR hsame
          · rw [if_neg c2] at hRR
            subst hRR
            have hvb := validT_bd hval
            refine ncP_p (fld_at (ld1_at hs2 0 rfl (v := .map (some b)) rfl ?_))
            refine upM_s keyT_99 mapT_99 hX.map.u (hs2.pick 5 rfl) j i.m.key.T (vf := kI) rfl fun w3 h3 => ?_
            have h4 := warp_mk (N := ⟨N.old, N.ms, N.q, N.fl, N.clk.set j.toNat i.m.key.T⟩) (X := X) (q := q) (p := p) (g := g) (b := b) (m := upA mm j i.m.key.T) (lv := lv) ⟨hX.eq, hX.short, hN', hX.map.up d4 hvb.1⟩ (h3.selR [_, _, _, _, _, _, _, _] [_, _, _, _, _, _, _] [1, 2, 3, 4, 5, 0, 6] (by decide) rfl)
            exact hk _ _ (h4.own_nil 43 8 NItem.cs)
      · rw [decide_eq_false d4] at hq
        subst hq
        rw [if_pos (.inl (by omega))] at hRR
        exact not_f (gd_tf (gd_tf (gd_tf (pk_t (iff_t (bad 1 _ hRR hsame))))))
    · rw [if_neg c1] at hRR
      refine eq_c (fun c2 => iff_t ?_) (fun c2 => iff_f ?_)
      · rw [if_neg (by omega), if_pos c2] at hRR
        by_cases d4 : 0 ≤ N.at' j
        · rw [decide_eq_true d4] at hq
          subst hq
          rw [if_pos d4] at hRR
          exact iff_t (bad 1 _ hRR hsame)
        · rw [decide_eq_false d4] at hq
          subst hq
          exact iff_f (hk2 _ ⟨rfl, .inr ⟨c2, by omega⟩⟩)
      · refine eq_c (fun c3 => iff_t (hk2 _ ⟨rfl, .inl c3⟩)) (fun c3 => iff_f ?_)
        rw [if_neg c3, if_neg c2] at hRR
        exact bad 130 _ hRR hsame
  by_cases d4 : 0 ≤ N.at' j
  · rw [if_pos d4]
    exact key1 _ _ (by rw [decide_eq_true d4]; rfl) fun _ => rfl
  · rw [if_neg d4]
    exact key1 _ _ (by rw [decide_eq_false d4]; rfl) fun h => absurd h d4
end Go.Proofs.YtbopajpmadlmhaaGreat
end
section
namespace Go.Proofs.YtbopajpmadlmhaaGreat
open Go Go.E
set_option maxRecDepth 100000
variable {e w : World} {L Q R : List HP} {K : KV} {S S2 : HP}
variable {n f k : Nat} {wd : Wd} {fd : Fed} {N : WN}

theorem leastT_spec (l : List Int) : leastT l ≤ Inf ∧ (∀ x ∈ l, leastT l ≤ clampT x) ∧ (leastT l = Inf ∨ ∃ x ∈ l, leastT l = clampT x) := by
  refine ⟨leastT_inf l, fun x hx => leastT_le hx, ?_⟩
  unfold leastT
  have key : ∀ (l : List Int) (n : Int), l.foldl (fun n t => min n (clampT t)) n = n ∨ ∃ x ∈ l, l.foldl (fun n t => min n (clampT t)) n = clampT x := by
    intro l
    induction l with
    | nil => exact fun n => .inl rfl
    | cons a l ih =>
      intro n
      rw [List.foldl_cons]
      rcases ih (min n (clampT a)) with h | ⟨x, hx, h⟩
      · rcases Int.le_total n (clampT a) with h2 | h2
        · left; omega
        · right; exact ⟨a, List.mem_cons_self .., by omega⟩
      · right; exact ⟨x, List.mem_cons_of_mem _ hx, h⟩
  exact key l Inf
theorem leastT_set {a b : List Int} (h : ∀ x, x ∈ a ↔ x ∈ b) : leastT a = leastT b := by
  obtain ⟨a1, a2, a3⟩ := leastT_spec a
  obtain ⟨b1, b2, b3⟩ := leastT_spec b
  have h1 : leastT a ≤ leastT b := by
    rcases b3 with h3 | ⟨x, hx, h3⟩
    · omega
    · have := a2 x ((h x).2 hx); omega
  have h2 : leastT b ≤ leastT a := by
    rcases a3 with h3 | ⟨x, hx, h3⟩
    · omega
    · have := b2 x ((h x).1 hx); omega
  omega
theorem clk_vals {m : List (Int × Int)} (h : ClkM N.clk m) (x : Int) : x ∈ m.map (·.2) ↔ x ∈ N.clk.filter fun t => decide (0 ≤ t) := by
  rw [List.mem_filter, decide_eq_true_iff]
  constructor
  · intro hx
    obtain ⟨⟨j, y⟩, hp, rfl⟩ := List.mem_map.1 hx
    have hf : lkA m j = some y := by
      unfold lkA
      rw [find_uniq h.u hp]
      rfl
    rw [h.lk j] at hf
    split at hf
    · rename_i h0
      have hy : clkAt N.clk j = y := Option.some.inj hf
      rw [hy] at h0
      refine ⟨?_, h0⟩
      unfold clkAt at hy
      split at hy
      · rw [List.getD_eq_getElem?_getD] at hy
        cases hg : N.clk[j.toNat]? with
        | none => rw [hg] at hy; simp at hy; show y ∈ N.clk; omega
        | some z => rw [hg] at hy; simp at hy; subst hy; exact List.mem_of_getElem? hg
      · show y ∈ N.clk; omega
    · cases hf
  · rintro ⟨hx, h0⟩
    obtain ⟨i, hi⟩ := List.getElem?_of_mem hx
    have hc : clkAt N.clk i = x := by
      unfold clkAt
      rw [if_pos (by omega), Int.toNat_natCast, List.getD_eq_getElem?_getD, hi]
      rfl
    have hl := h.lk i
    rw [hc, if_pos h0] at hl
    unfold lkA at hl
    obtain ⟨p, hp, hv⟩ := Option.map_eq_some_iff.1 hl
    exact List.mem_map.2 ⟨p, List.mem_of_find?_eq_some hp, hv⟩
theorem int_flat' : ∀ x : Int, ∀ v ∈ intsK .i64 x, flat v = true := fun _ _ h => by simp [intsK] at h; subst h; rfl
theorem pick_perm' {α : Type} : ∀ (l : List α) (i : Nat) (x : α), l[i]? = some x → l.Perm (x :: l.eraseIdx i)
  | [], i, x, h => by simp at h
  | y :: l, 0, x, h => by
    simp at h
    subst h
    exact List.Perm.refl _
  | y :: l, i + 1, x, h => by
    simp only [List.getElem?_cons_succ] at h
    simp only [List.eraseIdx_cons_succ]
    exact ((pick_perm' l i x h).cons y).trans (List.Perm.swap _ _ _)
theorem warp_Local_s (hS : Sat e w (IsWarp n wd f fd N k :: Q)) (hk : ∀ w', Sat e w' (IsWarp n wd f fd N k :: Q) → K (.int .i64 (localW N)) w') : Cl prog 21 #[.pointer (some ⟨n, 0, none⟩)] w K := by
  refine warp_Node_Local_calls ?_
  unfold warp_Node_Local
  obtain ⟨X, q, p, g, b, m, lv, hX, h1⟩ := warp_of hS
  refine ncP_p (fld_at (ld1_at h1 0 rfl (v := .pointer (some ⟨q, 0, none⟩)) rfl ?_))
  refine q_First_s (h1.pick 1 rfl) fun w2 h2 => ?_
  refine xt_02 (xt_12 ?_)
  rw [zero_37]
  refine al_s (cs := Msg.zero.cs) h2 rfl fun t4 w3 h3 => ?_
  refine stN_at h3 0 rfl (vs := (hdM N.q).cs) rfl rfl (by decide) (ints_flat _) (cs' := (hdM N.q).cs) (by rfl) fun w4 h4 => ?_
  replace h4 : Sat e w4 (blk t4 37 (hdM N.q).cs :: IsQ q N.q :: BW n X f (N.now fd).1 (N.now fd).2 q p g b lv :: IsPast p N.fl (N.past wd f fd) :: IsGate g N.fl (gateE wd (N.past wd f fd)) :: WdOwn X :: isMap kI kI b m :: DD lv (N.log wd f fd) :: Q) := h4
  generalize hbase : (if hasM N.q = true then [(hdM N.q).key.T] else []) = base
  have hbl : base.length ≤ 1 := by rw [← hbase]; split <;> simp
  refine J1.cut (fun t3 w => Sat e w (ownS 3 1 (intsK .i64) t3 base :: IsQ q N.q :: BW n X f (N.now fd).1 (N.now fd).2 q p g b lv :: IsPast p N.fl (N.past wd f fd) :: IsGate g N.fl (gateE wd (N.past wd f fd)) :: WdOwn X :: isMap kI kI b m :: DD lv (N.log wd f fd) :: Q)) (fun k1 hk1 => ?_) ?_
  · cases hq : hasM N.q with
    | false =>
      rw [hq, if_neg (by decide)] at hbase
      subst hbase
      exact iff_f (hk1 _ _ (h4.drop.own_nil 3 1 (intsK .i64)))
    | true =>
      rw [hq, if_pos rfl] at hbase
      subst hbase
      refine iff_t (fld_at (fld_at (ld1_at h4 0 rfl (v := .int .i64 (hdM N.q).key.T) rfl ?_)))
      refine push1 te_24 (f := intsK .i64) (fun _ => rfl) int_flat' (h4.own_nil 3 1 (intsK .i64)) (x := (hdM N.q).key.T) rfl (by simp) fun v w5 h5 => hk1 _ _ ?_
      exact h5.selR [_, _] [_] [0] (by decide) rfl
  intro t3 w5 h5
  refine ncP_p (fld_at (ld1_at h5 2 rfl (v := .map (some b)) rfl ?_))
  refine rgM_s und_99 (h5.pick 6 rfl) fun r w6 h6 => ?_
  have hml := hX.map.len
  refine lpi1 (fun mm t w => ∃ (ys : List Int) (rem : List (Int × Int)) (cur : Option (Int × Int)), Sat e w (rngM kI kI b r m rem cur :: ownS 3 1 (intsK .i64) t ys :: IsQ q N.q :: BW n X f (N.now fd).1 (N.now fd).2 q p g b lv :: IsPast p N.fl (N.past wd f fd) :: IsGate g N.fl (gateE wd (N.past wd f fd)) :: WdOwn X :: DD lv (N.log wd f fd) :: Q) ∧
    (∀ x, (x ∈ ys ∨ x ∈ rem.map (·.2)) ↔ (x ∈ base ∨ x ∈ m.map (·.2))) ∧ ys.length + rem.length ≤ 1001 ∧ mm = rem.length) m.length
    ⟨base, m, none, h6, fun x => Iff.rfl, by omega, rfl⟩ ?_
  rintro mm t w7 g1 ⟨ys, rem, cur, h7, hmem, hlen, rfl⟩ hg1
  refine nxM_s h7 (fun hr w8 h8 => ?_) (fun i pr w8 hp h8 => ?_)
  · refine xt_s rfl (iff_f ?_)
    refine vtime_Least_s (l := ys) (h8.pick 1 rfl) (fun g hg => own_rd hg) (by omega) fun w9 h9 => ?_
    have he : leastT ys = localW N := by
      unfold localW
      rw [hbase]
      refine leastT_set fun x => ?_
      have := hmem x
      rw [hr, List.map_nil] at this
      rw [List.mem_append, ← clk_vals hX.map x]
      simpa using this
    rw [he]
    have h10 := (h9.swap).imp rngM_map
    exact hk _ (warp_mk hX (h10.selR [_, _, _, _, _, _, _, _] [_, _, _, _, _, _, _] [3, 2, 4, 5, 6, 0, 7] (by decide) rfl))
  · refine xt_s rfl (iff_t ?_)
    refine enM_s 0 h8 rfl ?_
    refine xt_s rfl ?_
    refine push1 te_24 (f := intsK .i64) (fun _ => rfl) int_flat' (h8.pick 1 rfl) (x := pr.2) rfl (by omega) fun v w9 h9 => ?_
    have hil := (List.getElem?_eq_some_iff.1 hp).1
    have hpm : pr ∈ rem := List.mem_of_getElem? hp
    have hperm := pick_perm' rem i pr hp
    have hle : (rem.eraseIdx i).length + 1 = rem.length := by have := hperm.length_eq; rw [List.length_cons] at this; omega
    refine hg1 _ _ _ (by omega) ⟨ys ++ [pr.2], rem.eraseIdx i, some pr, h9.swap, fun x => ?_, by rw [List.length_append, List.length_singleton]; omega, rfl⟩
    rw [← hmem x, (hperm.map (·.2)).mem_iff, List.map_cons, List.mem_cons, List.mem_append, List.mem_singleton]
    constructor
    · rintro ((h | h) | h)
      · exact .inl h
      · exact .inr (.inl h)
      · exact .inr (.inr h)
    · rintro (h | h | h)
      · exact .inl (.inl h)
      · exact .inl (.inr h)
      · exact .inr h
end Go.Proofs.YtbopajpmadlmhaaGreat
end
section
namespace Go.Proofs.YtbopajpmadlmhaaGreat
open Go Go.E
set_option maxRecDepth 100000
variable {e w : World} {L Q R : List HP} {K : KV} {S S2 : HP}
variable {n f k : Nat} {wd : Wd} {fd : Fed} {N : WN}

theorem commit_base (t : Int) : (commitWN N t).base fd = endE fd (N.base fd) (earlyM t N.ms) := endE_app fd N.old _ _
theorem commit_now (h : WOk wd f fd N k) (t : Int) : (commitWN N t).now fd = N.now fd := by
  unfold WN.now
  rw [commit_base]
  show endE fd (endE fd (N.base fd) (earlyM t N.ms)) (lateM t N.ms) = _
  rw [← endE_app, early_late h.ups]
theorem commit_past (h : WOk wd f fd N k) (t : Int) : (commitWN N t).past wd f fd = backE t (N.past wd f fd) := by
  unfold WN.past
  rw [commit_base]
  exact (runE_cut (early_cut h.ups t)).2.symm
theorem commit_front (h : WOk wd f fd N k) (t : Int) : frontE t (N.past wd f fd) = settledE wd f fd N t := (runE_cut (early_cut h.ups t)).1
theorem commit_log (t : Int) : (commitWN N t).log wd f fd = N.log wd f fd ++ (settledE wd f fd N t).map doneE := by
  show (runE wd f fd (begE fd) (N.old ++ earlyM t N.ms)).map doneE = _
  rw [runE_app, List.map_append]
  rfl
theorem past_up (h : WOk wd f fd N k) : (N.past wd f fd).Pairwise fun a b => KeyLt a.m.key b.m.key := runE_up h.ups
def openedW (wd : Wd) (f : Nat) (fd : Fed) (N : WN) (t : Int) : List Msg := (gateE wd (settledE wd f fd N t)).map Kept.m
theorem log_few (h : WOk wd f fd N k) : (N.log wd f fd).length ≤ k := by
  have := h.cnt
  unfold WN.log
  rw [List.length_map, runE_len]
  omega
theorem warp_Commit_s {t : Int} (hk0 : k ≤ 1000) (hS : Sat e w (IsWarp n wd f fd N k :: Q))
    (hno : commitWE N t ≠ 0 → ∀ w', Sat e w' (IsWarp n wd f fd N k :: Q) → K (.tuple #[.slice none 0 0, .slice none 0 0, .int .i64 (commitWE N t)]) w')
    (hyes : commitWE N t = 0 → ∀ v u w', Sat e w' (DD v ((settledE wd f fd N t).map doneE) :: ownS 37 6 Msg.cs u (openedW wd f fd N t) :: IsWarp n wd f fd (commitWN N t) k :: Q) → K (.tuple #[v, u, .int .i64 0]) w') :
    Cl prog 20 #[.pointer (some ⟨n, 0, none⟩), .int .i64 t] w K := by
  refine warp_Node_Commit_calls ?_
  unfold warp_Node_Commit
  obtain ⟨X, q, p, g, b, m, lv, hX, h1⟩ := warp_of hS
  refine ncP_p (fld_at (ld1_at h1 0 rfl (v := .pointer (some ⟨p, 0, none⟩)) rfl ?_))
  refine past_Floor_s (h1.pick 2 rfl) ?_
  refine lt_c (fun c => iff_t ?_) (fun c => iff_f ?_)
  · have he : commitWE N t = 110 := if_pos c
    rw [he] at hno
    exact hno (by decide) _ hS
  refine warp_Local_s hS fun w2 h2 => ?_
  refine gt_c (fun c2 => iff_t ?_) (fun c2 => iff_f ?_)
  · have he : commitWE N t = 130 := by unfold commitWE; rw [if_neg c, if_pos c2]
    rw [he] at hno
    exact hno (by decide) _ h2
  have he : commitWE N t = 0 := by unfold commitWE; rw [if_neg c, if_neg c2]
  clear h1
  obtain ⟨X, q, p, g, b, m, lv, hX, h1⟩ := warp_of h2
  have hok := hX.ok
  refine ncP_p (fld_at (ld1_at h1 0 rfl (v := .pointer (some ⟨p, 0, none⟩)) rfl ?_))
  refine past_Settle_s (h1.pick 2 rfl) fun v w3 h3 => ?_
  rw [commit_front hok, ← commit_past hok] at h3
  obtain ⟨xs, hxs, h4⟩ := ens_of h3
  generalize hse : settledE wd f fd N t = se at hxs hyes
  have hsl : se.length ≤ 64 := by
    rw [← hse]
    unfold settledE
    rw [runE_len]
    exact Nat.le_trans (List.length_filter_le _ _) hok.ml
  have hxl : xs.length = se.length := by rw [← hxs, List.length_map]
  refine lnS_rd h4 0 rfl (fun g hg => own_rd hg) ?_
  rw [zero_113]
  replace h4 : Sat e w3 (DE v xs :: sepL (xs.map eOwn) :: IsPast p (max N.fl t) ((commitWN N t).past wd f fd) :: BW n X f (N.now fd).1 (N.now fd).2 q p g b lv :: IsQ q N.q :: IsGate g N.fl (gateE wd (N.past wd f fd)) :: WdOwn X :: isMap kI kI b m :: DD lv (N.log wd f fd) :: Q) := h4
  refine lpi2 (fun mm t7 t30 w => ∃ j : Nat, j ≤ se.length ∧ t30 = .int .i64 j ∧ mm = se.length - j ∧ Sat e w (DD t7 ((se.take j).map doneE) :: DE v xs :: sepL (xs.map eOwn) :: IsPast p (max N.fl t) ((commitWN N t).past wd f fd) :: BW n X f (N.now fd).1 (N.now fd).2 q p g b lv :: IsQ q N.q :: IsGate g N.fl (gateE wd (N.past wd f fd)) :: WdOwn X :: isMap kI kI b m :: DD lv (N.log wd f fd) :: Q)) se.length
    ⟨0, Nat.zero_le _, rfl, rfl, h4.own_nil 45 7 Done.cs⟩ ?_
  rintro mm t7 _ w g1 ⟨j, hj, rfl, rfl, h5⟩ hg1
  rw [hxl]
  refine lt_c (fun c3 => iff_t ?_) (fun c3 => iff_f ?_)
  · obtain ⟨x, hx⟩ := get_of_lt (l := xs) (j := j) (by omega)
    have hxe : se[j]? = some x.e := by rw [← hxs, List.getElem?_map, hx]; rfl
    refine ixS_rd h5 1 rfl (fun g hg => own_rd hg) (fun _ => rfl) hx fun a ha => ldN_of h5 1 rfl ha rfl ?_
    refine al_s (cs := EnX.zero.cs) h5 rfl fun t9 w6 h6 => ?_
    refine stN_at h6 0 rfl (vs := x.cs) rfl rfl (by simp [EnX.zero, EnX.cs]) (EnX.flat (en_flat 3 h6 rfl (List.mem_of_getElem? hx))) (cs' := x.cs) (by rfl) fun w7 h7 => ?_
    refine fld_at (ldN_at h7 0 (vs := x.m.cs) rfl (by rfl) rfl (fld_at (ld1_at h7 0 rfl (v := .int .i64 x.st) rfl ?_)))
    refine bld_s (doneE x.e).cs (by kernel_rfl) ?_
    refine push1 te_52 (f := Done.cs) (fun _ => rfl) (fun _ => ints_flat _) (h7.pick 1 rfl) (x := doneE x.e) rfl (by rw [List.length_map, List.length_take]; omega) fun v' w8 h8 => ?_
    refine inc_s (by omega) ?_
    refine hg1 _ _ _ _ (by omega) ⟨j + 1, by omega, rfl, rfl, ?_⟩
    rw [take_snoc hxe, List.map_append]
    exact h8.selR [_, _] [_] [0] (by decide) rfl
  · have ej : j = se.length := by omega
    rw [ej, List.take_length] at h5
    refine ncP_p (fld_at (ld1_at h5 4 rfl (v := lv) rfl ?_))
    have hlf := log_few hok
    refine apS_own te_52 te_52.und (f := Done.cs) (l := N.log wd f fd) (m := se.map doneE) (fun _ => rfl) (fun _ => ints_flat _) (h5.selR [_, _, _, _, _, _, _, _, _, _] [_, _, _, _, _, _, _, _, _, _] [9, 0, 1, 2, 3, 4, 5, 6, 7, 8] (by decide) rfl) (fun g hg => own_rd hg) (by rw [List.length_map]; omega) fun lv' w6 h6 => ?_
    have q1 := h6.own_cells 0 rfl
    refine ncP_p (fld_at (stN_at h6 5 rfl (vs := [lv']) q1.1 rfl (Nat.le_of_ble_eq_true rfl) (fun c hc => by rw [List.mem_singleton.1 hc]; exact q1.2) (cs' := wcs X f (N.now fd).1 (N.now fd).2 q p g b lv') (by rfl) fun w7 h7 => ?_))
    replace h7 : Sat e w7 (DD lv' (N.log wd f fd ++ se.map doneE) :: DD t7 (se.map doneE) :: DE v xs :: sepL (xs.map eOwn) :: IsPast p (max N.fl t) ((commitWN N t).past wd f fd) :: BW n X f (N.now fd).1 (N.now fd).2 q p g b lv' :: IsQ q N.q :: IsGate g N.fl (gateE wd (N.past wd f fd)) :: WdOwn X :: isMap kI kI b m :: Q) := h7
    refine ncP_p (fld_at (ld1_at h7 5 rfl (v := .pointer (some ⟨g, 0, none⟩)) rfl ?_))
    refine gate_Open_s t (h7.pick 7 rfl) (gate_few hok) fun u w8 h8 => ?_
    obtain ⟨hft, _⟩ := commitE_ok he
    have hmax : max N.fl t = t := by omega
    have hop : openR (gateE wd (N.past wd f fd)) t = gateE wd se := by
      rw [gate_opened (past_up hok), ← hse, ← commit_front hok]
      rfl
    have hleft : openL (gateE wd (N.past wd f fd)) t = gateE wd ((commitWN N t).past wd f fd) := by
      rw [gate_left, commit_past hok]
      rfl
    rw [hmax, hop, hleft] at h8
    have hlog : N.log wd f fd ++ se.map doneE = (commitWN N t).log wd f fd := by rw [commit_log, hse]
    rw [hlog] at h8
    have hnow := commit_now hok t
    rw [← hnow] at h8
    have hop2 : openedW wd f fd N t = (gateE wd se).map Kept.m := by unfold openedW; rw [hse]
    rw [hop2] at hyes
    have h9 := warp_mk (N := commitWN N t) (X := X) (q := q) (p := p) (g := g) (b := b) (m := m) (lv := lv') ⟨hX.eq, hX.short, hok.commit he, hX.map⟩ (h8.selR [_, _, _, _, _, _, _, _, _, _, _] [_, _, _, _, _, _, _, _, _] [7, 8, 6, 1, 9, 10, 2, 3, 0] (by decide) rfl)
    exact hyes he t7 u _ (h9.selR [_, _, _] [_, _, _] [1, 2, 0] (by decide) rfl)

theorem last_lt {l : List Msg} {b : Int × Int} {m : Msg} (h : Upk (l ++ [m])) : lastLt (runE wd f fd b l) m.key := by
  intro x hx
  have h1 := List.mem_of_getLast? hx
  exact h.mid (runE_mem h1).1 (by simp)
theorem step_past {m : Msg} {r : List Msg} (hq : N.q = m :: r) : (stepWN N).past wd f fd = N.past wd f fd ++ [entB wd f fd (N.now fd) m] := by
  rw [step_line hq]
  show runE wd f fd (N.base fd) (N.ms ++ [m]) = _
  rw [runE_app]
  rfl
theorem step_now {m : Msg} {r : List Msg} (hq : N.q = m :: r) : (stepWN N).now fd = nextB fd (N.now fd) m := by
  rw [step_line hq]
  show endE fd (N.base fd) (N.ms ++ [m]) = _
  rw [endE_app]
  rfl
theorem step_gate {m : Msg} {r : List Msg} (hq : N.q = m :: r) : gateE wd ((stepWN N).past wd f fd) = gateE wd (N.past wd f fd) ++ keptE wd (entB wd f fd (N.now fd) m) := by
  rw [step_past hq, gate_app]
  congr 1
  exact List.flatMap_singleton ..
theorem warp_Step_s (hk0 : k ≤ 1000) (hS : Sat e w (IsWarp n wd f fd N k :: Q))
    (hno : stepWE wd f fd N ≠ 0 → ∀ w', Sat e w' (IsWarp n wd f fd N k :: Q) → K (.tuple #[.agg Done.zero.cs.toArray, .slice none 0 0, .int .i64 (stepWE wd f fd N)]) w')
    (hyes : stepWE wd f fd N = 0 → ∀ v w', Sat e w' (DI v (stepI wd (stepEn wd f fd N)) :: IsWarp n wd f fd (stepWN N) (k + 1) :: Q) → K (.tuple #[.agg (doneE (stepEn wd f fd N)).cs.toArray, v, .int .i64 0]) w') :
    Cl prog 15 #[.pointer (some ⟨n, 0, none⟩)] w K := by
  refine warp_Node_Step_calls ?_
  unfold warp_Node_Step
  rw [zero_45, zero_37]
  refine al_s (cs := Done.zero.cs) hS rfl fun t2 w1 h1 => ?_
  obtain ⟨X, q, p, g, b, mm, lv, hX, h2⟩ := warp_of h1.swap
  have hok := hX.ok
  have hEnd : X.End = wd.End := congrArg Wd.End hX.eq
  refine ncP_p (fld_at (ld1_at h2 0 rfl (v := .pointer (some ⟨q, 0, none⟩)) rfl ?_))
  refine q_First_s (h2.pick 1 rfl) fun w3 h3 => ?_
  refine xt_02 (xt_12 ?_)
  refine al_s (cs := Msg.zero.cs) h3 rfl fun t5 w4 h4 => ?_
  refine stN_at h4 0 rfl (vs := (hdM N.q).cs) rfl rfl (by decide) (ints_flat _) (cs' := (hdM N.q).cs) (by rfl) fun w5 h5 => ?_
  replace h5 : Sat e w5 (blk t5 37 (hdM N.q).cs :: IsQ q N.q :: BW n X f (N.now fd).1 (N.now fd).2 q p g b lv :: IsPast p N.fl (N.past wd f fd) :: IsGate g N.fl (gateE wd (N.past wd f fd)) :: WdOwn X :: isMap kI kI b mm :: DD lv (N.log wd f fd) :: blk t2 45 Done.zero.cs :: Q) := h5
  refine dr_s h5 fun w6 h6 => ?_
  have refuse : ∀ (er : Int) (w' : World), stepWE wd f fd N = er → er ≠ 0 → Sat e w' (blk t5 37 (hdM N.q).cs :: IsQ q N.q :: BW n X f (N.now fd).1 (N.now fd).2 q p g b lv :: IsPast p N.fl (N.past wd f fd) :: IsGate g N.fl (gateE wd (N.past wd f fd)) :: WdOwn X :: isMap kI kI b mm :: DD lv (N.log wd f fd) :: blk t2 45 Done.zero.cs :: Q) →
      bld (zeroD prog 45) #[(0, 6), (6, 1)] [] w' fun t35 w => stN 7 (.pointer (some ⟨t2, 0, none⟩)) t35 w fun _ w => ldN 7 (.pointer (some ⟨t2, 0, none⟩)) w fun r0 _ => K (Value.tuple #[r0, (Value.slice none 0 0), (Value.int IntKind.i64 er)]) w := by
    intro er w' he hne h
    refine bld_s Done.zero.cs (by kernel_rfl) ?_
    refine stN_at h 8 rfl (vs := Done.zero.cs) rfl rfl (by decide) (ints_flat _) (cs' := Done.zero.cs) (by kernel_rfl) fun w7 h7 => ?_
    refine ldN_at h7 8 (vs := Done.zero.cs) rfl (by rfl) rfl ?_
    subst he
    exact hno hne _ (warp_mk hX (h7.selR [_, _, _, _, _, _, _, _, _] [_, _, _, _, _, _, _] [2, 1, 3, 4, 5, 6, 7] (by decide) rfl))
  cases hq : hasM N.q with
  | false =>
    refine not_f (gd_tf (gd_tf (gd_tf (gd_tf (gd_tf (gd_tf (gd_tf (gd_tf (gd_tf (pk_t (iff_t ?_)))))))))))
    exact refuse 150 _ (if_pos (fun h => by rw [hq] at h; cases h.1)) (by decide) h6
  | true =>
    refine not_t (gd_ff (fld_at (gd_ff (fld_at (gd_ff (ld1_at h6 0 rfl (v := .int .i64 (hdM N.q).key.T) rfl ?_))))))
    refine gd_ff (gd_ff (nc_p (gd_ff (fld_at (gd_ff (fld_at (gd_ff (ld1_at h6 2 rfl (v := .int .i64 X.End) rfl (gd_ff ?_)))))))))
    refine ge_c (fun c1 => pk_f (iff_t ?_)) (fun c1 => pk_f (iff_f ?_))
    · exact refuse 150 _ (if_pos (fun h => by have := h.2; omega)) (by decide) h6
    have hc : ¬ ¬ (hasM N.q = true ∧ (hdM N.q).key.T < wd.End) := fun h => h ⟨hq, by omega⟩
    refine ncP_p (fld_at (ld1_at h6 2 rfl (v := .pointer (some ⟨p, 0, none⟩)) rfl ?_))
    refine past_Len_s (h6.pick 3 rfl) ?_
    have hpl : (N.past wd f fd).length = N.ms.length := runE_len ..
    rw [hpl]
    have hml := hok.ml
    by_cases c2 : (64 : Int) ≤ N.ms.length
    · refine ge_t c2 (gd_tf (gd_tf (gd_tf (gd_tf (gd_tf (gd_tf (gd_tf (pk_t (iff_t ?_)))))))))
      exact refuse 2 _ (by unfold stepWE; rw [if_neg hc, if_pos (.inl (by omega))]) (by decide) h6
    refine ge_f c2 (gd_ff (gd_ff (nc_p (gd_ff (fld_at (gd_ff (ld1_at h6 2 rfl (v := .pointer (some ⟨g, 0, none⟩)) rfl (gd_ff ?_))))))))
    refine gate_Held_s (h6.pick 4 rfl) (gate_few hok) fun v48 w7 h7 => ?_
    have hgl := gate_few hok
    refine gd_ff (lnS_rd h7 0 rfl (fun g hg => own_rd hg) (gd_ff ?_))
    rw [List.length_map]
    replace h7 : Sat e w7 (ownS 37 6 Msg.cs v48 ((gateE wd (N.past wd f fd)).map Kept.m) :: IsGate g N.fl (gateE wd (N.past wd f fd)) :: blk t5 37 (hdM N.q).cs :: IsQ q N.q :: BW n X f (N.now fd).1 (N.now fd).2 q p g b lv :: IsPast p N.fl (N.past wd f fd) :: WdOwn X :: isMap kI kI b mm :: DD lv (N.log wd f fd) :: blk t2 45 Done.zero.cs :: Q) := h7
    have h8 : Sat e w7 (blk t5 37 (hdM N.q).cs :: IsQ q N.q :: BW n X f (N.now fd).1 (N.now fd).2 q p g b lv :: IsPast p N.fl (N.past wd f fd) :: IsGate g N.fl (gateE wd (N.past wd f fd)) :: WdOwn X :: isMap kI kI b mm :: DD lv (N.log wd f fd) :: blk t2 45 Done.zero.cs :: Q) := h7.selR [_, _, _, _, _, _, _, _, _, _] [_, _, _, _, _, _, _, _, _] [2, 3, 4, 5, 1, 6, 7, 8, 9] (by decide) rfl
    refine gt_c (fun c3 => pk_f (iff_t ?_)) (fun c3 => pk_f (iff_f ?_))
    · exact refuse 2 _ (by unfold stepWE; rw [if_neg hc, if_pos (.inr (by omega))]) (by decide) h8
    have he : stepWE wd f fd N = 0 := by unfold stepWE; rw [if_neg hc, if_neg (by omega)]
    obtain ⟨m, r, hmr⟩ := hasM_yes hq
    have hhd : hdM N.q = m := by rw [hmr]; rfl
    rw [hhd] at h8
    obtain ⟨⟨m', r', hmr', hmt⟩, _, _⟩ := stepE_ok he
    rw [hmr] at hmr'
    obtain ⟨rfl, rfl⟩ := List.cons.inj hmr'
    clear h1 h2 h3 h4 h5 h6 h7 refuse hmr' hno
    obtain ⟨fx, hfx, rfl⟩ := hX.fed
    have hfxm := List.mem_of_getElem? hfx
    have hsf := hX.short.fed fx hfxm
    have hXp : X.Parents = wd.Parents := congrArg Wd.Parents hX.eq
    refine ncP_p (fld_at (ld1_at h8 2 rfl (v := .pointer (some ⟨q, 0, none⟩)) rfl ?_))
    refine q_Pop_s (h8.pick 1 rfl) fun w9 h9 => ?_
    rw [show N.q.tail = r from by rw [hmr]; rfl] at h9
    replace h9 : Sat e w9 (IsQ q r :: blk t5 37 m.cs :: BW n X f (N.now fx.f).1 (N.now fx.f).2 q p g b lv :: IsPast p N.fl (N.past wd f fx.f) :: IsGate g N.fl (gateE wd (N.past wd f fx.f)) :: WdOwn X :: isMap kI kI b mm :: DD lv (N.log wd f fx.f) :: blk t2 45 Done.zero.cs :: Q) := h9
    refine dr_s h9 fun w10 h10 => ?_
    refine ncP_p (fld_at (fld_at (ld1_at h10 2 rfl (v := X.fv) rfl ?_)))
    refine ncP_p (fld_at (ld1_at h10 2 rfl (v := .int .i64 f) rfl ?_))
    refine ixS_rd h10 5 rfl (fun g hg => (wdOwn_rd hg).feds) (fun _ => rfl) hfx fun a ha => ?_
    refine fld_of ha fun a1 ha1 => ld1_of h10 5 rfl ha1 (v := fx.rv) rfl ?_
    refine ncP_p (fld_at (ld1_at h10 2 rfl (v := .int .i64 (N.now fx.f).1) rfl ?_))
    refine fld_at (ld1_at h10 1 rfl (v := .int .i64 m.Class) rfl ?_)
    refine table_Step_s (l := fx.Rules) (s := (N.now fx.f).1) (c := m.Class) (h10.pick 5 rfl) (fun g hg => ((wdOwn_rd hg).fed fx hfxm).rules) hsf.rules hsf.sends fun ov w11 h11 => ?_
    obtain ⟨so, hso⟩ : ∃ so, so = stepR fx.f.Rules (N.now fx.f).1 m.Class := ⟨_, rfl⟩
    have hso2 : stepR (fx.Rules.map RuleX.r) (N.now fx.f).1 m.Class = so := hso.symm
    rw [hso2] at h11 ⊢
    have houts := step_outs hok.may (List.mem_of_getElem? hok.hfd) (N.now fx.f).1 m.Class
    rw [← hso] at houts
    refine xt_02 (xt_12 ?_)
    replace h11 : Sat e w11 (ownS 87 3 Out.cs ov so.2 :: WdOwn X :: IsQ q r :: blk t5 37 m.cs :: BW n X f (N.now fx.f).1 (N.now fx.f).2 q p g b lv :: IsPast p N.fl (N.past wd f fx.f) :: IsGate g N.fl (gateE wd (N.past wd f fx.f)) :: isMap kI kI b mm :: DD lv (N.log wd f fx.f) :: blk t2 45 Done.zero.cs :: Q) := h11
    refine dr_s h11 fun w12 h12 => ?_
    refine ncP_p (fld_at (ldN_at h12 4 (vs := X.cs) rfl (by rfl) rfl ?_))
    refine ncP_p (fld_at (ld1_at h12 4 rfl (v := .int .i64 f) rfl ?_))
    refine ncP_p (fld_at (ld1_at h12 4 rfl (v := .int .i64 (N.now fx.f).2) rfl ?_))
    refine fld_at (fld_at (ld1_at h12 3 rfl (v := .int .i64 m.key.T) rfl ?_))
    refine fld_at (ld1_at h12 3 rfl (v := .int .i64 m.Body) rfl ?_)
    have hsu := hok.sent
    refine spread_s (x := X) (outs := so.2) 1 0 rfl rfl h12 (fun g hg => wdOwn_rd hg) (fun g hg => own_rd hg) hX.short (by rw [hXp]; exact hok.may.tree) (fun o ho => by rw [hXp]; exact (houts.2 o ho).1) (by omega) ⟨by omega, by omega⟩ fun mv w13 h13 => ?_
    obtain ⟨en, hen⟩ : ∃ en, en = entB wd f fx.f (N.now fx.f) m := ⟨_, rfl⟩
    have hsp : spreadL X.w.Parents X.w.Feds f (N.now fx.f).2 m.key.T m.Body so.2 = en.outs := by rw [hX.eq, hso, hen]; rfl
    rw [hsp] at h13
    have hent := ent_outs hok.may hok.hfd (N.now fx.f) m
    rw [← hen] at hent
    refine dr_s h13 fun w14 h14 => ?_
    refine ncP_p (fld_at (ld1_at h14 5 rfl (v := .pointer (some ⟨p, 0, none⟩)) rfl ?_))
    refine ldN_at h14 4 (vs := m.cs) rfl (by rfl) rfl ?_
    refine ncP_p (fld_at (ld1_at h14 5 rfl (v := .int .i64 (N.now fx.f).1) rfl ?_))
    refine ncP_p (fld_at (ld1_at h14 5 rfl (v := .int .i64 (N.now fx.f).2) rfl ?_))
    obtain ⟨A, cp, hmv, _⟩ := h14.shape 0 rfl (fun g hg => own_rd hg)
    subst hmv
    generalize hmv : Value.slice A en.outs.length cp = mv at h14
    refine bld_s (EnX.cs ⟨m, (N.now fx.f).1, (N.now fx.f).2, so.1, .slice A en.outs.length cp, en.outs⟩) (by kernel_rfl) ?_
    rw [hmv]
    have qm := h14.own_cells 0 rfl
    refine ⟨ld1_at h14 5 rfl (v := .pointer (some ⟨p, 0, none⟩)) rfl ⟨rfl, rfl⟩, ?_⟩
    replace h14 : Sat e w14 (ownS 37 6 Msg.cs mv en.outs :: ownS 87 3 Out.cs ov so.2 :: WdOwn X :: IsQ q r :: blk t5 37 m.cs :: BW n X f (N.now fx.f).1 (N.now fx.f).2 q p g b lv :: IsPast p N.fl (N.past wd f fx.f) :: IsGate g N.fl (gateE wd (N.past wd f fx.f)) :: isMap kI kI b mm :: DD lv (N.log wd f fx.f) :: blk t2 45 Done.zero.cs :: Q) := h14
    have hfl : ¬ m.key.T < N.fl := by
      have := hok.hi m (by rw [hmr]; simp)
      omega
    have hup : Upk (N.ms ++ [m]) := by
      have := hok.line
      rw [hmr, show N.ms ++ m :: r = (N.ms ++ [m]) ++ r from by simp] at this
      exact this.left
    refine past_Push_s (x := ⟨m, (N.now fx.f).1, (N.now fx.f).2, so.1, mv, en.outs⟩) 0 rfl (show en.outs.length ≤ 1000 by omega) (fun g hg => own_rd hg) hfl (last_lt hup) (show (N.past wd f fx.f).length < 64 by omega) (h14.pick 6 rfl) fun w15 h15 => ?_
    rw [show EnX.e ⟨m, (N.now fx.f).1, (N.now fx.f).2, so.1, mv, en.outs⟩ = en from by rw [hso, hen]; rfl] at h15
    replace h15 : Sat e w15 (IsPast p N.fl (N.past wd f fx.f ++ [en]) :: ownS 37 6 Msg.cs mv en.outs :: ownS 87 3 Out.cs ov so.2 :: WdOwn X :: IsQ q r :: blk t5 37 m.cs :: BW n X f (N.now fx.f).1 (N.now fx.f).2 q p g b lv :: IsGate g N.fl (gateE wd (N.past wd f fx.f)) :: isMap kI kI b mm :: DD lv (N.log wd f fx.f) :: blk t2 45 Done.zero.cs :: Q) := h15
    refine ncP_p (fld_at (ld1_at h15 6 rfl (v := .int .i64 (N.now fx.f).2) rfl ?_))
    refine lnS_rd h15 2 rfl (fun g hg => own_rd hg) (add_s (by omega) (by omega) ?_)
    have hnb : nextB fx.f (N.now fx.f) m = (so.1, (N.now fx.f).2 + so.2.length) := by rw [hso]; rfl
    refine ncP_p (fld_at (stN_at h15 6 rfl (vs := ints [so.1]) rfl rfl (Nat.le_of_ble_eq_true rfl) (ints_flat _) (cs' := wcs X f so.1 (N.now fx.f).2 q p g b lv) (by rfl) fun w16 h16 => ?_))
    refine ncP_p (fld_at (stN_at h16 6 rfl (vs := ints [(N.now fx.f).2 + so.2.length]) rfl rfl (Nat.le_of_ble_eq_true rfl) (ints_flat _) (cs' := wcs X f so.1 ((N.now fx.f).2 + so.2.length) q p g b lv) (by rfl) fun w17 h17 => ?_))
    replace h17 : Sat e w17 (IsPast p N.fl (N.past wd f fx.f ++ [en]) :: ownS 37 6 Msg.cs mv en.outs :: ownS 87 3 Out.cs ov so.2 :: WdOwn X :: IsQ q r :: blk t5 37 m.cs :: BW n X f so.1 ((N.now fx.f).2 + so.2.length) q p g b lv :: IsGate g N.fl (gateE wd (N.past wd f fx.f)) :: isMap kI kI b mm :: DD lv (N.log wd f fx.f) :: blk t2 45 Done.zero.cs :: Q) := h17
    refine lnS_rd h17 1 rfl (fun g hg => own_rd hg) ?_
    refine lpi2 (fun q' t10 t132 w => ∃ i : Nat, i ≤ en.outs.length ∧ t132 = .int .i64 i ∧ q' = en.outs.length - i ∧ Sat e w (DI t10 (((en.outs.take i).filter fun m => boldB wd m.To).map plainI) :: IsGate g N.fl (gateE wd (N.past wd f fx.f) ++ ((en.outs.take i).filter fun m => !boldB wd m.To).map fun o => ⟨m.key, o⟩) :: IsPast p N.fl (N.past wd f fx.f ++ [en]) :: ownS 37 6 Msg.cs mv en.outs :: WdOwn X :: IsQ q r :: blk t5 37 m.cs :: BW n X f so.1 ((N.now fx.f).2 + so.2.length) q p g b lv :: isMap kI kI b mm :: DD lv (N.log wd f fx.f) :: blk t2 45 Done.zero.cs :: Q)) en.outs.length
      ⟨0, Nat.zero_le _, rfl, rfl, ?_⟩ ?_
    · rw [List.take_zero, List.filter_nil, List.filter_nil, List.map_nil, List.map_nil, List.append_nil]
      exact (h17.selR [_, _, _, _, _, _, _, _, _, _, _] [_, _, _, _, _, _, _, _, _, _] [7, 0, 1, 3, 4, 5, 6, 8, 9, 10] (by decide) rfl).own_nil 43 8 NItem.cs
    rintro q' t10 _ w g1 ⟨i, hi, rfl, rfl, h18⟩ hg1
    refine lt_c (fun d => iff_t ?_) (fun d => iff_f ?_)
    · obtain ⟨o, ho⟩ := get_of_lt (l := en.outs) (j := i) (by omega)
      have hot := hent.2 o (List.mem_of_getElem? ho)
      have hfs1 := filterA_snoc (p := fun m => boldB wd m.To) ho
      have hfs2 := filterA_snoc (p := fun m => !boldB wd m.To) ho
      have hl1 := List.length_filter_le (fun m => boldB wd m.To) (en.outs.take i)
      have hl2 := List.length_filter_le (fun m => !boldB wd m.To) (en.outs.take i)
      rw [List.length_take] at hl1 hl2
      refine J1.cut (fun t10' w => Sat e w (DI t10' (((en.outs.take (i + 1)).filter fun m => boldB wd m.To).map plainI) :: IsGate g N.fl (gateE wd (N.past wd f fx.f) ++ ((en.outs.take (i + 1)).filter fun m => !boldB wd m.To).map fun o => ⟨m.key, o⟩) :: IsPast p N.fl (N.past wd f fx.f ++ [en]) :: ownS 37 6 Msg.cs mv en.outs :: WdOwn X :: IsQ q r :: blk t5 37 m.cs :: BW n X f so.1 ((N.now fx.f).2 + so.2.length) q p g b lv :: isMap kI kI b mm :: DD lv (N.log wd f fx.f) :: blk t2 45 Done.zero.cs :: Q)) (fun k2 hk2 => ?_) ?_
      · refine ixS_rd h18 3 rfl (fun g hg => own_rd hg) (fun _ => rfl) ho fun a ha => ldN_of h18 3 rfl ha rfl ?_
        refine al_s (cs := Msg.zero.cs) h18 rfl fun t12 w19 h19 => ?_
        refine stN_at h19 0 rfl (vs := o.cs) rfl rfl (by decide) (ints_flat _) (cs' := o.cs) (by rfl) fun w20 h20 => ?_
        replace h20 : Sat e w20 (blk t12 37 o.cs :: DI t10 (((en.outs.take i).filter fun m => boldB wd m.To).map plainI) :: IsGate g N.fl (gateE wd (N.past wd f fx.f) ++ ((en.outs.take i).filter fun m => !boldB wd m.To).map fun o => ⟨m.key, o⟩) :: IsPast p N.fl (N.past wd f fx.f ++ [en]) :: ownS 37 6 Msg.cs mv en.outs :: WdOwn X :: IsQ q r :: blk t5 37 m.cs :: BW n X f so.1 ((N.now fx.f).2 + so.2.length) q p g b lv :: isMap kI kI b mm :: DD lv (N.log wd f fx.f) :: blk t2 45 Done.zero.cs :: Q) := h20
        refine fld_at (ld1_at h20 0 rfl (v := .int .i64 o.To) rfl ?_)
        refine bold_s ⟨hot.1, by rw [hX.len]; exact hot.2.1⟩ 8 5 rfl rfl h20 ?_
        rw [hX.eq]
        cases hb : boldB wd o.To with
        | true =>
          refine iff_t (ldN_at h20 0 (vs := o.cs) rfl (by rfl) rfl ?_)
          refine bld_s (plainI o).cs (by kernel_rfl) ?_
          refine push1 te_39 (f := NItem.cs) (fun _ => rfl) (fun _ => ints_flat _) (h20.pick 1 rfl) (x := plainI o) rfl (by rw [List.length_map]; omega) fun v' w21 h21 => ?_
          refine hk2 _ _ ?_
          rw [hfs1, hfs2, hb]
          simp only [if_true, List.map_append, List.map_singleton, Bool.not_true, Bool.false_eq_true, if_false, List.append_nil]
          exact h21.selR [_, _, _, _, _, _, _, _, _, _, _, _] [_, _, _, _, _, _, _, _, _, _, _] [0, 2, 3, 4, 5, 6, 7, 8, 9, 10, 11] (by decide) rfl
        | false =>
          refine iff_f (dr_s h20 fun w21 h21 => ?_)
          refine ncP_p (fld_at (ld1_at h21 8 rfl (v := .pointer (some ⟨g, 0, none⟩)) rfl ?_))
          refine fld_at (ldN_at h21 7 (vs := m.key.cs) rfl (by rfl) rfl (ldN_at h21 0 (vs := o.cs) rfl (by rfl) rfl ?_))
          have hgl2 : (gateE wd (N.past wd f fx.f) ++ ((en.outs.take i).filter fun m => !boldB wd m.To).map fun o => (⟨m.key, o⟩ : Kept)).length < 256 := by
            rw [List.length_append, List.length_map]
            omega
          refine gate_Hold_s m.key o (h21.pick 2 rfl) (by omega) fun w22 h22 => ?_
          have hhold : holdL N.fl (gateE wd (N.past wd f fx.f) ++ ((en.outs.take i).filter fun m => !boldB wd m.To).map fun o => (⟨m.key, o⟩ : Kept)) m.key o = gateE wd (N.past wd f fx.f) ++ (((en.outs.take i).filter fun m => !boldB wd m.To).map fun o => (⟨m.key, o⟩ : Kept)) ++ [⟨m.key, o⟩] := by
            unfold holdL
            rw [if_neg hfl, if_neg (by omega)]
          rw [hhold] at h22
          refine hk2 _ _ ?_
          rw [hfs1, hfs2, hb]
          simp only [Bool.not_false, if_true, List.map_append, List.map_singleton, Bool.false_eq_true, if_false, List.append_nil]
          rw [← List.append_assoc]
          exact h22.selR [_, _, _, _, _, _, _, _, _, _, _, _] [_, _, _, _, _, _, _, _, _, _, _] [2, 0, 3, 4, 5, 6, 7, 8, 9, 10, 11] (by decide) rfl
      · intro t10' w19 h19
        refine inc_s (by omega) ?_
        exact hg1 _ _ _ _ (by omega) ⟨i + 1, by omega, rfl, rfl, h19⟩
    · have ei : i = en.outs.length := by omega
      rw [ei, List.take_length] at h18
      refine ldN_at h18 6 (vs := m.cs) rfl (by rfl) rfl ?_
      refine bld_s (⟨m, so.1⟩ : Done).cs (by kernel_rfl) ?_
      refine stN_at h18 10 rfl (vs := (⟨m, so.1⟩ : Done).cs) rfl rfl (Nat.le_of_ble_eq_true rfl) (ints_flat _) (cs' := (⟨m, so.1⟩ : Done).cs) (by rfl) fun w19 h19 => ?_
      refine ldN_at h19 10 (vs := (⟨m, so.1⟩ : Done).cs) rfl (by rfl) rfl ?_
      have hsE : stepEn wd f fx.f N = en := by rw [hen]; unfold stepEn; rw [hhd]
      have hdE : doneE en = ⟨m, so.1⟩ := by rw [hen, hso]; rfl
      rw [hsE, hdE] at hyes
      refine hyes he t10 _ ?_
      have hn2 : (stepWN N).now fx.f = (so.1, (N.now fx.f).2 + so.2.length) := by rw [step_now hmr, hnb]
      have hp2 : (stepWN N).past wd f fx.f = N.past wd f fx.f ++ [en] := by rw [step_past hmr, hen]
      have hg2 : gateE wd ((stepWN N).past wd f fx.f) = gateE wd (N.past wd f fx.f) ++ (en.outs.filter fun m => !boldB wd m.To).map fun o => ⟨m.key, o⟩ := by rw [step_gate hmr, ← hen]; congr 1; unfold keptE; rw [hen]; rfl
      have hq2 : (stepWN N).q = r := by rw [step_line hmr]
      have h20 := warp_mk (N := stepWN N) (X := X) (q := q) (p := p) (g := g) (b := b) (m := mm) (lv := lv) (k := k + 1) (n := n) (f := f) (wd := wd) (fd := fx.f) ⟨hX.eq, hX.short, hok.step he, hX.map⟩ (Q := DI t10 ((en.outs.filter fun m => boldB wd m.To).map plainI) :: Q) (e := e) (w := w19) (by
        rw [hn2, hg2, hp2, hq2]
        exact h19.selR [_, _, _, _, _, _, _, _, _, _, _] [_, _, _, _, _, _, _, _] [7, 5, 2, 1, 4, 8, 9, 0] (by decide) rfl)
      exact h20.swap
end Go.Proofs.YtbopajpmadlmhaaGreat
end
section
namespace Go.Proofs.YtbopajpmadlmhaaGreat
open Go Go.E
set_option maxRecDepth 100000
variable {e w : World} {L Q R : List HP} {K : KV} {S S2 : HP}
variable {n f k : Nat} {fd : Fed} {N : WN} {x : WdX}

theorem pr_First_s {q : Nat} {room : Int} {l : List Msg} (hS : Sat e w (IsPR q room l :: R)) (hk : ∀ w', Sat e w' (IsPR q room l :: R) → K (.tuple #[.agg (hdM l).cs.toArray, .bool (hasM l)]) w') : Cl prog 80 #[.pointer (some ⟨q, 0, none⟩)] w K := by
  cases l with
  | nil => exact ref03_First_none hS hk
  | cons x r => exact ref03_First_s (x := x) rfl hS hk
theorem pr_Pop_s {q : Nat} {room : Int} {l : List Msg} (hu : Upk l) (hl : l.length ≤ 1000) (hS : Sat e w (IsPR q room l :: R)) (hk : ∀ w', Sat e w' (IsPR q room l.tail :: R) → K (.tuple #[.agg (hdM l).cs.toArray, .bool (hasM l)]) w') : Cl prog 81 #[.pointer (some ⟨q, 0, none⟩)] w K := by
  cases l with
  | nil => exact ref03_Pop_none hS hk
  | cons x r =>
    refine ref03_Pop_s (x := x) hl rfl hS fun w2 h2 => ?_
    rw [without_hd hu] at h2
    exact hk _ h2
def rws (x : WdX) (f st sent : Int) (q p g : Nat) (cv lv : Value) : List Value := [x.pv, x.fv, .int .i64 x.End, .int .i64 f, .int .i64 st, .int .i64 sent, .pointer (some ⟨q, 0, none⟩), .pointer (some ⟨p, 0, none⟩), .pointer (some ⟨g, 0, none⟩), cv, lv]
abbrev BR (n : Nat) (x : WdX) (f st sent : Int) (q p g : Nat) (cv lv : Value) : HP := blk n 84 (rws x f st sent q p g cv lv)
abbrev DN (v : Value) (l : List Int) : HP := ownS 3 1 (intsK .i64) v l
structure RV where
  q : Nat
  p : Nat
  g : Nat
  cv : Value
  lv : Value
def IsWR (n : Nat) (x : WdX) (f : Nat) (fd : Fed) (N : WN) (k : Nat) : HP := hex fun v : RV => sepL [pur (WOk x.w f fd N k), BR n x f (N.now fd).1 (N.now fd).2 v.q v.p v.g v.cv v.lv, IsPR v.q 64 N.q, IsPastR v.p N.fl (N.past x.w f fd), IsGateR v.g N.fl (gateE x.w (N.past x.w f fd)), DN v.cv N.clk, DD v.lv (N.log x.w f fd)]
theorem wr_of (h : Sat e w (IsWR n x f fd N k :: Q)) : ∃ q p g cv lv, WOk x.w f fd N k ∧ Sat e w (BR n x f (N.now fd).1 (N.now fd).2 q p g cv lv :: IsPR q 64 N.q :: IsPastR p N.fl (N.past x.w f fd) :: IsGateR g N.fl (gateE x.w (N.past x.w f fd)) :: DN cv N.clk :: DD lv (N.log x.w f fd) :: Q) := by
  obtain ⟨v, h0⟩ := h.ex
  exact ⟨v.q, v.p, v.g, v.cv, v.lv, Sat.pure h0.split⟩
theorem wr_mk {q p g : Nat} {cv lv : Value} (hp : WOk x.w f fd N k) (h : Sat e w (BR n x f (N.now fd).1 (N.now fd).2 q p g cv lv :: IsPR q 64 N.q :: IsPastR p N.fl (N.past x.w f fd) :: IsGateR g N.fl (gateE x.w (N.past x.w f fd)) :: DN cv N.clk :: DD lv (N.log x.w f fd) :: Q)) : Sat e w (IsWR n x f fd N k :: Q) :=
  .mk_ex ⟨q, p, g, cv, lv⟩ (.join (l' := [_, _, _, _, _, _, _]) (.mk_pure hp h))
theorem wr_ok (i : Nat) (h : Sat e w L) (hi : L[i]? = some (IsWR n x f fd N k)) : WOk x.w f fd N k := by
  obtain ⟨q, p, g, cv, lv, hX, _⟩ := wr_of (h.pick i hi)
  exact hX
theorem wfed (h : WOk x.w f fd N k) : ∃ fx : FedX, x.Feds[f]? = some fx ∧ fx.f = fd := by
  have h1 := h.hfd
  simp only [WdX.w] at h1
  rw [List.getElem?_map] at h1
  exact Option.map_eq_some_iff.1 h1
theorem wlen : x.Feds.length = x.w.Feds.length := by simp [WdX.w]

theorem wr_Floor_s (hS : Sat e w (IsWR n x f fd N k :: Q)) (hk : K (.int .i64 N.fl) w) : Cl prog 35 #[.pointer (some ⟨n, 0, none⟩)] w K := by
  refine pacelineref15_Node_Floor_calls ?_
  unfold pacelineref15_Node_Floor
  obtain ⟨q, p, g, cv, lv, hX, h1⟩ := wr_of hS
  refine ncP_p (fld_at (ld1_at h1 0 rfl (v := .pointer (some ⟨p, 0, none⟩)) rfl ?_))
  obtain ⟨pv, xs, hp, h2⟩ := pastR_of (h1.pick 2 rfl)
  exact ncP_p (fld_at (ld1_at h2 0 rfl (v := .int .i64 N.fl) rfl hk))
theorem wr_Ahead_s (hS : Sat e w (IsWR n x f fd N k :: Q)) (hk : K (.int .i64 (N.ms.length : Int)) w) : Cl prog 37 #[.pointer (some ⟨n, 0, none⟩)] w K := by
  refine pacelineref15_Node_Ahead_calls ?_
  unfold pacelineref15_Node_Ahead
  obtain ⟨q, p, g, cv, lv, hX, h1⟩ := wr_of hS
  refine ncP_p (fld_at (ld1_at h1 0 rfl (v := .pointer (some ⟨p, 0, none⟩)) rfl ?_))
  obtain ⟨pv, xs, hp, h2⟩ := pastR_of (h1.pick 2 rfl)
  refine ncP_p (fld_at (ld1_at h2 0 rfl (v := pv) rfl ?_))
  refine lnS_rd h2 1 rfl (fun g hg => own_rd hg) ?_
  rw [show (xs.length : Int) = N.ms.length from by
    have : (N.past x.w f fd).length = N.ms.length := runE_len ..
    rw [← this, ← hp.1, List.length_map]]
  exact hk
theorem wr_Waiting_s (hS : Sat e w (IsWR n x f fd N k :: Q)) (hk : ∀ v w', Sat e w' (ownS 37 6 Msg.cs v N.q :: IsWR n x f fd N k :: Q) → K v w') : Cl prog 40 #[.pointer (some ⟨n, 0, none⟩)] w K := by
  refine pacelineref15_Node_Waiting_calls ?_
  unfold pacelineref15_Node_Waiting
  obtain ⟨q, p, g, cv, lv, hX, h1⟩ := wr_of hS
  refine ncP_p (fld_at (ld1_at h1 0 rfl (v := .pointer (some ⟨q, 0, none⟩)) rfl ?_))
  refine ref03_List_s (by have := hX.ql; omega) (h1.pick 1 rfl) fun v w3 h3 => ?_
  have h4 := wr_mk hX (h3.selR [_, _, _, _, _, _, _] [_, _, _, _, _, _, _] [2, 1, 3, 4, 5, 6, 0] (by decide) rfl)
  exact hk _ _ h4.swap
theorem wr_Log_s (hk0 : k ≤ 1000) (hS : Sat e w (IsWR n x f fd N k :: Q)) (hk : ∀ v w', Sat e w' (DD v (N.log x.w f fd) :: IsWR n x f fd N k :: Q) → K v w') : Cl prog 41 #[.pointer (some ⟨n, 0, none⟩)] w K := by
  refine pacelineref15_Node_Log_calls ?_
  unfold pacelineref15_Node_Log
  obtain ⟨q, p, g, cv, lv, hX, h1⟩ := wr_of hS
  have hl := log_few hX
  refine bsl0 h1 Done.cs fun t4 w2 h2 => ?_
  refine ncP_p (fld_at (ld1_at h2 1 rfl (v := lv) rfl ?_))
  refine apS_own te_52 te_52.und (f := Done.cs) (m := N.log x.w f fd) (fun _ => rfl) (fun _ => ints_flat _) (h2.selR [_, _, _, _, _, _, _] [_, _, _, _, _, _, _] [0, 6, 1, 2, 3, 4, 5] (by decide) rfl) (fun g hg => own_rd hg) (by simp; omega) fun v w3 h3 => ?_
  rw [List.nil_append] at h3
  have h4 := wr_mk hX (h3.selR [_, _, _, _, _, _, _] [_, _, _, _, _, _, _] [2, 3, 4, 5, 6, 1, 0] (by decide) rfl)
  exact hk _ _ h4.swap
theorem wr_Promise_s (i : Nat) (hi : Q[i]? = some S) (hr : ∀ g, S g → RdWd x g) (hS : Sat e w (IsWR n x f fd N k :: Q)) (hk : ∀ w', Sat e w' (IsWR n x f fd N k :: Q) → K (.int .i64 (promiseW fd N)) w') : Cl prog 39 #[.pointer (some ⟨n, 0, none⟩)] w K := by
  refine pacelineref15_Node_Promise_calls ?_
  unfold pacelineref15_Node_Promise
  refine dr_s hS fun w1 h0 => ?_
  obtain ⟨q, p, g, cv, lv, hX, h1⟩ := wr_of h0
  obtain ⟨fx, hfx, rfl⟩ := wfed hX
  refine ncP_p (fld_at (ld1_at h1 0 rfl (v := .pointer (some ⟨p, 0, none⟩)) rfl ?_))
  obtain ⟨pv, xs, hp, h2⟩ := pastR_of (h1.pick 2 rfl)
  refine ncP_p (fld_at (ld1_at h2 0 rfl (v := .int .i64 N.fl) rfl ?_))
  refine ncP_p (fld_at (fld_at (ld1_at h1 0 rfl (v := x.fv) rfl ?_)))
  refine ncP_p (fld_at (ld1_at h1 0 rfl (v := .int .i64 f) rfl ?_))
  refine ixS_rd h1 (i + 6) (by simpa using hi) (fun g hg => (hr g hg).feds) (fun _ => rfl) hfx fun a ha => ?_
  refine fld_of ha fun a1 ha1 => ld1_of h1 (i + 6) (by simpa using hi) ha1 (v := .int .i64 fx.Look) rfl ?_
  exact ref01_Add_s (hk _ h0)
theorem wr_Local_s (hS : Sat e w (IsWR n x f fd N k :: Q)) (hk : ∀ w', Sat e w' (IsWR n x f fd N k :: Q) → K (.int .i64 (localW N)) w') : Cl prog 38 #[.pointer (some ⟨n, 0, none⟩)] w K := by
  refine pacelineref15_Node_Local_calls ?_
  unfold pacelineref15_Node_Local
  obtain ⟨q, p, g, cv, lv, hX, h1⟩ := wr_of hS
  have hcl : N.clk.length ≤ 1000 := by have := hX.clen; have := hX.may.n.2; omega
  refine bsl0 h1 (intsK .i64) fun t7 w2 h2 => ?_
  refine ncP_p (fld_at (ld1_at h2 1 rfl (v := .pointer (some ⟨q, 0, none⟩)) rfl ?_))
  refine pr_First_s (h2.pick 2 rfl) fun w3 h3 => ?_
  refine xt_02 (xt_12 ?_)
  rw [zero_37]
  refine al_s (cs := Msg.zero.cs) h3 rfl fun t4 w4 h4 => ?_
  refine stN_at h4 0 rfl (vs := (hdM N.q).cs) rfl rfl (by decide) (ints_flat _) (cs' := (hdM N.q).cs) (by rfl) fun w5 h5 => ?_
  replace h5 : Sat e w5 (blk t4 37 (hdM N.q).cs :: IsPR q 64 N.q :: DN t7 [] :: BR n x f (N.now fd).1 (N.now fd).2 q p g cv lv :: IsPastR p N.fl (N.past x.w f fd) :: IsGateR g N.fl (gateE x.w (N.past x.w f fd)) :: DN cv N.clk :: DD lv (N.log x.w f fd) :: Q) := h5
  obtain ⟨hd, hhd⟩ : ∃ hd, hd = (if hasM N.q = true then [(hdM N.q).key.T] else []) := ⟨_, rfl⟩
  have hhl : hd.length ≤ 1 := by rw [hhd]; split <;> simp
  refine J1.cut (fun t3 w => Sat e w (DN t3 hd :: IsPR q 64 N.q :: BR n x f (N.now fd).1 (N.now fd).2 q p g cv lv :: IsPastR p N.fl (N.past x.w f fd) :: IsGateR g N.fl (gateE x.w (N.past x.w f fd)) :: DN cv N.clk :: DD lv (N.log x.w f fd) :: Q)) (fun k1 hk1 => ?_) (fun t3 w6 h6 => ?_)
  · cases hq : hasM N.q with
    | false =>
      rw [hq, if_neg (by decide)] at hhd
      refine iff_f (hk1 _ _ ?_)
      rw [hhd]
      exact h5.selR [_, _, _, _, _, _, _, _] [_, _, _, _, _, _, _] [2, 1, 3, 4, 5, 6, 7] (by decide) rfl
    | true =>
      rw [hq, if_pos rfl] at hhd
      refine iff_t (fld_at (fld_at (ld1_at h5 0 rfl (v := .int .i64 (hdM N.q).key.T) rfl ?_)))
      refine push1 te_24 (f := intsK .i64) (fun _ => rfl) int_flat' (h5.pick 2 rfl) (x := (hdM N.q).key.T) rfl (by simp) fun v' w6 h6 => ?_
      refine hk1 _ _ ?_
      rw [hhd]
      exact h6.selR [_, _, _, _, _, _, _, _] [_, _, _, _, _, _, _] [0, 2, 3, 4, 5, 6, 7] (by decide) rfl
  refine lpi2 (fun mm t3 t6 w => ∃ j : Nat, j ≤ N.clk.length ∧ t6 = .int .i64 j ∧ mm = N.clk.length - j ∧ Sat e w (DN t3 (hd ++ (N.clk.take j).filter fun t => decide (0 ≤ t)) :: IsPR q 64 N.q :: BR n x f (N.now fd).1 (N.now fd).2 q p g cv lv :: IsPastR p N.fl (N.past x.w f fd) :: IsGateR g N.fl (gateE x.w (N.past x.w f fd)) :: DN cv N.clk :: DD lv (N.log x.w f fd) :: Q)) N.clk.length
    ⟨0, Nat.zero_le _, rfl, rfl, by rw [List.take_zero, List.filter_nil, List.append_nil]; exact h6⟩ ?_
  rintro mm t3' _ w g2 ⟨j, hj, rfl, rfl, h7⟩ hg2
  refine ncP_p (fld_at (ld1_at h7 2 rfl (v := cv) rfl ?_))
  refine lnS_rd h7 5 rfl (fun g hg => own_rd hg) ?_
  refine lt_c (fun c => iff_t ?_) (fun c => iff_f ?_)
  · obtain ⟨t, ht⟩ := get_of_lt (l := N.clk) (j := j) (by omega)
    have hfs := filterA_snoc (p := fun t : Int => decide (0 ≤ t)) ht
    have hfl := List.length_filter_le (fun t : Int => decide (0 ≤ t)) (N.clk.take j)
    rw [List.length_take] at hfl
    refine J1.cut (fun t3 w => Sat e w (DN t3 (hd ++ (N.clk.take (j + 1)).filter fun t => decide (0 ≤ t)) :: IsPR q 64 N.q :: BR n x f (N.now fd).1 (N.now fd).2 q p g cv lv :: IsPastR p N.fl (N.past x.w f fd) :: IsGateR g N.fl (gateE x.w (N.past x.w f fd)) :: DN cv N.clk :: DD lv (N.log x.w f fd) :: Q)) (fun k3 hk3 => ?_) (fun t3 w8 h8 => ?_)
    · refine ncP_p (fld_at (ld1_at h7 2 rfl (v := cv) rfl ?_))
      refine ixS_rd h7 5 rfl (fun g hg => own_rd hg) (fun _ => rfl) ht fun a ha => ld1_of h7 5 rfl ha (v := .int .i64 t) rfl ?_
      refine ge_c (fun c1 => iff_t ?_) (fun c1 => iff_f ?_)
      · refine ncP_p (fld_at (ld1_at h7 2 rfl (v := cv) rfl ?_))
        refine ixS_rd h7 5 rfl (fun g hg => own_rd hg) (fun _ => rfl) ht fun a ha => ld1_of h7 5 rfl ha (v := .int .i64 t) rfl ?_
        refine push1 te_24 (f := intsK .i64) (fun _ => rfl) int_flat' h7 (x := t) rfl (by rw [List.length_append]; omega) fun v' w8 h8 => ?_
        refine hk3 _ _ ?_
        rw [hfs, if_pos (decide_eq_true c1), ← List.append_assoc]
        exact h8
      · refine hk3 _ _ ?_
        rw [hfs, if_neg (by rw [decide_eq_false c1]; decide), List.append_nil]
        exact h7
    · refine inc_s (by omega) ?_
      exact hg2 _ _ _ _ (by omega) ⟨j + 1, by omega, rfl, rfl, h8⟩
  · have ej : j = N.clk.length := by omega
    rw [ej, List.take_length] at h7
    have hfl := List.length_filter_le (fun t : Int => decide (0 ≤ t)) N.clk
    refine ref01_Least_s h7 (fun g hg => own_rd hg) (by rw [List.length_append]; omega) fun w8 h8 => ?_
    rw [hhd]
    exact hk _ (wr_mk hX (h8.selR [_, _, _, _, _, _, _] [_, _, _, _, _, _] [2, 1, 3, 4, 5, 6] (by decide) rfl))

theorem behind_s {st sent fl : Int} {q p g : Nat} {cv lv : Value} {l : List En} {key : Key} (hS : Sat e w (BR n x f st sent q p g cv lv :: IsPastR p fl l :: Q))
    (hk : ∀ w', Sat e w' (BR n x f st sent q p g cv lv :: IsPastR p fl l :: Q) → K (.tuple #[.int .i64 ((goneL key l).length : Int), .bool (l.any fun y => decide (y.m.key = key))]) w') : Cl prog 75 #[.pointer (some ⟨n, 0, none⟩), .agg key.cs.toArray] w K := by
  refine pacelineref15_Node_behind_calls ?_
  unfold pacelineref15_Node_behind
  obtain ⟨pv, xs, hp, h0⟩ := pastR_of hS.swap
  have hxl : xs.length = l.length := by rw [← hp.1, List.length_map]
  have hl64 := hp.2.len
  refine al_s (cs := key.cs) h0 rfl fun b w1 h1 => ?_
  refine lpi3 (fun mm t6 t7 t8 w => ∃ j : Nat, j ≤ l.length ∧ t8 = .int .i64 j ∧ mm = l.length - j ∧ t6 = .int .i64 ((goneL key (l.take j)).length : Int) ∧ t7 = .bool ((l.take j).any fun y => decide (y.m.key = key)) ∧ Sat e w (blk b 35 key.cs :: PB p fl pv :: DER pv xs :: sepL (xs.map eOwn) :: BR n x f st sent q p g cv lv :: Q)) l.length
    ⟨0, Nat.zero_le _, rfl, rfl, rfl, rfl, h1⟩ ?_
  rintro mm _ _ _ w g1 ⟨j, hj, rfl, rfl, rfl, rfl, h2⟩ hg1
  refine ncP_p (fld_at (ld1_at h2 4 rfl (v := .pointer (some ⟨p, 0, none⟩)) rfl ?_))
  refine ncP_p (fld_at (ld1_at h2 1 rfl (v := pv) rfl ?_))
  refine lnS_rd h2 2 rfl (fun g hg => own_rd hg) ?_
  refine lt_c (fun c => iff_t ?_) (fun c => iff_f ?_)
  · obtain ⟨y, hy⟩ := get_of_lt (l := xs) (j := j) (by omega)
    have hye : l[j]? = some y.e := by rw [← hp.1, List.getElem?_map, hy]; rfl
    have hts := take_snoc hye
    have hgl : (goneL key (l.take j)).length ≤ 64 := Nat.le_trans (List.length_filter_le _ _) (by rw [List.length_take]; omega)
    refine dr_s h2 fun w3 h3 => ?_
    refine ncP_p (fld_at (ld1_at h3 4 rfl (v := .pointer (some ⟨p, 0, none⟩)) rfl ?_))
    refine ncP_p (fld_at (ld1_at h3 1 rfl (v := pv) rfl ?_))
    refine ixS_rd h3 2 rfl (fun g hg => own_rd hg) (fun _ => rfl) hy fun a ha => fld_of ha fun a1 ha1 => fld_of ha1 fun a2 ha2 => ldN_sub h3 2 rfl ha2 (us := y.m.key.cs) rfl rfl ?_
    refine ldN_at h3 0 (vs := key.cs) rfl (by rfl) rfl ?_
    refine ref01_Cmp_s h3 fun w4 h4 => ?_
    have hany : ((l.take (j + 1)).any fun y => decide (y.m.key = key)) = (((l.take j).any fun y => decide (y.m.key = key)) || decide (y.m.key = key)) := by rw [hts, List.any_append]; simp [EnX.e]
    have fin : ∀ (w' : World), Sat e w' (blk b 35 key.cs :: PB p fl pv :: DER pv xs :: sepL (xs.map eOwn) :: BR n x f st sent q p g cv lv :: Q) →
        gd (.bool ((l.take j).any fun y => decide (y.m.key = key))) false (fun k => k (.int .i64 (cmpK y.m.key key)) w') w' fun t42 w => gd (.bool ((l.take j).any fun y => decide (y.m.key = key))) false (fun k => bi .eql .i64 t42 (Value.int IntKind.i64 0) w k) w fun t43 w =>
        pk (.bool ((l.take j).any fun y => decide (y.m.key = key))) (Value.bool true) t43 w fun t44 w => bi .add .i64 (.int .i64 (j : Int)) (Value.int IntKind.i64 1) w fun t21 w => g1 [.int .i64 ((goneL key (l.take (j + 1))).length : Int), t44, t21] w := by
      intro w' h5
      cases ha : (l.take j).any fun y => decide (y.m.key = key) with
      | true =>
        refine gd_tf (gd_tf (pk_t (inc_s (by omega) ?_)))
        exact hg1 _ _ _ _ _ (by omega) ⟨j + 1, by omega, rfl, rfl, rfl, by rw [hany, ha]; rfl, h5⟩
      | false =>
        refine gd_ff (gd_ff (eq_d (pk_f (inc_s (by omega) ?_))))
        refine hg1 _ _ _ _ _ (by omega) ⟨j + 1, by omega, rfl, rfl, rfl, ?_, h5⟩
        rw [hany, ha, Bool.false_or]
        congr 1
        rw [decide_eq_decide]
        exact cmpK_eq
    refine ge_c (fun c1 => ?_) (fun c1 => ?_)
    · have hg : goneL key (l.take (j + 1)) = goneL key (l.take j) ++ [y.e] := by
        unfold goneL
        rw [hts, List.filter_append, List.filter_cons, List.filter_nil, if_pos (by rw [decide_eq_false (show ¬ KeyLt y.e.m.key key from fun h => by have h1 : cmpK y.m.key key < 0 := cmpK_lt.2 h; omega)]; rfl)]
      refine J1.cut (fun t w' => t = .int .i64 ((goneL key (l.take (j + 1))).length : Int) ∧ w' = w4) (fun k2 hk2 => ?_) (fun t w' ⟨h1, h2⟩ => by rw [h1, h2]; exact fin w4 h4)
      refine iff_t (inc_s (by omega) (hk2 _ _ ⟨?_, rfl⟩))
      rw [hg, List.length_append]
      rfl
    · have hg : goneL key (l.take (j + 1)) = goneL key (l.take j) := by
        unfold goneL
        rw [hts, List.filter_append, List.filter_cons, List.filter_nil, if_neg (by rw [decide_eq_true (show KeyLt y.e.m.key key from (cmpK_lt.1 (by omega) : KeyLt y.m.key key))]; decide), List.append_nil]
      refine J1.cut (fun t w' => t = .int .i64 ((goneL key (l.take (j + 1))).length : Int) ∧ w' = w4) (fun k2 hk2 => ?_) (fun t w' ⟨h1, h2⟩ => by rw [h1, h2]; exact fin w4 h4)
      exact iff_f (hk2 _ _ ⟨by rw [hg], rfl⟩)
  · have ej : j = l.length := by omega
    rw [ej, List.take_length]
    refine hk _ ?_
    have h3 := pastR_mk (l := l) hp (h2.selR [_, _, _, _, _] [_, _, _, _] [1, 2, 3, 4] (by decide) rfl)
    exact h3.swap
theorem waits_s {st sent : Int} {q p g : Nat} {cv lv : Value} {l : List Msg} {key : Key} (hl : l.length ≤ 1000) (hS : Sat e w (BR n x f st sent q p g cv lv :: IsPR q 64 l :: Q))
    (hk : ∀ w', Sat e w' (BR n x f st sent q p g cv lv :: IsPR q 64 l :: Q) → K (.bool (hasK key l)) w') : Cl prog 76 #[.pointer (some ⟨n, 0, none⟩), .agg key.cs.toArray] w K := by
  refine pacelineref15_Node_waits_calls ?_
  unfold pacelineref15_Node_waits
  obtain ⟨qv, h0⟩ := pr_of hS.swap
  refine al_s (cs := key.cs) h0 rfl fun b w1 h1 => ?_
  have done : ∀ w' bb, hasK key l = bb → Sat e w' (blk b 35 key.cs :: blk q 134 [.int .i64 64, qv] :: ownS 37 6 Msg.cs qv l :: BR n x f st sent q p g cv lv :: Q) → K (.bool bb) w' := fun w' bb hb h => by
    rw [← hb]
    exact hk _ ((pr_mk h.drop).swap)
  refine lpi1 (fun mm t5 w => ∃ j : Nat, j ≤ l.length ∧ t5 = .int .i64 j ∧ mm = l.length - j ∧ (∀ y ∈ l.take j, y.key ≠ key) ∧ Sat e w (blk b 35 key.cs :: blk q 134 [.int .i64 64, qv] :: ownS 37 6 Msg.cs qv l :: BR n x f st sent q p g cv lv :: Q)) l.length ⟨0, Nat.zero_le _, rfl, rfl, by simp, h1⟩ ?_
  rintro mm _ w g1 ⟨j, hj, rfl, rfl, hno, h2⟩ hg1
  refine ncP_p (fld_at (ld1_at h2 3 rfl (v := .pointer (some ⟨q, 0, none⟩)) rfl ?_))
  refine ncP_p (fld_at (ld1_at h2 1 rfl (v := qv) rfl ?_))
  refine lnS_rd h2 2 rfl (fun g hg => own_rd hg) ?_
  refine lt_c (fun c => iff_t ?_) (fun c => iff_f ?_)
  · obtain ⟨y, hy⟩ := get_of_lt (l := l) (j := j) (by omega)
    refine dr_s h2 fun w3 h3 => ?_
    refine ncP_p (fld_at (ld1_at h3 3 rfl (v := .pointer (some ⟨q, 0, none⟩)) rfl ?_))
    refine ncP_p (fld_at (ld1_at h3 1 rfl (v := qv) rfl ?_))
    refine ixS_rd h3 2 rfl (fun g hg => own_rd hg) (fun _ => rfl) hy fun a ha => fld_of ha fun a1 ha1 => ldN_sub h3 2 rfl ha1 (us := y.key.cs) rfl rfl ?_
    refine ldN_at h3 0 (vs := key.cs) rfl (by rfl) rfl ?_
    refine bO_eq (ns := y.key.ns) (ms := key.ns) eqT_35 agg_35 egt_35 (by decide) rfl ?_
    rw [Key.eq_ns]
    by_cases d : y.key = key
    · rw [decide_eq_true d]
      exact iff_t (done _ _ (hasK_iff.2 ⟨y, List.mem_of_getElem? hy, d⟩) h3)
    · rw [decide_eq_false d]
      refine iff_f (inc_s (by omega) ?_)
      refine hg1 _ _ _ (by omega) ⟨j + 1, by omega, rfl, rfl, fun z hz => ?_, h3⟩
      rw [take_snoc hy] at hz
      rcases List.mem_append.1 hz with hz | hz
      · exact hno z hz
      · rw [List.mem_singleton.1 hz]; exact d
  · have ej : j = l.length := by omega
    rw [ej, List.take_length] at hno
    exact done _ _ (hasK_no.2 hno) h2
end Go.Proofs.YtbopajpmadlmhaaGreat
end
