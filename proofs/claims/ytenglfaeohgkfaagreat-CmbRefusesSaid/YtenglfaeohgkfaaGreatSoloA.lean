/- A federation's data, and how it reads from memory. Conditions: none. -/
import Derived.Test.YtenglfaeohgkfaaGreatData
import Derived.Test.YtenglfaeohgkfaaGreatTimeA
import Derived.Test.YtenglfaeohgkfaaGreatEngI
import Derived.Test.YtenglfaeohgkfaaGreatPfTy
import Derived.Test.YtenglfaeohgkfaaGreatPf0
import Derived.Test.YtenglfaeohgkfaaGreatPf1
import Derived.Test.YtenglfaeohgkfaaGreatPf2
import Derived.Test.YtenglfaeohgkfaaGreatPf3
import Derived.Test.YtenglfaeohgkfaaGreatEngN
import Derived.Test.YtenglfaeohgkfaaGreatEngP
import Derived.Test.YtenglfaeohgkfaaGreatEngR
import Derived.Test.YtenglfaeohgkfaaGreatEngZ
namespace Go.Proofs.YtenglfaeohgkfaaGreat
open Go Go.E Go.RowKit Go.WideShapes Go.Deep
set_option maxRecDepth 100000

/-! ### Data -/
structure Out where
  Class : Int
  Delay : Int
  Add : Int
  deriving DecidableEq
def Out.ns (x : Out) : List Int := [x.Class, x.Delay, x.Add]
abbrev Out.cs (x : Out) : List Value := ints x.ns
structure Rule where
  State : Int
  Class : Int
  Next : Int
  Sends : List Out
structure Fed where
  Kind : Int
  Look : Int
  Start : Int
  Rules : List Rule
  Pubs : List Int
  Subs : List Int
  Init : List Out
structure Wd where
  Parents : List Int
  Feds : List Fed
  End : Int
/-- The same with the slices' values. -/
structure RuleX where
  State : Int
  Class : Int
  Next : Int
  sv : Value
  Sends : List Out
def RuleX.cs (x : RuleX) : List Value := [.int .i64 x.State, .int .i64 x.Class, .int .i64 x.Next, x.sv]
def RuleX.r (x : RuleX) : Rule := ⟨x.State, x.Class, x.Next, x.Sends⟩
structure FedX where
  Kind : Int
  Look : Int
  Start : Int
  rv : Value
  Rules : List RuleX
  pv : Value
  Pubs : List Int
  sv : Value
  Subs : List Int
  iv : Value
  Init : List Out
def FedX.cs (x : FedX) : List Value := [.int .i64 x.Kind, .int .i64 x.Look, .int .i64 x.Start, x.rv, x.pv, x.sv, x.iv]
def FedX.f (x : FedX) : Fed := ⟨x.Kind, x.Look, x.Start, x.Rules.map RuleX.r, x.Pubs, x.Subs, x.Init⟩
structure WdX where
  pv : Value
  Parents : List Int
  fv : Value
  Feds : List FedX
  End : Int
def WdX.cs (x : WdX) : List Value := [x.pv, x.fv, .int .i64 x.End]
def WdX.w (x : WdX) : Wd := ⟨x.Parents, x.Feds.map FedX.f, x.End⟩

/-! ### How it reads -/
structure RdRules (v : Value) (l : List RuleX) (g : Hp) : Prop where
  s : rdS 4 RuleX.cs v l g
  e : ∀ r ∈ l, rdS 3 Out.cs r.sv r.Sends g
structure RdFed (f : FedX) (g : Hp) : Prop where
  rules : RdRules f.rv f.Rules g
  pubs : rdS 1 (intsK .i64) f.pv f.Pubs g
  subs : rdS 1 (intsK .i64) f.sv f.Subs g
  init : rdS 3 Out.cs f.iv f.Init g
structure RdWd (x : WdX) (g : Hp) : Prop where
  par : rdS 1 (intsK .i64) x.pv x.Parents g
  feds : rdS 7 FedX.cs x.fv x.Feds g
  fed : ∀ f ∈ x.Feds, RdFed f g

/-! ### Numbers that fit -/
def i64 (n : Int) : Prop := (Lit.int .i64 n).wf = true
def Out.wf (o : Out) : Prop := i64 o.Class ∧ i64 o.Delay ∧ i64 o.Add
def RuleX.wf (r : RuleX) : Prop := i64 r.State ∧ i64 r.Class ∧ i64 r.Next ∧ ∀ o ∈ r.Sends, o.wf
def FedX.wf (f : FedX) : Prop := i64 f.Kind ∧ i64 f.Look ∧ i64 f.Start ∧ (∀ r ∈ f.Rules, r.wf) ∧ (∀ n ∈ f.Pubs, i64 n) ∧ (∀ n ∈ f.Subs, i64 n) ∧ ∀ o ∈ f.Init, o.wf
def WdX.wf (x : WdX) : Prop := (∀ n ∈ x.Parents, i64 n) ∧ (∀ f ∈ x.Feds, f.wf) ∧ i64 x.End

/-! ### Out of the law's argument -/
section
variable {H : Type} {enc : TypeId × Value → H} {P : Program} {w : World} {base : Nat} {spare : Nat → Bool} {held : Bool}
/-- A slice whose elements are known to read. -/
theorem open_sliceG {α : Type} {st t : TypeId} {s : Nat} {f : α → List Value} (Good : α → Prop) (hu : P.underlying st = some (.slice t)) (hsz : szD P t = s) (hs : 0 < s) (hf : ∀ x, (f x).length = s)
    (hdec : ∀ fuel cs x, DataW.trod enc P w base spare held fuel t cs = some x → ∃ a : α, f a = cs ∧ Good a) {fuel : Nat} {cs : List Value} {x : DataW H × List MemPlace}
    (h : DataW.trod enc P w base spare held fuel st cs = some x) : ∃ (v : Value) (l : List α), cs = [v] ∧ (∀ a ∈ l, Good a) ∧ ∀ g, Old w g → rdS s f v l g := by
  rcases open_slice hu h with ⟨hcs, _⟩ | ⟨a', len, cap, m, k, D, Pl, hcs, hb, hl, hm, hmm, hx, hi⟩
  · exact ⟨_, [], hcs, by simp, fun g _ => ⟨none, 0, rfl, Nat.le_refl _, fun h => absurd h (by simp)⟩⟩
  · rw [cellsOf_sz, hsz] at hi
    have hlm : len ≤ m := by rw [hmm]; split <;> omega
    have hex : ∀ i, i < len → ∃ a : α, Good a ∧ w.cells? base (a'.add (i * s)) s = some (f a) := by
      intro i hil
      obtain ⟨cs', h1, h2⟩ := hi i (by omega)
      obtain ⟨a, h3, h4⟩ := hdec _ _ _ h2
      exact ⟨a, h4, by rw [h3]; exact h1⟩
    rcases Nat.eq_zero_or_pos len with h0 | h0
    · subst h0
      exact ⟨_, [], hcs, by simp, fun g _ => ⟨some a', cap, rfl, Nat.zero_le _, fun h => absurd h (by simp)⟩⟩
    obtain ⟨a0, _⟩ := hex 0 h0
    obtain ⟨F, hF⟩ : ∃ F : Nat → α, ∀ i, i < len → Good (F i) ∧ w.cells? base (a'.add (i * s)) s = some (f (F i)) :=
      ⟨fun i => if h : i < len then (hex i h).choose else a0, fun i h => by simp only [dif_pos h]; exact (hex i h).choose_spec⟩
    refine ⟨_, (List.range len).map F, hcs, fun a ha => ?_, fun g hg => ⟨some a', cap, by simp, by simpa using hl, fun _ => ⟨a', rfl, ?_⟩⟩⟩
    · obtain ⟨i, hi, rfl⟩ := List.mem_map.1 ha
      exact (hF i (by simpa using hi)).1
    · have hblk : a'.block < w.heap.size := by
        have := cells?_lt hs (hF 0 h0).2
        simpa [Addr.add] using this
      refine Old.cells hblk (fun i v hv => ?_) g hg
      have hli : i < len * s := by
        have h1 := (List.getElem?_eq_some_iff.1 hv).1
        rw [flatMap_length hf, List.length_map, List.length_range] at h1
        exact h1
      have hq : i / s < len := by rw [Nat.div_lt_iff_lt_mul hs]; exact hli
      have hmod := Nat.mod_lt i hs
      obtain ⟨_, h2⟩ := hF (i / s) hq
      obtain ⟨_, _, h3⟩ := World.cells?_some h2
      have h4 := h3 (i % s) hmod
      have hdm : i / s * s + i % s = i := by rw [Nat.mul_comm]; exact Nat.div_add_mod i s
      rw [E.add_add, hdm] at h4
      rw [h4]
      have h5 := flatMap_at hf ((List.range len).map F) (i / s) (F (i / s)) (by simp [hq])
      have h6 := congrArg (fun l => l[i % s]?) h5
      simp only [List.getElem?_take, List.getElem?_drop, hdm, if_pos hmod] at h6
      rw [← h6]
      exact hv

def fieldsB (P : Program) (t : TypeId) (l : List (TypeId × Nat)) : Bool := match P.underlying t with
  | some (.struct fs) => fs.toList.map (fun f => (f.type, f.offset)) == l
  | _ => false
theorem dec_fields {t : TypeId} {l : List (TypeId × Nat)} (hB : fieldsB P t l = true) {fuel : Nat} {cs : List Value} {x : DataW H × List MemPlace} (h : DataW.trod enc P w base spare held fuel t cs = some x) :
    cs.length = szD P t ∧ ∀ (i : Nat) (ty : TypeId) (off : Nat), l[i]? = some (ty, off) → ∃ n y, DataW.trod enc P w base spare held n ty ((cs.drop off).take (szD P ty)) = some y := by
  unfold fieldsB at hB
  split at hB
  · rename_i fs hu
    have hl := beq_iff_eq.1 hB
    obtain ⟨xs, n, _, _, hlen, hxl, hg⟩ := DataW.trod_struct hu h
    refine ⟨hlen.trans (cellsOf_sz t), fun i ty off hi => ?_⟩
    rw [← hl, List.getElem?_map, Array.getElem?_toList] at hi
    cases hf : fs[i]? with
    | none => rw [hf] at hi; cases hi
    | some f =>
      rw [hf] at hi
      simp only [Option.map_some, Option.some.injEq, Prod.mk.injEq] at hi
      obtain ⟨rfl, rfl⟩ := hi
      have h1 := hg i f hf
      rw [cellsOf_sz] at h1
      have h2 := (Array.getElem?_eq_some_iff.1 hf).1
      cases hy : xs[i]? with
      | none => rw [List.getElem?_eq_none_iff] at hy; omega
      | some y => exact ⟨n, y, h1.trans hy⟩
  · cases hB
end

section
variable {H : Type} {enc : TypeId × Value → H} {w : World} {base : Nat} {spare : Nat → Bool} {held : Bool} {fuel : Nat} {cs : List Value} {x : DataW H × List MemPlace}
theorem dec_int (h : DataW.trod enc prog w base spare held fuel 3 cs = some x) : ∃ n, cs = [.int .i64 n] ∧ i64 n := trod_int64 (by kernel_rfl) h
theorem dec_out (h : DataW.trod enc prog w base spare held fuel 78 cs = some x) : ∃ a : Out, Out.cs a = cs ∧ a.wf := by
  obtain ⟨ns, h1, h2, h3⟩ := trod_ints 6 78 3 eqT_78 (by kernel_rfl) _ _ _ h
  match ns, h1 with
  | [a, b, c], _ => exact ⟨⟨a, b, c⟩, h2.symm, h3 a (by simp), h3 b (by simp), h3 c (by simp)⟩
theorem dec_outs (h : DataW.trod enc prog w base spare held fuel 70 cs = some x) : ∃ (v : Value) (l : List Out), cs = [v] ∧ (∀ a ∈ l, a.wf) ∧ ∀ g, Old w g → rdS 3 Out.cs v l g :=
  open_sliceG (f := Out.cs) (s := 3) Out.wf und_70 (by kernel_rfl) (by decide) (fun _ => rfl) (fun _ _ _ h => dec_out h) h
theorem dec_ints (h : DataW.trod enc prog w base spare held fuel 36 cs = some x) : ∃ (v : Value) (l : List Int), cs = [v] ∧ (∀ a ∈ l, i64 a) ∧ ∀ g, Old w g → rdS 1 (intsK .i64) v l g :=
  open_sliceG (f := intsK .i64) (s := 1) i64 und_36 (by kernel_rfl) (by decide) (fun _ => rfl) (fun _ cs _ h => by obtain ⟨n, h1, h2⟩ := dec_int h; exact ⟨n, h1.symm, h2⟩) h
theorem dec_rule (h : DataW.trod enc prog w base spare held fuel 80 cs = some x) : ∃ a : RuleX, RuleX.cs a = cs ∧ a.wf ∧ ∀ g, Old w g → rdS 3 Out.cs a.sv a.Sends g := by
  obtain ⟨h1, h2⟩ := dec_fields (l := [(3, 0), (3, 1), (3, 2), (70, 3)]) (by kernel_rfl) h
  have hsz : szD prog 80 = 4 := by kernel_rfl
  have hs1 : szD prog 3 = 1 := by kernel_rfl
  have hs2 : szD prog 70 = 1 := by kernel_rfl
  rw [hsz] at h1
  match cs, h1 with
  | [a, b, c, d], _ =>
    obtain ⟨_, _, k1⟩ := h2 0 _ _ rfl
    obtain ⟨_, _, k2⟩ := h2 1 _ _ rfl
    obtain ⟨_, _, k3⟩ := h2 2 _ _ rfl
    obtain ⟨_, _, k4⟩ := h2 3 _ _ rfl
    rw [hs1] at k1 k2 k3
    rw [hs2] at k4
    obtain ⟨n1, e1, f1⟩ := dec_int k1
    obtain ⟨n2, e2, f2⟩ := dec_int k2
    obtain ⟨n3, e3, f3⟩ := dec_int k3
    obtain ⟨v, l, e4, f4, r4⟩ := dec_outs k4
    injection e1 with e1
    injection e2 with e2
    injection e3 with e3
    injection e4 with e4
    subst e1 e2 e3 e4
    exact ⟨⟨n1, n2, n3, d, l⟩, rfl, ⟨f1, f2, f3, f4⟩, r4⟩
theorem dec_rules (h : DataW.trod enc prog w base spare held fuel 69 cs = some x) : ∃ (v : Value) (l : List RuleX), cs = [v] ∧ (∀ a ∈ l, a.wf) ∧ ∀ g, Old w g → RdRules v l g := by
  obtain ⟨v, l, h1, h2, h3⟩ := open_sliceG (f := RuleX.cs) (s := 4) (fun a : RuleX => a.wf ∧ ∀ g, Old w g → rdS 3 Out.cs a.sv a.Sends g) und_69 (by kernel_rfl) (by decide) (fun _ => rfl) (fun _ _ _ h => dec_rule h) h
  exact ⟨v, l, h1, fun a ha => (h2 a ha).1, fun g hg => ⟨h3 g hg, fun r hr => (h2 r hr).2 g hg⟩⟩
theorem dec_fed (h : DataW.trod enc prog w base spare held fuel 72 cs = some x) : ∃ a : FedX, FedX.cs a = cs ∧ a.wf ∧ ∀ g, Old w g → RdFed a g := by
  obtain ⟨h1, h2⟩ := dec_fields (l := [(3, 0), (3, 1), (3, 2), (69, 3), (36, 4), (36, 5), (70, 6)]) (by kernel_rfl) h
  have hsz : szD prog 72 = 7 := by kernel_rfl
  have hs1 : szD prog 3 = 1 := by kernel_rfl
  have hs2 : szD prog 70 = 1 := by kernel_rfl
  have hs3 : szD prog 69 = 1 := by kernel_rfl
  have hs4 : szD prog 36 = 1 := by kernel_rfl
  rw [hsz] at h1
  match cs, h1 with
  | [a, b, c, d, e, f, i], _ =>
    obtain ⟨_, _, k1⟩ := h2 0 _ _ rfl
    obtain ⟨_, _, k2⟩ := h2 1 _ _ rfl
    obtain ⟨_, _, k3⟩ := h2 2 _ _ rfl
    obtain ⟨_, _, k4⟩ := h2 3 _ _ rfl
    obtain ⟨_, _, k5⟩ := h2 4 _ _ rfl
    obtain ⟨_, _, k6⟩ := h2 5 _ _ rfl
    obtain ⟨_, _, k7⟩ := h2 6 _ _ rfl
    rw [hs1] at k1 k2 k3
    rw [hs3] at k4
    rw [hs4] at k5 k6
    rw [hs2] at k7
    obtain ⟨n1, e1, f1⟩ := dec_int k1
    obtain ⟨n2, e2, f2⟩ := dec_int k2
    obtain ⟨n3, e3, f3⟩ := dec_int k3
    obtain ⟨v4, l4, e4, f4, r4⟩ := dec_rules k4
    obtain ⟨v5, l5, e5, f5, r5⟩ := dec_ints k5
    obtain ⟨v6, l6, e6, f6, r6⟩ := dec_ints k6
    obtain ⟨v7, l7, e7, f7, r7⟩ := dec_outs k7
    injection e1 with e1
    injection e2 with e2
    injection e3 with e3
    injection e4 with e4
    injection e5 with e5
    injection e6 with e6
    injection e7 with e7
    subst e1 e2 e3 e4 e5 e6 e7
    exact ⟨⟨n1, n2, n3, d, l4, e, l5, f, l6, i, l7⟩, rfl, ⟨f1, f2, f3, f4, f5, f6, f7⟩, fun g hg => ⟨r4 g hg, r5 g hg, r6 g hg, r7 g hg⟩⟩
/-- A federation that came in. -/
theorem open_world {base : Nat} {v : Value} {d : DataW H} {p : List MemPlace} {cs : Array Value} (hv : v = .agg cs) (h : DataW.Trod enc prog w base spare held 39 v d p) : ∃ a : WdX, v = .agg a.cs.toArray ∧ a.wf ∧ ∀ g, Old w g → RdWd a g := by
  subst hv
  obtain ⟨fuel, hf⟩ := h
  obtain ⟨h1, h2⟩ := dec_fields (l := [(36, 0), (37, 1), (3, 2)]) (by kernel_rfl) hf
  have hsz : szD prog 39 = 3 := by kernel_rfl
  have hs1 : szD prog 3 = 1 := by kernel_rfl
  have hs2 : szD prog 36 = 1 := by kernel_rfl
  have hs3 : szD prog 37 = 1 := by kernel_rfl
  rw [hsz] at h1
  have hc : (Value.agg cs).cells.toList = cs.toList := rfl
  rw [hc] at h1 h2
  obtain ⟨a, b, c, hl⟩ : ∃ a b c, cs.toList = [a, b, c] := by
    match hcs : cs.toList, h1 with
    | [a, b, c], _ => exact ⟨a, b, c, rfl⟩
  rw [hl] at h2
  obtain ⟨_, _, k1⟩ := h2 0 _ _ rfl
  obtain ⟨_, _, k2⟩ := h2 1 _ _ rfl
  obtain ⟨_, _, k3⟩ := h2 2 _ _ rfl
  rw [hs2] at k1
  rw [hs3] at k2
  rw [hs1] at k3
  obtain ⟨v1, l1, e1, f1, r1⟩ := dec_ints k1
  obtain ⟨v2, l2, e2, f2, r2⟩ := open_sliceG (f := FedX.cs) (s := 7) (fun a : FedX => a.wf ∧ ∀ g, Old w g → RdFed a g) und_37 (by kernel_rfl) (by decide) (fun _ => rfl) (fun _ _ _ h => dec_fed h) k2
  obtain ⟨n3, e3, f3⟩ := dec_int k3
  injection e1 with e1
  injection e2 with e2
  injection e3 with e3
  subst e1 e2 e3
  refine ⟨⟨a, l1, b, l2, n3⟩, ?_, ⟨f1, fun f hf => (f2 f hf).1, f3⟩, fun g hg => ⟨r1 g hg, r2 g hg, fun f hf => (f2 f hf).2 g hg⟩⟩
  congr 1
  apply Array.ext'
  exact hl
end
end Go.Proofs.YtenglfaeohgkfaaGreat
