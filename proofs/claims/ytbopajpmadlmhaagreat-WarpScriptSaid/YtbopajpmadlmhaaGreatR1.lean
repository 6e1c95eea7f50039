/- Texts of the proof, joined: EngI, Data, EngO, EngY, EngZ, PfHead, EngM, PfTy, Pf0. Conditions: none. -/
import Derived.Test.YtbopajpmadlmhaaGreatR0
import Derived.ProofKit
import Derived.Deep.Slices
import Derived.Test.YtbopajpmadlmhaaGreatProg
import Derived.KernelRfl
import Derived.Maps.RangeRun
section
namespace Go.E
open Go.RowKit Go.WideShapes Go.Deep

section
variable {H : Type} {enc : TypeId × Value → H} {P : Program} {w : World} {base : Nat} {spare : Nat → Bool} {held : Bool}

theorem trod_int64 {t : TypeId} {k : IntKind} {fuel : Nat} {cs : List Value} {x : DataW H × List MemPlace} (hu : P.underlying t = some (.int k)) (h : DataW.trod enc P w base spare held fuel t cs = some x) :
    ∃ n, cs = [.int k n] ∧ (Lit.int k n).wf = true := by
  cases fuel with
  | zero => simp [DataW.trod] at h
  | succ fuel =>
    unfold DataW.trod at h
    rw [hu] at h
    match cs, h with
    | [.int k' n], h =>
      simp only at h
      split at h
      · rename_i hc
        obtain ⟨rfl, hw⟩ := hc
        exact ⟨n, rfl, hw⟩
      · cases h

theorem trod_ints : ∀ (n : Nat) (t : TypeId) (s : Nat), eqT P n t = some s → szD P t = s → ∀ (fuel : Nat) (cs : List Value) (x : DataW H × List MemPlace), DataW.trod enc P w base spare held fuel t cs = some x →
    ∃ ns : List Int, ns.length = s ∧ cs = ints ns ∧ ∀ m ∈ ns, (Lit.int .i64 m).wf = true := by
  intro n
  induction n with
  | zero => intro t s h; simp [eqT] at h
  | succ n ih =>
    intro t s h hsz fuel cs x hx
    unfold eqT at h
    split at h
    · rename_i hu
      obtain ⟨m, rfl, hw⟩ := trod_int64 hu hx
      exact ⟨[m], by simpa using h, rfl, by simpa using hw⟩
    · rename_i fs hu
      split at h
      · cases h
      · obtain ⟨xs, k, _, _, hlen, hxl, hg⟩ := DataW.trod_struct hu hx
        have hcl : P.cellsOf t = s := by
          rw [← hsz]; unfold Program.cellsOf szD; cases P.info? t <;> rfl
        have hlen' : cs.length = s := hlen.trans hcl
        have key : ∀ (l : List Field) (i off : Nat), (∀ j, l[j]? = fs[i + j]?) → l.foldl (fun (acc : Option Nat) f => match acc with
            | none => none
            | some off => match decide (f.name ≠ "_") && decide (f.offset = off) && okT P f.type, eqT P n f.type with
              | true, some s => match decide (szD P f.type = s) with | true => some (off + s) | false => none
              | _, _ => none) (some off) = some s → ∃ ns : List Int, ns.length = s - off ∧ cs.drop off = ints ns ∧ ∀ m ∈ ns, (Lit.int .i64 m).wf = true := by
          intro l
          induction l with
          | nil =>
            intro i off _ ho
            simp only [List.foldl_nil, Option.some.injEq] at ho
            subst ho
            exact ⟨[], by simp, by rw [List.drop_of_length_le (by omega)]; rfl, by simp⟩
          | cons f l ihl =>
            intro i off hl ho
            simp only [List.foldl_cons] at ho
            split at ho
            · rename_i sf hc he
              split at ho
              · rename_i hz
                simp only [Bool.and_eq_true, decide_eq_true_eq] at hc hz
                obtain ⟨⟨hname, hoff⟩, hok⟩ := hc
                obtain ⟨ns2, hl2, hc2, hw2⟩ := ihl (i + 1) (off + sf) (fun j => by have := hl (j + 1); simpa [Nat.add_assoc, Nat.add_comm 1 j] using this) ho
                have hfi : fs[i]? = some f := by simpa using (hl 0).symm
                have hgf := hg i f hfi
                have hcf : P.cellsOf f.type = sf := by
                  rw [← hz]; unfold Program.cellsOf szD; cases P.info? f.type <;> rfl
                rw [hoff, hcf] at hgf
                have hle : off + sf ≤ s := by
                  have mono : ∀ (l : List Field) (o : Nat), l.foldl (fun (acc : Option Nat) f => match acc with
                      | none => none
                      | some off => match decide (f.name ≠ "_") && decide (f.offset = off) && okT P f.type, eqT P n f.type with
                        | true, some s => match decide (szD P f.type = s) with | true => some (off + s) | false => none
                        | _, _ => none) (some o) = some s → o ≤ s := by
                    intro l
                    induction l with
                    | nil => intro o h; simp at h; omega
                    | cons g l ih2 =>
                      intro o h
                      simp only [List.foldl_cons] at h
                      split at h
                      · split at h
                        · have := ih2 _ h; omega
                        · rw [foldl_none _ (fun _ => rfl)] at h; cases h
                      · rw [foldl_none _ (fun _ => rfl)] at h; cases h
                  exact mono l _ ho
                cases hxi : xs[i]? with
                | none =>
                  have h1 := (Array.getElem?_eq_some_iff.1 hfi).1
                  rw [List.getElem?_eq_none_iff] at hxi
                  omega
                | some y =>
                  rw [hxi] at hgf
                  obtain ⟨ns1, hl1, hc1, hw1⟩ := ih f.type sf he hz _ _ _ hgf
                  refine ⟨ns1 ++ ns2, by rw [List.length_append, hl1, hl2]; omega, ?_, fun m hm => ?_⟩
                  · have : cs.drop off = (cs.drop off).take sf ++ cs.drop (off + sf) := by rw [← List.drop_drop, List.take_append_drop]
                    rw [this, hc1, hc2]
                    simp [ints]
                  · rcases List.mem_append.1 hm with hm | hm
                    · exact hw1 m hm
                    · exact hw2 m hm
              · rw [foldl_none _ (fun _ => rfl)] at ho; cases ho
            · rw [foldl_none _ (fun _ => rfl)] at ho; cases ho
        obtain ⟨ns, h1, h2, h3⟩ := key fs.toList 0 0 (fun j => by simp) h
        exact ⟨ns, by simpa using h1, by simpa using h2, h3⟩
    · cases h

theorem cells?_lt {w : World} {a : Addr} {n : Nat} {cs : List Value} (hn : 0 < n) (h : w.cells? base a n = some cs) : a.block < w.heap.size := by
  obtain ⟨_, hl, hc⟩ := World.cells?_some h
  have h0 := hc 0 hn
  have : (w.cell? (a.add 0)).isSome = true := by rw [h0]; simp; omega
  unfold World.cell? at this
  cases hb : w.heap[(a.add 0).block]? with
  | none => rw [hb] at this; simp at this
  | some o => exact (Array.getElem?_eq_some_iff.1 hb).1

theorem cellsOf_sz (t : TypeId) : P.cellsOf t = szD P t := by unfold Program.cellsOf szD; cases P.info? t <;> rfl

theorem open_structs {st t : TypeId} {s n : Nat} (hu : P.underlying st = some (.slice t)) (hT : eqT P n t = some s) (hsz : szD P t = s) (hs : 0 < s) {v : Value} {d : DataW H} {p : List MemPlace} {a : Option Addr} {len cap : Nat} (hv : v = .slice a len cap)
    (h : DataW.Trod enc P w base spare held st v d p) : ∃ l : List (List Int), (∀ ns ∈ l, ns.length = s ∧ ∀ m ∈ ns, (Lit.int .i64 m).wf = true) ∧ ∀ g, Old w g → rdS s ints v l g := by
  subst hv
  obtain ⟨fuel, hf⟩ := h
  have hf' : DataW.trod enc P w base spare held fuel st [.slice a len cap] = some (d, p) := hf
  rcases open_slice hu hf' with ⟨hcs, _⟩ | ⟨a', len', cap', m, k, D, Pl, hcs, hb, hl, hm, hmm, hx, hi⟩
  · injection hcs with hcs _
    injection hcs with e1 e2 e3
    subst e1; subst e2; subst e3
    exact ⟨[], by simp, fun g _ => ⟨none, 0, rfl, Nat.le_refl _, fun h => absurd h (by simp)⟩⟩
  · injection hcs with hcs _
    injection hcs with e1 e2 e3
    subst e1; subst e2; subst e3
    rw [cellsOf_sz, hsz] at hi
    have hlm : len ≤ m := by rw [hmm]; split <;> omega
    have hex : ∀ i, i < len → ∃ ns : List Int, ns.length = s ∧ (∀ x ∈ ns, (Lit.int .i64 x).wf = true) ∧ w.cells? base (a'.add (i * s)) s = some (ints ns) := by
      intro i hil
      obtain ⟨cs', h1, h2⟩ := hi i (by omega)
      obtain ⟨ns, h3, h4, h5⟩ := trod_ints n t s hT hsz _ _ _ h2
      exact ⟨ns, h3, h5, by rw [← h4]; exact h1⟩
    obtain ⟨f, hf2⟩ : ∃ f : Nat → List Int, ∀ i, i < len → (f i).length = s ∧ (∀ x ∈ f i, (Lit.int .i64 x).wf = true) ∧ w.cells? base (a'.add (i * s)) s = some (ints (f i)) :=
      ⟨fun i => if h : i < len then (hex i h).choose else [], fun i h => by simp only [dif_pos h]; exact (hex i h).choose_spec⟩
    refine ⟨(List.range len).map f, fun ns hns => ?_, fun g hg => ⟨some a', cap, by simp, by simpa using hl, fun h0 => ⟨a', rfl, ?_⟩⟩⟩
    · obtain ⟨i, hi, rfl⟩ := List.mem_map.1 hns
      obtain ⟨h1, h2, _⟩ := hf2 i (by simpa using hi)
      exact ⟨h1, h2⟩
    · have hlen0 : 0 < len := by simpa using h0
      have hblk : a'.block < w.heap.size := by
        have := cells?_lt hs (hf2 0 hlen0).2.2
        simpa [Addr.add] using this
      refine Old.cells hblk (fun i v hv => ?_) g hg
      have hli : i < ((List.range len).map f).length * s := by
        have := (List.getElem?_eq_some_iff.1 hv).1
        have h2 : ∀ l : List Nat, (∀ i ∈ l, i < len) → (l.flatMap fun i => ints (f i)).length = l.length * s := by
          intro l
          induction l with
          | nil => intro _; simp
          | cons x l ih => intro hx; simp only [List.flatMap_cons, List.length_append, List.length_cons, ih (fun i hi => hx i (by simp [hi])), ints_length, (hf2 x (hx x (by simp))).1, Nat.add_mul]; omega
        have h3 := h2 (List.range len) (fun i hi => by simpa using hi)
        rw [List.flatMap_map] at this
        simpa [h3] using this
      have hq : i / s < len := by
        rw [Nat.div_lt_iff_lt_mul hs]
        simpa using hli
      have hmod := Nat.mod_lt i hs
      obtain ⟨h1, _, h2⟩ := hf2 (i / s) hq
      obtain ⟨_, _, h3⟩ := World.cells?_some h2
      have h4 := h3 (i % s) hmod
      rw [add_add, show i / s * s + i % s = i from by rw [Nat.mul_comm]; exact Nat.div_add_mod i s] at h4
      rw [h4]
      have hdrop : ∀ (l : List Nat) (q r : Nat), (∀ i ∈ l, i < len) → r < s → ∀ x, l[q]? = some x → ((l.map f).flatMap ints)[q * s + r]? = (ints (f x))[r]? := by
        intro l
        induction l with
        | nil => intro q r _ _ x hx; simp at hx
        | cons y l ih =>
          intro q r hl hr x hx
          have hly : (ints (f y)).length = s := by rw [ints_length]; exact (hf2 y (hl y (by simp))).1
          cases q with
          | zero =>
            simp at hx
            subst hx
            simp only [Nat.zero_mul, Nat.zero_add, List.map_cons, List.flatMap_cons]
            rw [List.getElem?_append_left (by omega)]
          | succ q =>
            simp only [List.getElem?_cons_succ] at hx
            simp only [List.map_cons, List.flatMap_cons]
            rw [List.getElem?_append_right (by rw [hly, Nat.add_mul]; omega), hly, show (q + 1) * s + r - s = q * s + r from by rw [Nat.add_mul]; omega]
            exact ih q r (fun i hi => hl i (by simp [hi])) hr x hx
      have := hdrop (List.range len) (i / s) (i % s) (fun i hi => by simpa using hi) hmod (i / s) (by simp [hq])
      rw [show i / s * s + i % s = i from by rw [Nat.mul_comm]; exact Nat.div_add_mod i s] at this
      rw [← this]
      exact hv

theorem rd_of {α : Type} {s : Nat} {f : α → List Value} (of : List Int → α) {v : Value} {l : List (List Int)} {g : Hp} (h : rdS s ints v l g) (hof : ∀ ns ∈ l, f (of ns) = ints ns) : rdS s f v (l.map of) g := by
  obtain ⟨A, c, h1, h2, h3⟩ := h
  refine ⟨A, c, by simpa using h1, by simpa using h2, fun h0 => ?_⟩
  obtain ⟨a, h4, h5⟩ := h3 (by simpa using h0)
  refine ⟨a, h4, ?_⟩
  have e : (l.map of).flatMap f = l.flatMap ints := by
    clear h1 h2 h3 h5 h0
    induction l with
    | nil => rfl
    | cons x l ih => simp only [List.map_cons, List.flatMap_cons, hof x (by simp), ih (fun ns hns => hof ns (by simp [hns]))]
  rw [e]
  exact h5

end
end Go.E
end
section
namespace Go.E

structure Key where
  T : Int
  From : Int
  Seq : Int
  deriving DecidableEq
def Key.ns (k : Key) : List Int := [k.T, k.From, k.Seq]
abbrev Key.cs (k : Key) : List Value := ints k.ns
structure Msg where
  key : Key
  To : Int
  Class : Int
  Body : Int
  deriving DecidableEq
def Msg.ns (m : Msg) : List Int := [m.key.T, m.key.From, m.key.Seq, m.To, m.Class, m.Body]
abbrev Msg.cs (m : Msg) : List Value := ints m.ns
structure Kept where
  cause : Key
  m : Msg
  deriving DecidableEq
def Kept.ns (k : Kept) : List Int := [k.cause.T, k.cause.From, k.cause.Seq, k.m.key.T, k.m.key.From, k.m.key.Seq, k.m.To, k.m.Class, k.m.Body]
abbrev Kept.cs (k : Kept) : List Value := ints k.ns

theorem Key.eq_ns (a b : Key) : (a.ns == b.ns) = decide (a = b) := by
  rw [Bool.eq_iff_iff]
  obtain ⟨a1, a2, a3⟩ := a
  obtain ⟨b1, b2, b3⟩ := b
  simp [Key.ns]
theorem Msg.eq_ns (a b : Msg) : (a.ns == b.ns) = decide (a = b) := by
  rw [Bool.eq_iff_iff]
  obtain ⟨⟨a1, a2, a3⟩, a4, a5, a6⟩ := a
  obtain ⟨⟨b1, b2, b3⟩, b4, b5, b6⟩ := b
  simp [Msg.ns, and_assoc]
def Key.zero : Key := ⟨0, 0, 0⟩
def Msg.zero : Msg := ⟨⟨0, 0, 0⟩, 0, 0, 0⟩

theorem take_snoc {α : Type} {l : List α} {j : Nat} {x : α} (h : l[j]? = some x) : l.take (j + 1) = l.take j ++ [x] := by
  rw [List.take_add_one, h]; rfl
theorem get_of_lt {α : Type} {l : List α} {j : Nat} (h : j < l.length) : ∃ x, l[j]? = some x := ⟨l[j], List.getElem?_eq_getElem h⟩
def nOf : Value → Nat
  | .int _ n => n.toNat
  | _ => 0

structure GateStep where
  Kind : Int
  K : Key
  M : Msg
  deriving DecidableEq
def GateStep.ns (s : GateStep) : List Int := [s.Kind, s.K.T, s.K.From, s.K.Seq, s.M.key.T, s.M.key.From, s.M.key.Seq, s.M.To, s.M.Class, s.M.Body]
abbrev GateStep.cs (s : GateStep) : List Value := ints s.ns

def Key.of (l : List Int) : Key := ⟨l.getD 0 0, l.getD 1 0, l.getD 2 0⟩
theorem Key.of_cs {l : List Int} (h : l.length = 3) : (Key.of l).cs = ints l := by
  match l, h with
  | [_, _, _], _ => rfl
def Msg.of (l : List Int) : Msg := ⟨⟨l.getD 0 0, l.getD 1 0, l.getD 2 0⟩, l.getD 3 0, l.getD 4 0, l.getD 5 0⟩
theorem Msg.of_cs {l : List Int} (h : l.length = 6) : (Msg.of l).cs = ints l := by
  match l, h with
  | [_, _, _, _, _, _], _ => rfl
def GateStep.of (l : List Int) : GateStep := ⟨l.getD 0 0, ⟨l.getD 1 0, l.getD 2 0, l.getD 3 0⟩, ⟨⟨l.getD 4 0, l.getD 5 0, l.getD 6 0⟩, l.getD 7 0, l.getD 8 0, l.getD 9 0⟩⟩
theorem GateStep.of_cs {l : List Int} (h : l.length = 10) : (GateStep.of l).cs = ints l := by
  match l, h with
  | [_, _, _, _, _, _, _, _, _, _], _ => rfl

end Go.E
end
section
namespace Go.E
open Go.RowKit
variable {P : Program} {w : World} {K : KV}

def meM (P : Program) (t : TypeId) (m k : Value) (w : World) (K : KV) : Prop := ex P (oV (Instr.mapEntry t m k)) w K
def esM (P : Program) (t : TypeId) (m s x : Value) (w : World) (K : KV) : Prop := ex P (oU (Instr.entryStore t m s x)) w K
def clI (P : Program) (x : Value) (name : String) (args : Array Value) (w : World) (K : KV) : Prop := ex P (invoke (.fn (.method name) #[]) (#[x] ++ args)) w K
theorem clI_s {t : TypeId} {v rcv : Value} {name : String} {f : FuncId} {args : Array Value} (hm : (Go.method (P.types.size + Made.depth) t v name).run P w = .ok (f, rcv) w) (h : Cl P f (#[rcv] ++ args) w K) : clI P (.iface t v) name args w K := by
  refine ex_congr ?_ h
  have h1 : (#[Value.iface t v] ++ args)[0]? = some (Value.iface t v) := by rw [Array.getElem?_append_left (by simp)]; rfl
  have h2 : (#[Value.iface t v] ++ args).extract 1 (#[Value.iface t v] ++ args).size = args := by
    apply Array.ext'
    simp
  simp only [invoke, h1, h2, callMethod, Sem.run_bind]
  have h3 : (program).run P w = .ok P w := rfl
  rw [h3]
  simp only [Result.andThen_ok, hm]

def ldT (P : Program) (t : TypeId) (x : Value) (w : World) (K : KV) : Prop := match okT P t, isAggT P t with
  | true, true => ldN (szD P t) x w K
  | true, false => ld1 x w K
  | false, _ => False
theorem ldT_run {t : TypeId} {x : Value} (h : ldT P t x w K) : ∃ a v, x = .pointer (some a) ∧ (loadVar t a).run P w = .ok v w ∧ K v w := by
  unfold ldT at h
  split at h
  · rename_i ho ha
    obtain ⟨d, i, z, hd, hi, hz, hs, hg, hz'⟩ := okT_inv ho
    obtain ⟨a', vs, hx, hn, hc, hk⟩ := h
    exact ⟨a', _, hx, run_loadVarN hd hi (hg ▸ ha) (hs ▸ hn) hc, hk⟩
  · rename_i ho ha
    obtain ⟨d, i, z, hd, hi, hz, hs, hg, hz'⟩ := okT_inv ho
    obtain ⟨a', v, hx, hc, hk⟩ := h
    exact ⟨a', v, hx, run_loadVar1 hd (hg ▸ ha) hc, hk⟩
  · exact h.elim

def rvOf : Nat × Option TypeId → ResultVar
  | (t, none) => .tmp t
  | (t, some y) => .cell t y
def tupV (vs : List Value) : Value := match vs with
  | [v] => v
  | _ => .tuple vs.toArray
def retC (P : Program) : List (Nat × Option TypeId) → List Value → Ev → World → KV → Prop
  | [], vs, _, w, K => K (tupV vs) w
  | (t, none) :: l, vs, ρ, w, K => retC P l (vs ++ [ρ t]) ρ w K
  | (t, some y) :: l, vs, ρ, w, K => ldT P y (ρ t) w fun v _ => retC P l (vs ++ [v]) ρ w K

theorem retC_run {nt m : Nat} {a : Act} {ρ : Ev} (ha : Agr nt m a ρ) :
    ∀ (rs : List (Nat × Option TypeId)) (vs : List Value), (∀ r ∈ rs, m.testBit r.1 = true) → retC P rs vs ρ w K → ∃ us, (∀ (g : ResultVar → Sem Value), (∀ t, g (.tmp t) = pure (a.tmps.getD t undef)) → (∀ t y, g (.cell t y) = (do loadVar y (← asAddr (a.tmps.getD t undef)))) → ((rs.map rvOf).mapM g).run P w = .ok us w) ∧ K (tupV (vs ++ us)) w
  | [], vs, _, h => ⟨[], fun g _ _ => by simp, by simpa [retC] using h⟩
  | (t, none) :: l, vs, hm, h => by
    obtain ⟨us, k1, k2⟩ := retC_run ha l (vs ++ [ρ t]) (fun r hr => hm r (by simp [hr])) h
    refine ⟨ρ t :: us, fun g h1 h2 => ?_, by simpa using k2⟩
    have k1 := k1 g h1 h2
    have he := ha.2.2 t (hm (t, none) (by simp))
    simp only [List.map_cons, rvOf, List.mapM_cons, Sem.run_bind, h1, Sem.run_pure, Result.andThen_ok, k1, he]
  | (t, some y) :: l, vs, hm, h => by
    obtain ⟨a', v, hx, hl, hk⟩ := ldT_run (K := fun v _ => retC P l (vs ++ [v]) ρ w K) h
    obtain ⟨us, k1, k2⟩ := retC_run ha l (vs ++ [v]) (fun r hr => hm r (by simp [hr])) hk
    refine ⟨v :: us, fun g h1 h2 => ?_, by simpa using k2⟩
    have k1 := k1 g h1 h2
    have he := ha.2.2 t (hm (t, some y) (by simp))
    simp only [List.map_cons, rvOf, List.mapM_cons, Sem.run_bind, h2, Sem.run_pure, Result.andThen_ok, he, hx, asAddr, hl, k1]

theorem run_resultsC {fn : Func} {rs : List (Nat × Option TypeId)} (hr : fn.results = (rs.map rvOf).toArray) {nt m : Nat} {a : Act} {ρ : Ev} (ha : Agr nt m a ρ) (hm : ∀ r ∈ rs, m.testBit r.1 = true) (h : retC P rs [] ρ w K) :
    ∃ v, (results fn a.tmps).run P w = .ok v w ∧ K v w := by
  obtain ⟨us, k1, k2⟩ := retC_run ha rs [] hm h
  refine ⟨tupV us, ?_, by simpa using k2⟩
  unfold results
  rw [hr, Array.mapM_eq_mapM_toList]
  simp only [Sem.run_bind, Sem.run_map]
  rw [k1 _ (fun _ => rfl) (fun _ _ => rfl)]
  simp only [Result.andThen_ok, Sem.run_pure]
  congr 1
  unfold tupV
  match us with
  | [] => rfl
  | [v] => rfl
  | v :: u :: l => simp

def fnWC (P : Program) (nt : Nat) (rs : List (Nat × Option TypeId)) (c : Code) (args : Array Value) (w : World) (K : KV) : Prop :=
  cw P nt (bitsL (rs.map (·.1))) c (bitsL (rs.map (·.1))) (fun _ => 0) ⟨fun ρ w => retC P rs [] ρ w K, fun _ _ _ => False, fun ρ w => retC P rs [] ρ w K⟩ (Ev.init args) w
def fnOkC (P : Program) (nt : Nat) (rs : List (Nat × Option TypeId)) (c : Code) : Bool := cwOk P nt (bitsL (rs.map (·.1))) c (bitsL (rs.map (·.1))) (fun _ => 0)

theorem calls_of_fnWC {f : FuncId} {fn : Func} {c : Code} {args : Array Value} {nt : Nat} {rs : List (Nat × Option TypeId)} (hm : P.follows .mixedOrders = true)
    (hf : P.funcs[f]? = some fn) (hb : fn.body = some c) (hn : fn.ntmps = nt) (hr : fn.results = (rs.map rvOf).toArray) (hargs : args.size ≤ nt) (hok : fnOkC P nt rs c = true)
    (h : fnWC P nt rs c args w K) : CallsR P f args w K := by
  have hmem : ∀ r ∈ rs, (bitsL (rs.map (·.1))).testBit r.1 = true := fun r hr => bitsL_mem (List.mem_map.2 ⟨r, hr, rfl⟩)
  refine calls_of_wp hf hb (wpIn_wide (n := 0).1 (cw_sound (ro := none) hm c _ _ _ (Ev.init args) _ w _ (.inl rfl) hok ⟨by simp [hn]; omega, rfl, fun t _ => ?_⟩ ?_ ?_ ?_ h))
  · simp only [Ev.init, Array.getD_eq_getD_getElem?, Array.getElem?_append]
    split
    · rfl
    · rename_i hge
      rw [Array.getElem?_eq_none (xs := args) (by omega)]
      cases hx : (Array.replicate (fn.ntmps - args.size) undef)[t - args.size]? with
      | none => rfl
      | some v =>
        simp only [Array.getElem?_replicate] at hx
        split at hx
        · cases hx; rfl
        · cases hx
  · intro ρ' a' w' k1 k2 _
    obtain ⟨v, k3, k4⟩ := run_resultsC hr k2 hmem k1
    exact ⟨k2.2.1, _, k3, _, rfl, k4⟩
  · intro id ρ' a' w' k1
    exact k1.elim
  · intro ρ' a' w' k1 k2
    obtain ⟨v, k3, k4⟩ := run_resultsC hr k2 hmem k1
    exact ⟨k2.2.1, _, k3, _, rfl, k4⟩

theorem calls_of_FC {f : FuncId} {fn : Func} {args : Array Value} {nt : Nat} {rs : List (Nat × Option TypeId)} {F : Prop} (hm : P.follows .mixedOrders = true)
    (hf : P.funcs[f]? = some fn) (hs : (match fn.body with | some _ => true | none => false) = true) (hn : fn.ntmps = nt) (hr : fn.results = (rs.map rvOf).toArray) (hargs : args.size ≤ nt)
    (hok : fnOkC P nt rs (match fn.body with | some c => c | none => .skip) = true) (he : F = fnWC P nt rs (match fn.body with | some c => c | none => .skip) args w K) (h : F) : CallsR P f args w K := by
  cases hb : fn.body with
  | none => rw [hb] at hs; cases hs
  | some c =>
    rw [hb] at hok he
    exact calls_of_fnWC hm hf hb hn hr hargs hok (he ▸ h)
end Go.E
end
section
namespace Go.E
open Go.RowKit

def Ev.putL (ρ : Ev) : List (Nat × Value) → Ev
  | [] => ρ
  | (t, v) :: l => Ev.putL (ρ.upd t v) l
def bgn (l : Nat) (w : World) (K : World → Prop) : Prop := ∃ r, w.heap[l]? = some (.loop r) ∧ r.state = .ready ∧ K (w.putObj l (.loop { r with state := .busy }))
def edn (l : Nat) (w : World) (K : World → Prop) : Prop := ∃ r, w.heap[l]? = some (.loop r) ∧ K (w.putObj l (.loop { r with state := .ready, pending := none }))
def rdef (D : Nat) (w : World) (K : World → Prop) : Prop := w.heap[D]? = some (.deferred (some [])) ∧ K (w.putObj D (.deferred none))
def lvR (asx bd : Code) : Nat := lv 0 asx (lv 0 bd 0 (fun _ => 0)) (fun _ => 0)
structure LoopFacts (nt : Nat) (ps : List Nat) (asx bd : Code) (ρ : Ev) (r : Loop) : Prop where
  params : r.params = ps.toArray
  assign : r.assign = asx
  body : r.body = bd
  size : r.tmps.size = nt
  agr : ∀ t, (lvR asx bd).testBit t = true → r.tmps.getD t undef = ρ t
theorem LoopFacts.turn {nt : Nat} {ps : List Nat} {asx bd : Code} {ρ : Ev} {r : Loop} (h : LoopFacts nt ps asx bd ρ r) (st : LoopState) (pd : Option Code) : LoopFacts nt ps asx bd ρ { r with state := st, pending := pd } :=
  ⟨h.params, h.assign, h.body, h.size, h.agr⟩

theorem foldl_agr {m nt : Nat} : ∀ (l : List (Nat × Value)) (tmps : Array Value) (ρ : Ev), (∀ x ∈ l, x.1 < nt) → AgrD [] nt m { tmps := tmps, defers := [] } ρ →
    AgrD [] nt m { tmps := l.foldl (fun (tmps : Array Value) (x : Nat × Value) => tmps.setIfInBounds x.1 x.2) tmps, defers := [] } (ρ.putL l)
  | [], _, _, _, h => h
  | (t, v) :: l, tmps, ρ, hl, h => by
    refine foldl_agr l (tmps.setIfInBounds t v) (ρ.upd t v) (fun x hx => hl x (List.mem_cons_of_mem _ hx)) ?_
    have h1 := (h.put (d := some t) (v := v) (fun t' ht => by cases ht; exact hl (t, v) List.mem_cons_self)).mono (m' := m) (fun t ht => by simp [ht])
    exact h1

section
variable {P : Program} {w : World} {K : KV}
def lpC (LR : Loop → Prop) (l : Nat) (st : LoopState) : HP := fun h => (∀ r st pd, LR r → LR { r with state := st, pending := pd }) ∧ ∃ r, LR r ∧ r.state = st ∧ r.pending = none ∧ h l = some (.loop r)
def dfC (D : Nat) : HP := fun h => h D = some (.deferred (some []))
variable {e : World} {R : List HP} {LR : Loop → Prop} {l : Nat}
theorem lp_open {st : LoopState} (hS : Sat e w (lpC LR l st :: R)) : (∀ r st pd, LR r → LR { r with state := st, pending := pd }) ∧ ∃ r, LR r ∧ r.state = st ∧ r.pending = none ∧ Sat e w ((fun h => h l = some (.loop r)) :: R) := by
  obtain ⟨h1, h2, d, s1, s2, ⟨hc, r, h3, h4, h5, h6⟩, h7⟩ := hS.mem
  exact ⟨hc, r, h3, h4, h5, hS.of_mem fun _ => ⟨h1, h2, d, s1, s2, h6, h7⟩⟩
theorem one_heap {o : Obj} {b : Nat} (hS : Sat e w ((fun h => h b = some o) :: R)) : w.heap[b]? = some o := by
  obtain ⟨g, hg, hs⟩ := hS.get 0 rfl
  exact hs _ _ hg
theorem bgn_s {K : World → Prop} (hS : Sat e w (lpC LR l .ready :: R)) (hk : ∀ w', Sat e w' (lpC LR l .busy :: R) → K w') : bgn l w K := by
  obtain ⟨hc, r, h1, h2, h3, h4⟩ := lp_open hS
  refine ⟨r, one_heap h4, h2, hk _ ?_⟩
  have h5 : Sat e (w.putObj l (.loop { r with state := .busy })) ((fun h => h l = some (.loop { r with state := .busy })) :: R) := h4.setB
  exact h5.imp fun g hg => ⟨hc, _, hc r .busy r.pending h1, rfl, h3, hg⟩
theorem edn_s {K : World → Prop} (hS : Sat e w (lpC LR l .busy :: R)) (hk : ∀ w', Sat e w' (lpC LR l .ready :: R) → K w') : edn l w K := by
  obtain ⟨hc, r, h1, h2, h3, h4⟩ := lp_open hS
  refine ⟨r, one_heap h4, hk _ ?_⟩
  have h5 : Sat e (w.putObj l (.loop { r with state := .ready, pending := none })) ((fun h => h l = some (.loop { r with state := .ready, pending := none })) :: R) := h4.setB
  exact h5.imp fun g hg => ⟨hc, _, hc r .ready none h1, rfl, rfl, hg⟩
theorem rdef_s {K : World → Prop} {D : Nat} (hS : Sat e w (dfC D :: R)) (hk : ∀ w', Sat e w' R → K w') : rdef D w K := by
  refine ⟨one_heap (o := .deferred (some [])) hS, hk _ ?_⟩
  have h5 : Sat e (w.putObj D (.deferred none)) ((fun h => h D = some (.deferred none)) :: R) := Sat.setB (o := .deferred (some [])) hS
  exact h5.drop
end
end Go.E
end
section
namespace Go.E
open Go.RowKit

def edr (l : Nat) (w : World) (K : World → Prop) : Prop := ∃ r, w.heap[l]? = some (.loop r) ∧ K (w.putObj l (.loop { r with state := .done, pending := some .ret }))
def rdWC (P : Program) (nt : Nat) (ps : List Nat) (asx bd : Code) (ρ : Ev) (l : Nat) (args : Nat → Value) (w : World) (k : KV) : Prop :=
  cw P nt 0 asx (lv 0 bd 0 (fun _ => 0)) (fun _ => 0) ⟨fun ρ1 w1 => bgn l w1 fun w2 => cw P nt 0 bd 0 (fun _ => 0) ⟨fun _ w3 => edn l w3 fun w4 => k (.bool true) w4, fun _ _ _ => False, fun _ w3 => edr l w3 fun w4 => k (.bool false) w4⟩ ρ1 w2, fun _ _ _ => False, fun _ _ => False⟩ (ρ.putL (ps.zip ((List.range ps.length).map args))) w

section
variable {P : Program} {w : World} {K : KV}
theorem yield_exC (hm : P.follows .mixedOrders = true) {nt l : Nat} {ps : List Nat} {asx bd : Code} {ρ : Ev} {r : Loop} {args : Array Value} (hr : w.heap[l]? = some (.loop r)) (hf : LoopFacts nt ps asx bd ρ r) (hs : args.size = ps.length)
    (hps : ps.all (fun t => decide (t < nt)) = true) (hda : noDraw asx = true) (hdb : noDraw bd = true) (hoa : cwOk P nt 0 asx (lv 0 bd 0 (fun _ => 0)) (fun _ => 0) = true) (hob : cwOk P nt 0 bd 0 (fun _ => 0) = true)
    (h : rdWC P nt ps asx bd ρ l (fun i => args.getD i undef) w K) : ex P (Instr.yield l args) w K := by
  unfold ex
  rw [run_yield hr (by rw [hf.params]; simpa using hs)]
  show RoundIn Fence.wide 0 P l r.fn _ r.assign r.body w _
  rw [hf.assign, hf.body]
  refine roundIn_of_wpIn trivial ?_
  have hzip : (r.params.zip args).toList = ps.zip args.toList := by rw [hf.params, Array.toList_zip]
  have hargs : (List.range ps.length).map (fun i => args.getD i undef) = args.toList := by
    apply List.ext_getElem
    · simp [hs]
    · intro i h1 h2
      simp at h2
      simp [Array.getD_eq_getD_getElem?, h2]
  unfold rdWC at h
  rw [hargs] at h
  have hag : AgrD [] nt (lvR asx bd) { tmps := (r.params.zip args).foldl (fun tmps (x : Nat × Value) => tmps.setIfInBounds x.1 x.2) r.tmps, defers := [] } (ρ.putL (ps.zip args.toList)) := by
    rw [← Array.foldl_toList, hzip]
    refine foldl_agr _ _ _ (fun x hx => ?_) ⟨hf.size, rfl, hf.agr⟩
    exact of_decide_eq_true (List.all_eq_true.1 hps x.1 (List.of_mem_zip hx).1)
  refine cw_sound (ro := some l) hm asx (lv 0 bd 0 (fun _ => 0)) (fun _ => 0) _ _ _ w _ (.inr hda) hoa hag ?_ ?_ ?_ h
  · rintro ρ1 a1 w1 ⟨r1, h1, h2, h3⟩ ha1 _
    refine ⟨_, run_beginRound h1 h2, ?_⟩
    refine cw_sound (ro := some l) hm bd 0 (fun _ => 0) _ _ _ _ _ (.inr hdb) hob ha1 ?_ ?_ ?_ h3
    · rintro ρ2 a2 w2 ⟨r2, h4, h5⟩ _ _
      exact ⟨_, _, run_endRound none h4, _, rfl, h5⟩
    · rintro _ _ _ _ hF _ _
      exact hF.elim
    · rintro ρ2 a2 w2 ⟨r2, h4, h5⟩ _
      exact ⟨_, _, run_endRound (some .ret) h4, _, rfl, h5⟩
  · rintro _ _ _ _ hF _ _
    exact hF.elim
  · rintro _ _ _ hF _
    exact hF.elim

def rfWC (P : Program) (gv : Value) (np : Nat) (Bd : Nat → (Nat → Value) → World → KV → Prop) (w : World) (Kn Kr : Nat → World → Prop) : Prop :=
  ∀ (LR : Loop → Prop), (∀ r st pd, LR r → LR { r with state := st, pending := pd }) →
    (∀ (r : Loop) (W : World) (l : Nat) (args : Array Value) (K : KV), LR r → W.heap[l]? = some (.loop r) → args.size = np → Bd l (fun i => args.getD i undef) W K → ex P (Instr.yield l args) W K) →
    ∀ r, LR r → r.state = .ready → r.pending = none →
    ∃ f2 first captured, gv = .func (.func f2) first captured ∧ hasBody P f2 = true ∧ Cl P f2 (first ++ #[.func (.yield (w.heap.size + 1)) #[] #[]] ++ captured) ((w.alloc (.deferred (some []))).alloc (.loop r)) fun _ w3 =>
      ∃ r', w3.heap[w.heap.size + 1]? = some (.loop r') ∧ r'.state ≠ .busy ∧
        ((r'.pending = none ∧ Kn w.heap.size (w3.putObj (w.heap.size + 1) (.loop { r' with state := .exhausted }))) ∨ (r'.pending = some .ret ∧ Kr w.heap.size (w3.putObj (w.heap.size + 1) (.loop { r' with state := .exhausted }))))

def fnRFC (P : Program) (nt : Nat) (rs : List (Nat × Option TypeId)) (A C E : Code) (g : Operand) (ps : List Nat) (asx bd : Code) (args : Array Value) (w : World) (K : KV) : Prop :=
  let rl := bitsL (rs.map (·.1))
  let lE := lv rl E rl (fun _ => 0)
  let lC := lE ||| rl ||| bitO g ||| lvR asx bd
  let lA := lv rl C lC (fun _ => 0)
  cw P nt rl A lA (fun _ => 0) ⟨fun ρ w => cw P nt rl C lC (fun _ => 0) ⟨fun ρ w =>
    rfWC P (ρ.opd g) ps.length (fun l args W k => rdWC P nt ps asx bd ρ l args W k) w
      (fun D w => cw P nt rl E rl (fun _ => 0) ⟨fun ρ' w' => rdef D w' fun w'' => retC P rs [] ρ' w'' K, fun _ _ _ => False, fun _ _ => False⟩ ρ w)
      (fun D w => rdef D w fun w'' => retC P rs [] ρ w'' K),
    fun _ _ _ => False, fun _ _ => False⟩ ρ w, fun _ _ _ => False, fun _ _ => False⟩ (Ev.init args) w
def fnOkRFC (P : Program) (nt : Nat) (rs : List (Nat × Option TypeId)) (A C E : Code) (g : Operand) (ps : List Nat) (asx bd : Code) : Bool :=
  let rl := bitsL (rs.map (·.1))
  let lE := lv rl E rl (fun _ => 0)
  let lC := lE ||| rl ||| bitO g ||| lvR asx bd
  let lA := lv rl C lC (fun _ => 0)
  cwOk P nt rl A lA (fun _ => 0) && cwOk P nt rl C lC (fun _ => 0) && cwOk P nt rl E rl (fun _ => 0) &&
  ps.all (fun t => decide (t < nt)) && noDraw asx && noDraw bd && cwOk P nt 0 asx (lv 0 bd 0 (fun _ => 0)) (fun _ => 0) && cwOk P nt 0 bd 0 (fun _ => 0) && (match g with | .tmp _ => true | _ => false)

theorem calls_of_fnRFC {f : FuncId} {fn : Func} {args : Array Value} {nt i : Nat} {rs : List (Nat × Option TypeId)} {A C E : Code} {g : Operand} {ps : List Nat} {asx bd : Code} (hm : P.follows .mixedOrders = true)
    (hf : P.funcs[f]? = some fn) (hb : fn.body = some (.seq A (.seq (.seq C (.block i (.rangeFunc g ps.toArray asx bd))) (.seq E .ret)))) (hn : fn.ntmps = nt) (hr : fn.results = (rs.map rvOf).toArray) (hargs : args.size ≤ nt)
    (hok : fnOkRFC P nt rs A C E g ps asx bd = true) (h : fnRFC P nt rs A C E g ps asx bd args w K) : CallsR P f args w K := by
  unfold fnOkRFC at hok
  simp only [Bool.and_eq_true] at hok
  obtain ⟨⟨⟨⟨⟨⟨⟨⟨hA, hC⟩, hE⟩, hps⟩, hda⟩, hdb⟩, hoa⟩, hob⟩, hg⟩ := hok
  have hmem : ∀ r ∈ rs, (bitsL (rs.map (·.1))).testBit r.1 = true := fun r hr => bitsL_mem (List.mem_map.2 ⟨r, hr, rfl⟩)
  refine callsIn_wide (n := 0).1 (callsIn_of_wp_marks hf hb trivial ?_ rfl)
  unfold fnRFC at h
  refine wpIn_seq (cw_sound (ro := none) hm A _ _ _ _ _ w _ (.inl rfl) hA (⟨by simp [hn]; omega, rfl, fun t _ => ?_⟩ : AgrD [] nt _ _ (Ev.init args)) ?_ ?_ ?_ h)
  · simp only [Ev.init, Array.getD_eq_getD_getElem?, Array.getElem?_append]
    split
    · rfl
    · rename_i hge
      rw [Array.getElem?_eq_none (xs := args) (by omega)]
      cases hx : (Array.replicate (fn.ntmps - args.size) undef)[t - args.size]? with
      | none => rfl
      | some v =>
        simp only [Array.getElem?_replicate] at hx
        split at hx
        · cases hx; rfl
        · cases hx
  rotate_left
  · exact fun _ _ _ _ hF _ _ => hF.elim
  · exact fun _ _ _ hF _ => hF.elim
  intro ρ1 a1 w2 h2 ha2 _
  refine wpIn_seq (wpIn_seq (cw_sound (ro := none) hm C _ _ _ _ _ w2 _ (.inl rfl) hC ha2 ?_ ?_ ?_ h2))
  rotate_left
  · exact fun _ _ _ _ hF _ _ => hF.elim
  · exact fun _ _ _ hF _ => hF.elim
  intro ρ3 a3 w3 h3 ha3 _
  refine wpIn_block (wpIn_rangeFunc fun fn' _ => ?_)
  have hev : a3.eval g = ρ3.opd g := ha3.opd (l := [g]) (fun t ht => by
    simp only [bitsO, List.foldr_cons, List.foldr_nil, Nat.or_zero] at ht
    simp [ht]) g (by simp)
  obtain ⟨f2, first, captured, hgv, hbody, hcl⟩ := h3 (LoopFacts nt ps asx bd ρ3) (fun r st pd hr => hr.turn st pd)
    (fun r W l args K hr hW hs hB => yield_exC hm hW hr hs hps hda hdb hoa hob hB)
    { state := .ready, pending := none, fn := fn', tmps := a3.tmps, params := ps.toArray, assign := asx, body := bd, defers := w3.heap.size }
    ⟨rfl, rfl, rfl, ha3.1, fun t ht => ha3.2.2 t (by simp [ht])⟩ rfl rfl
  refine ⟨w3.heap.size + 1, [{ target := .collected w3.heap.size, args := #[] }], ((w3.alloc (.deferred (some []))).alloc (.loop { state := .ready, pending := none, fn := fn', tmps := a3.tmps, params := ps.toArray, assign := asx, body := bd, defers := w3.heap.size })), { target := .fn (.func f2) captured, args := first ++ #[.func (.yield (w3.heap.size + 1)) #[] #[]] }, ((w3.alloc (.deferred (some []))).alloc (.loop { state := .ready, pending := none, fn := fn', tmps := a3.tmps, params := ps.toArray, assign := asx, body := bd, defers := w3.heap.size })), f2, first ++ #[.func (.yield (w3.heap.size + 1)) #[] #[]] ++ captured, ((w3.alloc (.deferred (some []))).alloc (.loop { state := .ready, pending := none, fn := fn', tmps := a3.tmps, params := ps.toArray, assign := asx, body := bd, defers := w3.heap.size })), run_enterLoop_outer fn' a3.tmps ps.toArray asx bd, ?_, fun _ _ => trivial, ?_, (fun h => by cases h), callsIn_wide.2 (Calls.mono (Cl.ret hbody hcl) ?_)⟩
  · have he : a3.eval g = .func (.func f2) first captured := hev.trans hgv
    simp only [resolve, he, Deferred.ofValue, List.map_toArray, List.map_cons, List.map_nil]
    rfl
  · exact run_callFunc hbody
  · rintro ev w5 ⟨v, rfl, r', hr1, hr2, hr3⟩
    rcases hr3 with ⟨hr3, hr4⟩ | ⟨hr3, hr4⟩
    · rw [hr3] at hr4
      refine ⟨none, _, by rw [run_endLoop hr1 hr2, hr3], ?_⟩
      show Exit.inBlock _ _ .normal _ _
      refine wpIn_seq (cw_sound (ro := none) (ds := [{ target := .collected w3.heap.size, args := #[] }]) hm E _ _ _ _ _ _ _ (.inl rfl) hE ?_ ?_ ?_ ?_ hr4)
      · exact ⟨ha3.1, by rw [ha3.2.1]; rfl, fun t ht => ha3.2.2 t (by simp [ht])⟩
      · rintro ρ4 a4 w6 ⟨hD, hK⟩ ha4 _
        refine wpIn_ret ?_
        show LeavesInM _ _ _ _ _ _ a4.defers _ _
        rw [ha4.2.1]
        refine ⟨by simp, .inl ⟨_, _, rfl, run_takeDeferred hD, ?_⟩⟩
        obtain ⟨v, k3, k4⟩ := run_resultsC hr (⟨ha4.1, rfl, ha4.2.2⟩ : AgrD [] nt _ { a4 with defers := [] } ρ4) hmem hK
        exact ⟨_, k3, _, rfl, k4⟩
      · exact fun _ _ _ _ hF _ _ => hF.elim
      · exact fun _ _ _ hF _ => hF.elim
    · rw [hr3] at hr4
      refine ⟨some .ret, _, by rw [run_endLoop hr1 hr2, hr3], ?_⟩
      obtain ⟨hD, hK⟩ := hr4
      refine wpIn_ret ?_
      show LeavesInM _ _ _ _ _ _ (_ ++ a3.defers) _ _
      rw [ha3.2.1]
      refine ⟨by simp, .inl ⟨_, _, rfl, run_takeDeferred hD, ?_⟩⟩
      obtain ⟨v, k3, k4⟩ := run_resultsC hr (⟨ha3.1, rfl, ha3.2.2⟩ : AgrD [] nt _ { a3 with defers := [] } ρ3) (fun r hr => by simp [hmem r hr]) hK
      exact ⟨_, k3, _, rfl, k4⟩

def fnRFCb (P : Program) (nt : Nat) (rs : List (Nat × Option TypeId)) (b : Option Code) (args : Array Value) (w : World) (K : KV) : Prop :=
  match b with
  | some (.seq A (.seq (.seq C (.block _ (.rangeFunc g ps asx bd))) (.seq E .ret))) => fnRFC P nt rs A C E g ps.toList asx bd args w K
  | _ => False
def fnOkRFCb (P : Program) (nt : Nat) (rs : List (Nat × Option TypeId)) (b : Option Code) : Bool :=
  match b with
  | some (.seq A (.seq (.seq C (.block _ (.rangeFunc g ps asx bd))) (.seq E .ret))) => fnOkRFC P nt rs A C E g ps.toList asx bd
  | _ => false
theorem calls_of_fnRFCb {f : FuncId} {fn : Func} {args : Array Value} {nt : Nat} {rs : List (Nat × Option TypeId)} (hm : P.follows .mixedOrders = true)
    (hf : P.funcs[f]? = some fn) (hn : fn.ntmps = nt) (hr : fn.results = (rs.map rvOf).toArray) (hargs : args.size ≤ nt)
    (hok : fnOkRFCb P nt rs fn.body = true) {X : Prop} (hX : X = fnRFCb P nt rs fn.body args w K) (h : X) : CallsR P f args w K := by
  rw [hX] at h
  unfold fnRFCb at h
  unfold fnOkRFCb at hok
  split at h
  · rename_i A C j g ps asx bd E hb
    rw [hb] at hok
    exact calls_of_fnRFC (i := j) (ps := ps.toList) hm hf (by rw [hb, Array.toArray_toList]) hn hr hargs hok h
  · exact h.elim

variable {e : World} {R : List HP} {LR : Loop → Prop} {l : Nat}
def lpD (LR : Loop → Prop) (l : Nat) : HP := fun h => ∃ r, LR r ∧ r.state = .done ∧ r.pending = some .ret ∧ h l = some (.loop r)
theorem edr_s {K : World → Prop} (hS : Sat e w (lpC LR l .busy :: R)) (hk : ∀ w', Sat e w' (lpD LR l :: R) → K w') : edr l w K := by
  obtain ⟨hc, r, h1, h2, h3, h4⟩ := lp_open hS
  refine ⟨r, one_heap h4, hk _ ?_⟩
  have h5 : Sat e (w.putObj l (.loop { r with state := .done, pending := some .ret })) ((fun h => h l = some (.loop { r with state := .done, pending := some .ret })) :: R) := h4.setB
  exact h5.imp fun g hg => ⟨_, hc r .done (some .ret) h1, rfl, rfl, hg⟩
theorem rfC_s {gv : Value} {np : Nat} {Bd : Nat → (Nat → Value) → World → KV → Prop} {Kn Kr : Nat → World → Prop} {f2 : FuncId} {captured : Array Value} (hg : gv = .func (.func f2) #[] captured) (hb : hasBody P f2 = true) (hS : Sat e w R)
    (h : ∀ (l D : Nat) (LR : Loop → Prop) (w1 : World) (Kf : World → Prop),
      (∀ {e W : World} {R : List HP} {args : Array Value} {K : KV}, Sat e W (lpC LR l .ready :: R) → args.size = np → Bd l (fun i => args.getD i undef) W K → clV P (.func (.yield l) #[] #[]) args W K) →
      (∀ {W : World} {R : List HP}, Sat e W (lpC LR l .ready :: R) → (∀ W', Sat e W' R → Kn D W') → Kf W) →
      (∀ {W : World} {R : List HP}, Sat e W (lpD LR l :: R) → (∀ W', Sat e W' R → Kr D W') → Kf W) →
      Sat e w1 (lpC LR l .ready :: dfC D :: R) → Cl P f2 (#[.func (.yield l) #[] #[]] ++ captured) w1 fun _ W => Kf W) : rfWC P gv np Bd w Kn Kr := by
  intro LR hc hy r hr hst hpd
  refine ⟨f2, #[], captured, hg, hb, ?_⟩
  have h1 := (hS.alloc (.deferred (some []))).alloc (.loop r)
  rw [World.size_alloc] at h1
  refine h (w.heap.size + 1) w.heap.size LR _ _ ?_ ?_ ?_ (h1.imp fun g hg => ⟨hc, r, hr, hst, hpd, hg⟩)
  · intro e W R args K hW hs hB
    obtain ⟨_, r, k1, k2, k3, k4⟩ := lp_open hW
    refine ⟨_, _, _, rfl, ?_⟩
    show ex P (Instr.yield _ (#[] ++ args)) W K
    rw [Array.empty_append]
    exact hy r W _ args K k1 (one_heap k4) hs hB
  · intro W R hW hK
    obtain ⟨_, r, k1, k2, k3, k4⟩ := lp_open hW
    refine ⟨r, one_heap k4, by rw [k2]; exact (by decide), .inl ⟨k3, hK _ ?_⟩⟩
    have h5 : Sat e (W.putObj (w.heap.size + 1) (.loop { r with state := .exhausted })) ((fun h => h (w.heap.size + 1) = some (.loop { r with state := .exhausted })) :: R) := k4.setB
    exact h5.drop
  · intro W R hW hK
    obtain ⟨h1, h2, d, s1, s2, ⟨r, k1, k2, k3, k4⟩, h7⟩ := hW.mem
    have k4 : Sat e W ((fun h => h (w.heap.size + 1) = some (.loop r)) :: R) := hW.of_mem fun _ => ⟨h1, h2, d, s1, s2, k4, h7⟩
    refine ⟨r, one_heap k4, by rw [k2]; exact (by decide), .inr ⟨k3, hK _ ?_⟩⟩
    have h5 : Sat e (W.putObj (w.heap.size + 1) (.loop { r with state := .exhausted })) ((fun h => h (w.heap.size + 1) = some (.loop { r with state := .exhausted })) :: R) := k4.setB
    exact h5.drop
end
end Go.E
end
section
namespace Go.Proofs.YtbopajpmadlmhaaGreat
open Go Go.E
set_option linter.unusedVariables false
set_option maxRecDepth 100000
noncomputable abbrev prog : Program := Go.Proofs.Tryz.prog
theorem mixed : prog.follows .mixedOrders = true := by kernel_rfl
noncomputable abbrev fn3 : Func := Go.Proofs.Tryz.f3
noncomputable abbrev fn4 : Func := Go.Proofs.Tryz.f4
noncomputable abbrev fn5 : Func := Go.Proofs.Tryz.f5
noncomputable abbrev fn6 : Func := Go.Proofs.Tryz.f6
noncomputable abbrev fn7 : Func := Go.Proofs.Tryz.f7
noncomputable abbrev fn8 : Func := Go.Proofs.Tryz.f8
noncomputable abbrev fn9 : Func := Go.Proofs.Tryz.f9
theorem fnAt9 : prog.funcs[9]? = some fn9 := Go.Proofs.Tryz.func9
noncomputable abbrev fn10 : Func := Go.Proofs.Tryz.f10
theorem fnAt10 : prog.funcs[10]? = some fn10 := Go.Proofs.Tryz.func10
noncomputable abbrev fn11 : Func := Go.Proofs.Tryz.f11
theorem fnAt11 : prog.funcs[11]? = some fn11 := Go.Proofs.Tryz.func11
noncomputable abbrev fn12 : Func := Go.Proofs.Tryz.f12
theorem fnAt12 : prog.funcs[12]? = some fn12 := Go.Proofs.Tryz.func12
noncomputable abbrev fn13 : Func := Go.Proofs.Tryz.f13
theorem fnAt13 : prog.funcs[13]? = some fn13 := Go.Proofs.Tryz.func13
noncomputable abbrev fn14 : Func := Go.Proofs.Tryz.f14
theorem fnAt14 : prog.funcs[14]? = some fn14 := Go.Proofs.Tryz.func14
noncomputable abbrev fn15 : Func := Go.Proofs.Tryz.f15
theorem fnAt15 : prog.funcs[15]? = some fn15 := Go.Proofs.Tryz.func15
noncomputable abbrev fn16 : Func := Go.Proofs.Tryz.f16
theorem fnAt16 : prog.funcs[16]? = some fn16 := Go.Proofs.Tryz.func16
noncomputable abbrev fn17 : Func := Go.Proofs.Tryz.f17
theorem fnAt17 : prog.funcs[17]? = some fn17 := Go.Proofs.Tryz.func17
noncomputable abbrev fn18 : Func := Go.Proofs.Tryz.f18
theorem fnAt18 : prog.funcs[18]? = some fn18 := Go.Proofs.Tryz.func18
noncomputable abbrev fn19 : Func := Go.Proofs.Tryz.f19
theorem fnAt19 : prog.funcs[19]? = some fn19 := Go.Proofs.Tryz.func19
noncomputable abbrev fn20 : Func := Go.Proofs.Tryz.f20
theorem fnAt20 : prog.funcs[20]? = some fn20 := Go.Proofs.Tryz.func20
noncomputable abbrev fn21 : Func := Go.Proofs.Tryz.f21
theorem fnAt21 : prog.funcs[21]? = some fn21 := Go.Proofs.Tryz.func21
noncomputable abbrev fn22 : Func := Go.Proofs.Tryz.f22
theorem fnAt22 : prog.funcs[22]? = some fn22 := Go.Proofs.Tryz.func22
noncomputable abbrev fn23 : Func := Go.Proofs.Tryz.f23
theorem fnAt23 : prog.funcs[23]? = some fn23 := Go.Proofs.Tryz.func23
noncomputable abbrev fn24 : Func := Go.Proofs.Tryz.f24
noncomputable abbrev fn25 : Func := Go.Proofs.Tryz.f25
theorem fnAt25 : prog.funcs[25]? = some fn25 := Go.Proofs.Tryz.func25
noncomputable abbrev fn26 : Func := Go.Proofs.Tryz.f26
theorem fnAt26 : prog.funcs[26]? = some fn26 := Go.Proofs.Tryz.func26
noncomputable abbrev fn27 : Func := Go.Proofs.Tryz.f27
theorem fnAt27 : prog.funcs[27]? = some fn27 := Go.Proofs.Tryz.func27
noncomputable abbrev fn28 : Func := Go.Proofs.Tryz.f28
theorem fnAt28 : prog.funcs[28]? = some fn28 := Go.Proofs.Tryz.func28
noncomputable abbrev fn29 : Func := Go.Proofs.Tryz.f29
theorem fnAt29 : prog.funcs[29]? = some fn29 := Go.Proofs.Tryz.func29
noncomputable abbrev fn30 : Func := Go.Proofs.Tryz.f30
theorem fnAt30 : prog.funcs[30]? = some fn30 := Go.Proofs.Tryz.func30
noncomputable abbrev fn31 : Func := Go.Proofs.Tryz.f31
theorem fnAt31 : prog.funcs[31]? = some fn31 := Go.Proofs.Tryz.func31
noncomputable abbrev fn32 : Func := Go.Proofs.Tryz.f32
theorem fnAt32 : prog.funcs[32]? = some fn32 := Go.Proofs.Tryz.func32
noncomputable abbrev fn33 : Func := Go.Proofs.Tryz.f33
theorem fnAt33 : prog.funcs[33]? = some fn33 := Go.Proofs.Tryz.func33
noncomputable abbrev fn34 : Func := Go.Proofs.Tryz.f34
theorem fnAt34 : prog.funcs[34]? = some fn34 := Go.Proofs.Tryz.func34
noncomputable abbrev fn35 : Func := Go.Proofs.Tryz.f35
theorem fnAt35 : prog.funcs[35]? = some fn35 := Go.Proofs.Tryz.func35
noncomputable abbrev fn36 : Func := Go.Proofs.Tryz.f36
theorem fnAt36 : prog.funcs[36]? = some fn36 := Go.Proofs.Tryz.func36
noncomputable abbrev fn37 : Func := Go.Proofs.Tryz.f37
theorem fnAt37 : prog.funcs[37]? = some fn37 := Go.Proofs.Tryz.func37
noncomputable abbrev fn38 : Func := Go.Proofs.Tryz.f38
theorem fnAt38 : prog.funcs[38]? = some fn38 := Go.Proofs.Tryz.func38
noncomputable abbrev fn39 : Func := Go.Proofs.Tryz.f39
theorem fnAt39 : prog.funcs[39]? = some fn39 := Go.Proofs.Tryz.func39
noncomputable abbrev fn40 : Func := Go.Proofs.Tryz.f40
theorem fnAt40 : prog.funcs[40]? = some fn40 := Go.Proofs.Tryz.func40
noncomputable abbrev fn41 : Func := Go.Proofs.Tryz.f41
theorem fnAt41 : prog.funcs[41]? = some fn41 := Go.Proofs.Tryz.func41
noncomputable abbrev fn42 : Func := Go.Proofs.Tryz.f42
theorem fnAt42 : prog.funcs[42]? = some fn42 := Go.Proofs.Tryz.func42
noncomputable abbrev fn43 : Func := Go.Proofs.Tryz.f43
theorem fnAt43 : prog.funcs[43]? = some fn43 := Go.Proofs.Tryz.func43
noncomputable abbrev fn44 : Func := Go.Proofs.Tryz.f44
theorem fnAt44 : prog.funcs[44]? = some fn44 := Go.Proofs.Tryz.func44
noncomputable abbrev fn45 : Func := Go.Proofs.Tryz.f45
theorem fnAt45 : prog.funcs[45]? = some fn45 := Go.Proofs.Tryz.func45
noncomputable abbrev fn46 : Func := Go.Proofs.Tryz.f46
theorem fnAt46 : prog.funcs[46]? = some fn46 := Go.Proofs.Tryz.func46
noncomputable abbrev fn47 : Func := Go.Proofs.Tryz.f47
theorem fnAt47 : prog.funcs[47]? = some fn47 := Go.Proofs.Tryz.func47
noncomputable abbrev fn48 : Func := Go.Proofs.Tryz.f48
theorem fnAt48 : prog.funcs[48]? = some fn48 := Go.Proofs.Tryz.func48
noncomputable abbrev fn49 : Func := Go.Proofs.Tryz.f49
theorem fnAt49 : prog.funcs[49]? = some fn49 := Go.Proofs.Tryz.func49
noncomputable abbrev fn50 : Func := Go.Proofs.Tryz.f50
theorem fnAt50 : prog.funcs[50]? = some fn50 := Go.Proofs.Tryz.func50
noncomputable abbrev fn51 : Func := Go.Proofs.Tryz.f51
theorem fnAt51 : prog.funcs[51]? = some fn51 := Go.Proofs.Tryz.func51
noncomputable abbrev fn52 : Func := Go.Proofs.Tryz.f52
theorem fnAt52 : prog.funcs[52]? = some fn52 := Go.Proofs.Tryz.func52
noncomputable abbrev fn53 : Func := Go.Proofs.Tryz.f53
theorem fnAt53 : prog.funcs[53]? = some fn53 := Go.Proofs.Tryz.func53
noncomputable abbrev fn54 : Func := Go.Proofs.Tryz.f54
theorem fnAt54 : prog.funcs[54]? = some fn54 := Go.Proofs.Tryz.func54
noncomputable abbrev fn55 : Func := Go.Proofs.Tryz.f55
theorem fnAt55 : prog.funcs[55]? = some fn55 := Go.Proofs.Tryz.func55
noncomputable abbrev fn56 : Func := Go.Proofs.Tryz.f56
theorem fnAt56 : prog.funcs[56]? = some fn56 := Go.Proofs.Tryz.func56
noncomputable abbrev fn57 : Func := Go.Proofs.Tryz.f57
theorem fnAt57 : prog.funcs[57]? = some fn57 := Go.Proofs.Tryz.func57
noncomputable abbrev fn58 : Func := Go.Proofs.Tryz.f58
theorem fnAt58 : prog.funcs[58]? = some fn58 := Go.Proofs.Tryz.func58
noncomputable abbrev fn59 : Func := Go.Proofs.Tryz.f59
theorem fnAt59 : prog.funcs[59]? = some fn59 := Go.Proofs.Tryz.func59
noncomputable abbrev fn60 : Func := Go.Proofs.Tryz.f60
theorem fnAt60 : prog.funcs[60]? = some fn60 := Go.Proofs.Tryz.func60
noncomputable abbrev fn61 : Func := Go.Proofs.Tryz.f61
theorem fnAt61 : prog.funcs[61]? = some fn61 := Go.Proofs.Tryz.func61
noncomputable abbrev fn62 : Func := Go.Proofs.Tryz.f62
theorem fnAt62 : prog.funcs[62]? = some fn62 := Go.Proofs.Tryz.func62
noncomputable abbrev fn63 : Func := Go.Proofs.Tryz.f63
theorem fnAt63 : prog.funcs[63]? = some fn63 := Go.Proofs.Tryz.func63
noncomputable abbrev fn64 : Func := Go.Proofs.Tryz.f64
theorem fnAt64 : prog.funcs[64]? = some fn64 := Go.Proofs.Tryz.func64
noncomputable abbrev fn65 : Func := Go.Proofs.Tryz.f65
theorem fnAt65 : prog.funcs[65]? = some fn65 := Go.Proofs.Tryz.func65
noncomputable abbrev fn66 : Func := Go.Proofs.Tryz.f66
theorem fnAt66 : prog.funcs[66]? = some fn66 := Go.Proofs.Tryz.func66
noncomputable abbrev fn67 : Func := Go.Proofs.Tryz.f67
theorem fnAt67 : prog.funcs[67]? = some fn67 := Go.Proofs.Tryz.func67
noncomputable abbrev fn68 : Func := Go.Proofs.Tryz.f68
theorem fnAt68 : prog.funcs[68]? = some fn68 := Go.Proofs.Tryz.func68
noncomputable abbrev fn69 : Func := Go.Proofs.Tryz.f69
theorem fnAt69 : prog.funcs[69]? = some fn69 := Go.Proofs.Tryz.func69
noncomputable abbrev fn70 : Func := Go.Proofs.Tryz.f70
theorem fnAt70 : prog.funcs[70]? = some fn70 := Go.Proofs.Tryz.func70
noncomputable abbrev fn71 : Func := Go.Proofs.Tryz.f71
theorem fnAt71 : prog.funcs[71]? = some fn71 := Go.Proofs.Tryz.func71
noncomputable abbrev fn72 : Func := Go.Proofs.Tryz.f72
theorem fnAt72 : prog.funcs[72]? = some fn72 := Go.Proofs.Tryz.func72
noncomputable abbrev fn73 : Func := Go.Proofs.Tryz.f73
theorem fnAt73 : prog.funcs[73]? = some fn73 := Go.Proofs.Tryz.func73
noncomputable abbrev fn74 : Func := Go.Proofs.Tryz.f74
theorem fnAt74 : prog.funcs[74]? = some fn74 := Go.Proofs.Tryz.func74
noncomputable abbrev fn75 : Func := Go.Proofs.Tryz.f75
theorem fnAt75 : prog.funcs[75]? = some fn75 := Go.Proofs.Tryz.func75
noncomputable abbrev fn76 : Func := Go.Proofs.Tryz.f76
theorem fnAt76 : prog.funcs[76]? = some fn76 := Go.Proofs.Tryz.func76
noncomputable abbrev fn77 : Func := Go.Proofs.Tryz.f77
theorem fnAt77 : prog.funcs[77]? = some fn77 := Go.Proofs.Tryz.func77
noncomputable abbrev fn78 : Func := Go.Proofs.Tryz.f78
theorem fnAt78 : prog.funcs[78]? = some fn78 := Go.Proofs.Tryz.func78
noncomputable abbrev fn79 : Func := Go.Proofs.Tryz.f79
theorem fnAt79 : prog.funcs[79]? = some fn79 := Go.Proofs.Tryz.func79
noncomputable abbrev fn80 : Func := Go.Proofs.Tryz.f80
theorem fnAt80 : prog.funcs[80]? = some fn80 := Go.Proofs.Tryz.func80
noncomputable abbrev fn81 : Func := Go.Proofs.Tryz.f81
theorem fnAt81 : prog.funcs[81]? = some fn81 := Go.Proofs.Tryz.func81
noncomputable abbrev fn82 : Func := Go.Proofs.Tryz.f82
theorem fnAt82 : prog.funcs[82]? = some fn82 := Go.Proofs.Tryz.func82
noncomputable abbrev fn83 : Func := Go.Proofs.Tryz.f83
theorem fnAt83 : prog.funcs[83]? = some fn83 := Go.Proofs.Tryz.func83
noncomputable abbrev fn84 : Func := Go.Proofs.Tryz.f84
theorem fnAt84 : prog.funcs[84]? = some fn84 := Go.Proofs.Tryz.func84
noncomputable abbrev fn85 : Func := Go.Proofs.Tryz.f85
theorem fnAt85 : prog.funcs[85]? = some fn85 := Go.Proofs.Tryz.func85
noncomputable abbrev fn86 : Func := Go.Proofs.Tryz.f86
theorem fnAt86 : prog.funcs[86]? = some fn86 := Go.Proofs.Tryz.func86
noncomputable abbrev fn87 : Func := Go.Proofs.Tryz.f87
theorem fnAt87 : prog.funcs[87]? = some fn87 := Go.Proofs.Tryz.func87
noncomputable abbrev fn88 : Func := Go.Proofs.Tryz.f88
theorem fnAt88 : prog.funcs[88]? = some fn88 := Go.Proofs.Tryz.func88
noncomputable abbrev fn89 : Func := Go.Proofs.Tryz.f89
theorem fnAt89 : prog.funcs[89]? = some fn89 := Go.Proofs.Tryz.func89
noncomputable abbrev fn90 : Func := Go.Proofs.Tryz.f90
theorem fnAt90 : prog.funcs[90]? = some fn90 := Go.Proofs.Tryz.func90
noncomputable abbrev fn91 : Func := Go.Proofs.Tryz.f91
theorem fnAt91 : prog.funcs[91]? = some fn91 := Go.Proofs.Tryz.func91
noncomputable abbrev fn92 : Func := Go.Proofs.Tryz.f92
theorem fnAt92 : prog.funcs[92]? = some fn92 := Go.Proofs.Tryz.func92
noncomputable abbrev fn93 : Func := Go.Proofs.Tryz.f93
theorem fnAt93 : prog.funcs[93]? = some fn93 := Go.Proofs.Tryz.func93
noncomputable abbrev fn94 : Func := Go.Proofs.Tryz.f94
theorem fnAt94 : prog.funcs[94]? = some fn94 := Go.Proofs.Tryz.func94
noncomputable abbrev fn95 : Func := Go.Proofs.Tryz.f95
theorem fnAt95 : prog.funcs[95]? = some fn95 := Go.Proofs.Tryz.func95
noncomputable abbrev fn96 : Func := Go.Proofs.Tryz.f96
theorem fnAt96 : prog.funcs[96]? = some fn96 := Go.Proofs.Tryz.func96
noncomputable abbrev fn97 : Func := Go.Proofs.Tryz.f97
theorem fnAt97 : prog.funcs[97]? = some fn97 := Go.Proofs.Tryz.func97
noncomputable abbrev fn98 : Func := Go.Proofs.Tryz.f98
theorem fnAt98 : prog.funcs[98]? = some fn98 := Go.Proofs.Tryz.func98
noncomputable abbrev fn99 : Func := Go.Proofs.Tryz.f99
theorem fnAt99 : prog.funcs[99]? = some fn99 := Go.Proofs.Tryz.func99
noncomputable abbrev fn100 : Func := Go.Proofs.Tryz.f100
theorem fnAt100 : prog.funcs[100]? = some fn100 := Go.Proofs.Tryz.func100
noncomputable abbrev fn101 : Func := Go.Proofs.Tryz.f101
theorem fnAt101 : prog.funcs[101]? = some fn101 := Go.Proofs.Tryz.func101
noncomputable abbrev fn102 : Func := Go.Proofs.Tryz.f102
theorem fnAt102 : prog.funcs[102]? = some fn102 := Go.Proofs.Tryz.func102
noncomputable abbrev fn103 : Func := Go.Proofs.Tryz.f103
theorem fnAt103 : prog.funcs[103]? = some fn103 := Go.Proofs.Tryz.func103
noncomputable abbrev fn104 : Func := Go.Proofs.Tryz.f104
theorem fnAt104 : prog.funcs[104]? = some fn104 := Go.Proofs.Tryz.func104
noncomputable abbrev fn105 : Func := Go.Proofs.Tryz.f105
theorem fnAt105 : prog.funcs[105]? = some fn105 := Go.Proofs.Tryz.func105
noncomputable abbrev fn106 : Func := Go.Proofs.Tryz.f106
theorem fnAt106 : prog.funcs[106]? = some fn106 := Go.Proofs.Tryz.func106
noncomputable abbrev fn107 : Func := Go.Proofs.Tryz.f107
theorem fnAt107 : prog.funcs[107]? = some fn107 := Go.Proofs.Tryz.func107
noncomputable abbrev fn108 : Func := Go.Proofs.Tryz.f108
theorem fnAt108 : prog.funcs[108]? = some fn108 := Go.Proofs.Tryz.func108
noncomputable abbrev fn109 : Func := Go.Proofs.Tryz.f109
theorem fnAt109 : prog.funcs[109]? = some fn109 := Go.Proofs.Tryz.func109
noncomputable abbrev fn110 : Func := Go.Proofs.Tryz.f110
theorem fnAt110 : prog.funcs[110]? = some fn110 := Go.Proofs.Tryz.func110
noncomputable abbrev fn111 : Func := Go.Proofs.Tryz.f111
theorem fnAt111 : prog.funcs[111]? = some fn111 := Go.Proofs.Tryz.func111
noncomputable abbrev fn112 : Func := Go.Proofs.Tryz.f112
theorem fnAt112 : prog.funcs[112]? = some fn112 := Go.Proofs.Tryz.func112
noncomputable abbrev fn113 : Func := Go.Proofs.Tryz.f113
theorem fnAt113 : prog.funcs[113]? = some fn113 := Go.Proofs.Tryz.func113
noncomputable abbrev fn114 : Func := Go.Proofs.Tryz.f114
theorem fnAt114 : prog.funcs[114]? = some fn114 := Go.Proofs.Tryz.func114
noncomputable abbrev fn116 : Func := Go.Proofs.Tryz.f116
theorem fnAt116 : prog.funcs[116]? = some fn116 := Go.Proofs.Tryz.func116
noncomputable abbrev fn117 : Func := Go.Proofs.Tryz.f117
theorem fnAt117 : prog.funcs[117]? = some fn117 := Go.Proofs.Tryz.func117
noncomputable abbrev fn118 : Func := Go.Proofs.Tryz.f118
theorem fnAt118 : prog.funcs[118]? = some fn118 := Go.Proofs.Tryz.func118
noncomputable abbrev fn119 : Func := Go.Proofs.Tryz.f119
theorem fnAt119 : prog.funcs[119]? = some fn119 := Go.Proofs.Tryz.func119
noncomputable abbrev fn120 : Func := Go.Proofs.Tryz.f120
theorem fnAt120 : prog.funcs[120]? = some fn120 := Go.Proofs.Tryz.func120
noncomputable abbrev fn121 : Func := Go.Proofs.Tryz.f121
theorem fnAt121 : prog.funcs[121]? = some fn121 := Go.Proofs.Tryz.func121
noncomputable abbrev fn122 : Func := Go.Proofs.Tryz.f122
theorem fnAt122 : prog.funcs[122]? = some fn122 := Go.Proofs.Tryz.func122
noncomputable abbrev fn123 : Func := Go.Proofs.Tryz.f123
theorem fnAt123 : prog.funcs[123]? = some fn123 := Go.Proofs.Tryz.func123
noncomputable abbrev fn124 : Func := Go.Proofs.Tryz.f124
theorem fnAt124 : prog.funcs[124]? = some fn124 := Go.Proofs.Tryz.func124
noncomputable abbrev fn125 : Func := Go.Proofs.Tryz.f125
theorem fnAt125 : prog.funcs[125]? = some fn125 := Go.Proofs.Tryz.func125
noncomputable abbrev fn126 : Func := Go.Proofs.Tryz.f126
theorem fnAt126 : prog.funcs[126]? = some fn126 := Go.Proofs.Tryz.func126
noncomputable abbrev fn127 : Func := Go.Proofs.Tryz.f127
theorem fnAt127 : prog.funcs[127]? = some fn127 := Go.Proofs.Tryz.func127
noncomputable abbrev fn128 : Func := Go.Proofs.Tryz.f128
theorem fnAt128 : prog.funcs[128]? = some fn128 := Go.Proofs.Tryz.func128
noncomputable abbrev fn129 : Func := Go.Proofs.Tryz.f129
theorem fnAt129 : prog.funcs[129]? = some fn129 := Go.Proofs.Tryz.func129
noncomputable abbrev fn130 : Func := Go.Proofs.Tryz.f130
theorem fnAt130 : prog.funcs[130]? = some fn130 := Go.Proofs.Tryz.func130
noncomputable abbrev fn131 : Func := Go.Proofs.Tryz.f131
theorem fnAt131 : prog.funcs[131]? = some fn131 := Go.Proofs.Tryz.func131
noncomputable abbrev fn132 : Func := Go.Proofs.Tryz.f132
theorem fnAt132 : prog.funcs[132]? = some fn132 := Go.Proofs.Tryz.func132
noncomputable abbrev fn133 : Func := Go.Proofs.Tryz.f133
theorem fnAt133 : prog.funcs[133]? = some fn133 := Go.Proofs.Tryz.func133
noncomputable abbrev fn134 : Func := Go.Proofs.Tryz.f134
theorem fnAt134 : prog.funcs[134]? = some fn134 := Go.Proofs.Tryz.func134
noncomputable abbrev fn135 : Func := Go.Proofs.Tryz.f135
theorem fnAt135 : prog.funcs[135]? = some fn135 := Go.Proofs.Tryz.func135
noncomputable abbrev fn136 : Func := Go.Proofs.Tryz.f136
theorem fnAt136 : prog.funcs[136]? = some fn136 := Go.Proofs.Tryz.func136
noncomputable abbrev fn137 : Func := Go.Proofs.Tryz.f137
theorem fnAt137 : prog.funcs[137]? = some fn137 := Go.Proofs.Tryz.func137
noncomputable abbrev fn138 : Func := Go.Proofs.Tryz.f138
theorem fnAt138 : prog.funcs[138]? = some fn138 := Go.Proofs.Tryz.func138
noncomputable abbrev fn139 : Func := Go.Proofs.Tryz.f139
theorem fnAt139 : prog.funcs[139]? = some fn139 := Go.Proofs.Tryz.func139
noncomputable abbrev fn140 : Func := Go.Proofs.Tryz.f140
theorem fnAt140 : prog.funcs[140]? = some fn140 := Go.Proofs.Tryz.func140
noncomputable abbrev fn141 : Func := Go.Proofs.Tryz.f141
theorem fnAt141 : prog.funcs[141]? = some fn141 := Go.Proofs.Tryz.func141
noncomputable abbrev fn142 : Func := Go.Proofs.Tryz.f142
theorem fnAt142 : prog.funcs[142]? = some fn142 := Go.Proofs.Tryz.func142
noncomputable abbrev fn143 : Func := Go.Proofs.Tryz.f143
theorem fnAt143 : prog.funcs[143]? = some fn143 := Go.Proofs.Tryz.func143
noncomputable abbrev fn144 : Func := Go.Proofs.Tryz.f144
theorem fnAt144 : prog.funcs[144]? = some fn144 := Go.Proofs.Tryz.func144
noncomputable abbrev fn145 : Func := Go.Proofs.Tryz.f145
theorem fnAt145 : prog.funcs[145]? = some fn145 := Go.Proofs.Tryz.func145
noncomputable abbrev fn146 : Func := Go.Proofs.Tryz.f146
theorem fnAt146 : prog.funcs[146]? = some fn146 := Go.Proofs.Tryz.func146
noncomputable abbrev fn147 : Func := Go.Proofs.Tryz.f147
theorem fnAt147 : prog.funcs[147]? = some fn147 := Go.Proofs.Tryz.func147
noncomputable abbrev fn148 : Func := Go.Proofs.Tryz.f148
theorem fnAt148 : prog.funcs[148]? = some fn148 := Go.Proofs.Tryz.func148
noncomputable abbrev fn149 : Func := Go.Proofs.Tryz.f149
theorem fnAt149 : prog.funcs[149]? = some fn149 := Go.Proofs.Tryz.func149
noncomputable abbrev fn150 : Func := Go.Proofs.Tryz.f150
noncomputable abbrev fn151 : Func := Go.Proofs.Tryz.f151
theorem fnAt151 : prog.funcs[151]? = some fn151 := Go.Proofs.Tryz.func151
noncomputable abbrev fn152 : Func := Go.Proofs.Tryz.f152
theorem fnAt152 : prog.funcs[152]? = some fn152 := Go.Proofs.Tryz.func152
noncomputable abbrev fn153 : Func := Go.Proofs.Tryz.f153
theorem fnAt153 : prog.funcs[153]? = some fn153 := Go.Proofs.Tryz.func153
noncomputable abbrev fn154 : Func := Go.Proofs.Tryz.f154
theorem fnAt154 : prog.funcs[154]? = some fn154 := Go.Proofs.Tryz.func154
noncomputable abbrev fn155 : Func := Go.Proofs.Tryz.f155
theorem fnAt155 : prog.funcs[155]? = some fn155 := Go.Proofs.Tryz.func155
noncomputable abbrev fn156 : Func := Go.Proofs.Tryz.f156
theorem fnAt156 : prog.funcs[156]? = some fn156 := Go.Proofs.Tryz.func156
noncomputable abbrev fn157 : Func := Go.Proofs.Tryz.f157
theorem fnAt157 : prog.funcs[157]? = some fn157 := Go.Proofs.Tryz.func157
noncomputable abbrev fn158 : Func := Go.Proofs.Tryz.f158
theorem fnAt158 : prog.funcs[158]? = some fn158 := Go.Proofs.Tryz.func158
noncomputable abbrev fn161 : Func := Go.Proofs.Tryz.f161
theorem fnAt161 : prog.funcs[161]? = some fn161 := Go.Proofs.Tryz.func161
noncomputable abbrev fn162 : Func := Go.Proofs.Tryz.f162
theorem fnAt162 : prog.funcs[162]? = some fn162 := Go.Proofs.Tryz.func162
noncomputable abbrev fn163 : Func := Go.Proofs.Tryz.f163
theorem fnAt163 : prog.funcs[163]? = some fn163 := Go.Proofs.Tryz.func163
noncomputable abbrev fn164 : Func := Go.Proofs.Tryz.f164
theorem fnAt164 : prog.funcs[164]? = some fn164 := Go.Proofs.Tryz.func164
noncomputable abbrev fn165 : Func := Go.Proofs.Tryz.f165
theorem fnAt165 : prog.funcs[165]? = some fn165 := Go.Proofs.Tryz.func165
noncomputable abbrev fn166 : Func := Go.Proofs.Tryz.f166
theorem fnAt166 : prog.funcs[166]? = some fn166 := Go.Proofs.Tryz.func166
noncomputable abbrev fn167 : Func := Go.Proofs.Tryz.f167
theorem fnAt167 : prog.funcs[167]? = some fn167 := Go.Proofs.Tryz.func167
noncomputable abbrev fn168 : Func := Go.Proofs.Tryz.f168
theorem fnAt168 : prog.funcs[168]? = some fn168 := Go.Proofs.Tryz.func168
noncomputable abbrev fn169 : Func := Go.Proofs.Tryz.f169
theorem fnAt169 : prog.funcs[169]? = some fn169 := Go.Proofs.Tryz.func169
noncomputable abbrev fn170 : Func := Go.Proofs.Tryz.f170
theorem fnAt170 : prog.funcs[170]? = some fn170 := Go.Proofs.Tryz.func170
noncomputable abbrev fn171 : Func := Go.Proofs.Tryz.f171
theorem fnAt171 : prog.funcs[171]? = some fn171 := Go.Proofs.Tryz.func171
noncomputable abbrev fn172 : Func := Go.Proofs.Tryz.f172
theorem fnAt172 : prog.funcs[172]? = some fn172 := Go.Proofs.Tryz.func172
noncomputable abbrev fn173 : Func := Go.Proofs.Tryz.f173
theorem fnAt173 : prog.funcs[173]? = some fn173 := Go.Proofs.Tryz.func173
noncomputable abbrev fn174 : Func := Go.Proofs.Tryz.f174
theorem fnAt174 : prog.funcs[174]? = some fn174 := Go.Proofs.Tryz.func174
noncomputable abbrev fn175 : Func := Go.Proofs.Tryz.f175
theorem fnAt175 : prog.funcs[175]? = some fn175 := Go.Proofs.Tryz.func175
noncomputable abbrev fn176 : Func := Go.Proofs.Tryz.f176
theorem fnAt176 : prog.funcs[176]? = some fn176 := Go.Proofs.Tryz.func176
noncomputable abbrev fn177 : Func := Go.Proofs.Tryz.f177
theorem fnAt177 : prog.funcs[177]? = some fn177 := Go.Proofs.Tryz.func177
noncomputable abbrev fn188 : Func := Go.Proofs.Tryz.f188
theorem fnAt188 : prog.funcs[188]? = some fn188 := Go.Proofs.Tryz.func188
noncomputable abbrev fn189 : Func := Go.Proofs.Tryz.f189
theorem fnAt189 : prog.funcs[189]? = some fn189 := Go.Proofs.Tryz.func189
noncomputable abbrev fn190 : Func := Go.Proofs.Tryz.f190
theorem fnAt190 : prog.funcs[190]? = some fn190 := Go.Proofs.Tryz.func190
noncomputable abbrev fn191 : Func := Go.Proofs.Tryz.f191
theorem fnAt191 : prog.funcs[191]? = some fn191 := Go.Proofs.Tryz.func191
noncomputable abbrev fn192 : Func := Go.Proofs.Tryz.f192
theorem fnAt192 : prog.funcs[192]? = some fn192 := Go.Proofs.Tryz.func192
noncomputable abbrev fn198 : Func := Go.Proofs.Tryz.f198
theorem fnAt198 : prog.funcs[198]? = some fn198 := Go.Proofs.Tryz.func198
noncomputable abbrev fn199 : Func := Go.Proofs.Tryz.f199
theorem fnAt199 : prog.funcs[199]? = some fn199 := Go.Proofs.Tryz.func199
noncomputable abbrev fn201 : Func := Go.Proofs.Tryz.f201
theorem fnAt201 : prog.funcs[201]? = some fn201 := Go.Proofs.Tryz.func201
noncomputable abbrev fn224 : Func := Go.Proofs.Tryz.f224
theorem fnAt224 : prog.funcs[224]? = some fn224 := Go.Proofs.Tryz.func224
noncomputable abbrev fn225 : Func := Go.Proofs.Tryz.f225
theorem fnAt225 : prog.funcs[225]? = some fn225 := Go.Proofs.Tryz.func225
noncomputable abbrev fn226 : Func := Go.Proofs.Tryz.f226
theorem fnAt226 : prog.funcs[226]? = some fn226 := Go.Proofs.Tryz.func226
noncomputable abbrev fn227 : Func := Go.Proofs.Tryz.f227
theorem fnAt227 : prog.funcs[227]? = some fn227 := Go.Proofs.Tryz.func227
noncomputable abbrev fn228 : Func := Go.Proofs.Tryz.f228
theorem fnAt228 : prog.funcs[228]? = some fn228 := Go.Proofs.Tryz.func228
noncomputable abbrev fn230 : Func := Go.Proofs.Tryz.f230
theorem fnAt230 : prog.funcs[230]? = some fn230 := Go.Proofs.Tryz.func230
end Go.Proofs.YtbopajpmadlmhaaGreat
end
section
namespace Go.E
open Go.RowKit

theorem lt_d {k : IntKind} {a b : Int} {w : World} {K : KV} (h : K (.bool (decide (a < b))) w) : bi .lss k (.int k a) (.int k b) w K := by
  by_cases c : a < b
  · rw [decide_eq_true c] at h; exact lt_t c h
  · rw [decide_eq_false c] at h; exact lt_f c h
theorem le_d {k : IntKind} {a b : Int} {w : World} {K : KV} (h : K (.bool (decide (a ≤ b))) w) : bi .leq k (.int k a) (.int k b) w K := by
  by_cases c : a ≤ b
  · rw [decide_eq_true c] at h; exact le_t c h
  · rw [decide_eq_false c] at h; exact le_f c h
theorem gt_d {k : IntKind} {a b : Int} {w : World} {K : KV} (h : K (.bool (decide (b < a))) w) : bi .gtr k (.int k a) (.int k b) w K := by
  by_cases c : b < a
  · rw [decide_eq_true c] at h; exact gt_t c h
  · rw [decide_eq_false c] at h; exact gt_f c h
theorem ge_d {k : IntKind} {a b : Int} {w : World} {K : KV} (h : K (.bool (decide (b ≤ a))) w) : bi .geq k (.int k a) (.int k b) w K := by
  by_cases c : b ≤ a
  · rw [decide_eq_true c] at h; exact ge_t c h
  · rw [decide_eq_false c] at h; exact ge_f c h
theorem eq_d {k : IntKind} {a b : Int} {w : World} {K : KV} (h : K (.bool (decide (a = b))) w) : bi .eql k (.int k a) (.int k b) w K := by
  by_cases c : a = b
  · rw [decide_eq_true c] at h; exact eq_t c h
  · rw [decide_eq_false c] at h; exact eq_f c h
theorem xt_02 {a b : Value} {w : World} {K : KV} (h : K a w) : xt 0 (.tuple #[a, b]) w K := ⟨_, a, rfl, rfl, h⟩
theorem xt_12 {a b : Value} {w : World} {K : KV} (h : K b w) : xt 1 (.tuple #[a, b]) w K := ⟨_, b, rfl, rfl, h⟩
theorem xt_03 {a b c : Value} {w : World} {K : KV} (h : K a w) : xt 0 (.tuple #[a, b, c]) w K := ⟨_, a, rfl, rfl, h⟩
theorem xt_13 {a b c : Value} {w : World} {K : KV} (h : K b w) : xt 1 (.tuple #[a, b, c]) w K := ⟨_, b, rfl, rfl, h⟩
theorem xt_23 {a b c : Value} {w : World} {K : KV} (h : K c w) : xt 2 (.tuple #[a, b, c]) w K := ⟨_, c, rfl, rfl, h⟩
theorem gd_u {s : Bool} {body : KV → Prop} {w : World} {K : KV} (h : K undef w) : gd undef s body w K := ⟨fun e => (by cases e), fun _ => h⟩
theorem not_d {q : Bool} {w : World} {K : KV} (h : K (.bool (!q)) w) : bnot (.bool q) w K := ⟨q, rfl, h⟩
theorem iff_d {p : Prop} [Decidable p] {A B : Prop} (h1 : p → A) (h2 : ¬ p → B) : iff' (.bool (decide p)) A B := ⟨decide p, rfl, fun h => h1 (of_decide_eq_true h), fun h => h2 (of_decide_eq_false h)⟩
theorem least_nat (p : Nat → Prop) : ∀ n, p n → ∃ n, p n ∧ ∀ m, p m → n ≤ m := by
  intro n
  induction n using Nat.strongRecOn with
  | _ n ih =>
    intro h
    by_cases hq : ∃ m, m < n ∧ p m
    · obtain ⟨m, hm, hpm⟩ := hq
      exact ih m hm hpm
    · exact ⟨n, h, fun m hm => by
        by_cases hl : m < n
        · exact absurd ⟨m, hl, hm⟩ hq
        · omega⟩
open Classical in
noncomputable def lst (p : Nat → Prop) : Nat := if h : ∃ n, p n ∧ ∀ m, p m → n ≤ m then Classical.choose h else 0
theorem lst_spec {p : Nat → Prop} {n : Nat} (h : p n) : p (lst p) ∧ ∀ m, p m → lst p ≤ m := by
  have := least_nat p n h
  unfold lst
  rw [dif_pos this]
  exact Classical.choose_spec this
theorem lpi0 {w : World} {f : World → Again → Prop} (I : Nat → World → Prop) (n : Nat) (h0 : I n w)
    (hr : ∀ n w (g : Again), I n w → (∀ n' w', n' < n → I n' w' → g [] w') → f w g) : lp [] w (b0 f) := by
  refine lp0 (fun w => ∃ n, I n w) (fun w => lst fun n => I n w) ⟨n, h0⟩ ?_
  rintro w g ⟨n, hI⟩ hg
  have hs := lst_spec (p := fun n => I n w) hI
  exact hr _ w g hs.1 fun n' w' hn hI' => hg _ ⟨n', hI'⟩ (Nat.lt_of_le_of_lt ((lst_spec (p := fun n => I n w') hI').2 n' hI') hn)
theorem lpi1 {x0 : Value} {w : World} {f : Value → World → Again → Prop} (I : Nat → Value → World → Prop) (n : Nat) (h0 : I n x0 w)
    (hr : ∀ n x0 w (g : Again), I n x0 w → (∀ n' x0' w', n' < n → I n' x0' w' → g [x0'] w') → f x0 w g) : lp [x0] w (b1 f) := by
  refine lp1 (fun x0 w => ∃ n, I n x0 w) (fun x0 w => lst fun n => I n x0 w) ⟨n, h0⟩ ?_
  rintro x0 w g ⟨n, hI⟩ hg
  have hs := lst_spec (p := fun n => I n x0 w) hI
  exact hr _ x0 w g hs.1 fun n' x0' w' hn hI' => hg _ _ ⟨n', hI'⟩ (Nat.lt_of_le_of_lt ((lst_spec (p := fun n => I n x0' w') hI').2 n' hI') hn)
theorem lpi2 {x0 x1 : Value} {w : World} {f : Value → Value → World → Again → Prop} (I : Nat → Value → Value → World → Prop) (n : Nat) (h0 : I n x0 x1 w)
    (hr : ∀ n x0 x1 w (g : Again), I n x0 x1 w → (∀ n' x0' x1' w', n' < n → I n' x0' x1' w' → g [x0', x1'] w') → f x0 x1 w g) : lp [x0, x1] w (b2 f) := by
  refine lp2 (fun x0 x1 w => ∃ n, I n x0 x1 w) (fun x0 x1 w => lst fun n => I n x0 x1 w) ⟨n, h0⟩ ?_
  rintro x0 x1 w g ⟨n, hI⟩ hg
  have hs := lst_spec (p := fun n => I n x0 x1 w) hI
  exact hr _ x0 x1 w g hs.1 fun n' x0' x1' w' hn hI' => hg _ _ _ ⟨n', hI'⟩ (Nat.lt_of_le_of_lt ((lst_spec (p := fun n => I n x0' x1' w') hI').2 n' hI') hn)
theorem lpi3 {x0 x1 x2 : Value} {w : World} {f : Value → Value → Value → World → Again → Prop} (I : Nat → Value → Value → Value → World → Prop) (n : Nat) (h0 : I n x0 x1 x2 w)
    (hr : ∀ n x0 x1 x2 w (g : Again), I n x0 x1 x2 w → (∀ n' x0' x1' x2' w', n' < n → I n' x0' x1' x2' w' → g [x0', x1', x2'] w') → f x0 x1 x2 w g) : lp [x0, x1, x2] w (b3 f) := by
  refine lp3 (fun x0 x1 x2 w => ∃ n, I n x0 x1 x2 w) (fun x0 x1 x2 w => lst fun n => I n x0 x1 x2 w) ⟨n, h0⟩ ?_
  rintro x0 x1 x2 w g ⟨n, hI⟩ hg
  have hs := lst_spec (p := fun n => I n x0 x1 x2 w) hI
  exact hr _ x0 x1 x2 w g hs.1 fun n' x0' x1' x2' w' hn hI' => hg _ _ _ _ ⟨n', hI'⟩ (Nat.lt_of_le_of_lt ((lst_spec (p := fun n => I n x0' x1' x2' w') hI').2 n' hI') hn)
theorem find_uniq {κ ν : Type} [DecidableEq κ] : ∀ {m : List (κ × ν)}, (m.map (·.1)).Nodup → ∀ {p : κ × ν}, p ∈ m → (m.find? fun q => decide (q.1 = p.1)) = some p
  | [], _, p, h => by cases h
  | q :: m, hn, p, h => by
    rw [List.map_cons, List.nodup_cons] at hn
    rw [List.find?_cons]
    cases h with
    | head => simp
    | tail _ h =>
      have : ¬ q.1 = p.1 := fun e => hn.1 (List.mem_map.2 ⟨p, h, e.symm⟩)
      simp only [this, decide_false]
      exact find_uniq hn.2 h

section
variable {κ ν : Type}
structure KeyT [DecidableEq κ] (P : Program) (kt : TypeId) (kf : κ → Value) : Prop where
  chk : ∀ (b : Bool) (k : κ) (w : World), (Instr.checkKey b 10000 kt (kf k)).run P w = .ok () w
  fnd : ∀ (k : κ) (es : List MapEntry) (ks : List κ), es.map (·.key) = ks.map kf → ∀ w : World, (Instr.findKey kt (kf k) es).run P w = .ok ((ks.findIdx? fun x => decide (x = k)).bind fun i => (es[i]?).map fun e => (i, e.val)) w
  sam : ∀ k, Instr.sameBits 10000 (kf k) (kf k) = true

structure MapT (P : Program) (t kt vt : TypeId) (zv : Value) : Prop where
  und : P.underlying t = some (.map kt vt)
  zero : ∃ i, P.info? vt = some i ∧ i.zero = some zv

def Born (es : List MapEntry) (clock : Nat) : Prop := es.Pairwise (fun a b => a.born < b.born) ∧ ∀ e ∈ es, e.born < clock
def pairOf (kf : κ → Value) (vf : ν → Value) (p : κ × ν) : Value × Value := (kf p.1, vf p.2)
def isMap (kf : κ → Value) (vf : ν → Value) (b : Nat) (m : List (κ × ν)) : HP := fun h =>
  ∃ es clock, h b = some (.map es clock) ∧ es.toList.map (fun e => (e.key, e.val)) = m.map (pairOf kf vf) ∧ Born es.toList clock
def lkA [DecidableEq κ] (m : List (κ × ν)) (k : κ) : Option ν := (m.find? fun p => decide (p.1 = k)).map (·.2)
def upA [DecidableEq κ] (m : List (κ × ν)) (k : κ) (x : ν) : List (κ × ν) := if (lkA m k).isSome then m.map (fun p => if p.1 = k then (k, x) else p) else m ++ [(k, x)]
def Uniq (m : List (κ × ν)) : Prop := (m.map (·.1)).Nodup

variable {P : Program} {kt vt t : TypeId} {kf : κ → Value} {vf : ν → Value} {zv : Value} {e w : World} {L : List HP} {K : KV} {b : Nat} {m : List (κ × ν)}

theorem es_keys {es : List MapEntry} (h : es.map (fun e => (e.key, e.val)) = m.map (pairOf kf vf)) : es.map (·.key) = (m.map (·.1)).map kf := by
  have := congrArg (List.map Prod.fst) h
  simpa [List.map_map, Function.comp_def, pairOf] using this
theorem es_val {es : List MapEntry} (h : es.map (fun e => (e.key, e.val)) = m.map (pairOf kf vf)) (i : Nat) : (es[i]?).map (·.val) = (m[i]?).map fun p => vf p.2 := by
  have := congrArg (fun l => (l[i]?).map Prod.snd) h
  simpa [List.getElem?_map, Option.map_map, Function.comp_def, pairOf] using this
theorem es_key {es : List MapEntry} (h : es.map (fun e => (e.key, e.val)) = m.map (pairOf kf vf)) (i : Nat) : (es[i]?).map (·.key) = (m[i]?).map fun p => kf p.1 := by
  have := congrArg (fun l => (l[i]?).map Prod.fst) h
  simpa [List.getElem?_map, Option.map_map, Function.comp_def, pairOf] using this

theorem fidx_lk [DecidableEq κ] : ∀ (m : List (κ × ν)) (k : κ), ((m.map (·.1)).findIdx? fun x => decide (x = k)).bind (fun i => (m[i]?).map (·.2)) = lkA m k
  | [], k => rfl
  | p :: m, k => by
    simp only [List.map_cons, List.findIdx?_cons, lkA, List.find?_cons]
    by_cases h : p.1 = k
    · simp [h]
    · have ih := fidx_lk m k
      simp only [lkA] at ih
      simp only [h, decide_false, Bool.false_eq_true, if_false, ← ih]
      cases hf : (m.map (·.1)).findIdx? (fun x => decide (x = k)) with
      | none => simp
      | some i => simp

theorem Sat.getMap (hS : Sat e w L) (i : Nat) (hi : L[i]? = some (isMap kf vf b m)) : ∃ es clock, w.heap[b]? = some (.map es clock) ∧ es.toList.map (fun e => (e.key, e.val)) = m.map (pairOf kf vf) ∧ Born es.toList clock := by
  obtain ⟨g, ⟨es, clock, h1, h2, h3⟩, hs⟩ := hS.get i hi
  exact ⟨es, clock, hs _ _ h1, h2, h3⟩

theorem mkMap_s (kf : κ → Value) (vf : ν → Value) (hS : Sat e w L) (hk : ∀ b w', Sat e w' (isMap kf vf b [] :: L) → K (.map (some b)) w') : mkMap w K := by
  refine hk _ _ ((hS.alloc (.map #[] 0)).imp fun g hg => ⟨#[], 0, hg, rfl, ?_⟩)
  exact ⟨List.Pairwise.nil, fun e he => by cases he⟩

theorem run_getObj {b : Nat} {es : Array MapEntry} {clock : Nat} (h : w.heap[b]? = some (.map es clock)) : (getObj b).run P w = .ok (.map es clock) w := by
  simp only [getObj, Sem.run, h]

theorem lkM_s [DecidableEq κ] (KT : KeyT P kt kf) (MT : MapT P t kt vt zv) (hS : Sat e w L) (i : Nat) (hi : L[i]? = some (isMap kf vf b m)) (k : κ)
    (hk : K (.tuple #[match lkA m k with | some x => vf x | none => zv, .bool (lkA m k).isSome]) w) : lkM P t (.map (some b)) (kf k) true w K := by
  obtain ⟨es, clock, h1, h2, h3⟩ := hS.getMap i hi
  obtain ⟨inf, hi1, hi2⟩ := MT.zero
  refine ex_oV (w' := w) ?_ hk
  have hf := KT.fnd k es.toList (m.map (·.1)) (es_keys h2) w
  unfold Instr.lookup
  simp only [Sem.run_bind, run_und MT.und, Result.andThen_ok, run_getObj h1, Sem.run_pure, KT.chk, hf]
  have hl := fidx_lk m k
  cases hx : (m.map (·.1)).findIdx? (fun x => decide (x = k)) with
  | none =>
    rw [hx] at hl
    simp only [Option.bind_none] at hl ⊢
    rw [← hl]
    simp only [Sem.run_bind, run_zero hi1 hi2, Result.andThen_ok, Sem.run_pure]
    rfl
  | some j =>
    rw [hx] at hl
    simp only [Option.bind_some] at hl ⊢
    have hv := es_val h2 j
    have hjl : j < m.length := by
      obtain ⟨hj, _⟩ := List.findIdx?_eq_some_iff_getElem.1 hx
      simpa using hj
    rw [List.getElem?_eq_getElem hjl] at hv hl
    simp only [Option.map_some] at hv hl
    obtain ⟨e', he, hev⟩ := Option.map_eq_some_iff.1 hv
    rw [he, ← hl]
    simp only [Option.map_some, hev]
    rfl

theorem findNow_int {k0 : IntKind} (k : Int) : ∀ (es : List MapEntry) (ks : List Int) (i : Nat), es.map (·.key) = ks.map (fun n => Value.int k0 n) →
    Instr.findNow (.int k0) (.int k0 k) es i = some ((ks.findIdx? fun x => decide (x = k)).bind fun j => (es[j]?).map fun e => (i + j, e.val))
  | [], ks, i, h => by
    cases ks with
    | nil => rfl
    | cons => cases h
  | e :: es, ks, i, h => by
    cases ks with
    | nil => cases h
    | cons x ks =>
      simp only [List.map_cons, List.cons.injEq] at h
      simp only [Instr.findNow, h.1, Instr.sameNow, if_true, List.findIdx?_cons]
      by_cases hx : x = k
      · subst hx
        simp
      · have hk : (k == x) = false := by simp; exact fun e => hx e.symm
        rw [hk, findNow_int k es ks (i + 1) h.2]
        simp only [hx, decide_false, Bool.false_eq_true, if_false]
        cases ks.findIdx? (fun x => decide (x = k)) with
        | none => rfl
        | some j => simp [Nat.add_comm, Nat.add_left_comm]

theorem keyT_int {P : Program} {kt : TypeId} {k0 : IntKind} (hu : P.underlying kt = some (.int k0)) : KeyT P kt (fun n : Int => .int k0 n) where
  chk b k w := by
    unfold Instr.checkKey
    simp only [Sem.run_bind, run_und hu, Result.andThen_ok, Sem.run_pure]
  fnd k es ks h w := by
    unfold Instr.findKey
    simp only [Sem.run_bind, run_und hu, Result.andThen_ok, findNow_int k es ks 0 h, Sem.run_pure, Nat.zero_add]
  sam k := by simp [Instr.sameBits]

theorem born_modify {es : List MapEntry} {clock : Nat} (h : Born es clock) (i : Nat) (f : MapEntry → MapEntry) (hf : ∀ e, (f e).born = e.born) : Born (es.modify i f) clock := by
  have hb : (es.modify i f).map (·.born) = es.map (·.born) := by
    apply List.ext_getElem?
    intro j
    simp only [List.getElem?_map, List.getElem?_modify]
    cases es[j]? with
    | none => rfl
    | some x => by_cases hij : i = j <;> simp [hij, hf]
  constructor
  · have h1 := (List.pairwise_map (f := fun e : MapEntry => e.born) (R := (· < ·))).2 h.1
    rw [← hb] at h1
    exact List.pairwise_map.1 h1
  · intro e he
    have : e.born ∈ (es.modify i f).map (·.born) := List.mem_map.2 ⟨e, he, rfl⟩
    rw [hb] at this
    obtain ⟨e', he', h2⟩ := List.mem_map.1 this
    rw [← h2]
    exact h.2 e' he'

theorem upM_s [DecidableEq κ] (KT : KeyT P kt kf) (MT : MapT P t kt vt zv) (hu : Uniq m) (hS : Sat e w (isMap kf vf b m :: L)) (k : κ) (x : ν) {xv : Value} (hx : xv = vf x)
    (hk : ∀ w', Sat e w' (isMap kf vf b (upA m k x) :: L) → K undef w') : upM P t (.map (some b)) (kf k) xv w K := by
  subst hx
  obtain ⟨h1, h2, d, s1, s2, ⟨es, clock, hb, hm, hbo⟩, r⟩ := hS.mem
  have hh : w.heap[b]? = some (.map es clock) := s1 _ _ hb
  have hlt : b < w.heap.size := (Array.getElem?_eq_some_iff.1 hh).1
  have hS0 : Sat e w ((fun g => g b = some (.map es clock)) :: L) := ⟨hS.os, hS.tape, hS.output, hS.drawn, hS.size, h1, h2, d, s1, s2, hb, r⟩
  have hf := KT.fnd k es.toList (m.map (·.1)) (es_keys hm) w
  have hl := fidx_lk m k
  cases hx : (m.map (·.1)).findIdx? (fun x => decide (x = k)) with
  | none =>
    rw [hx] at hl hf
    simp only [Option.bind_none] at hl hf
    refine ex_oU (w' := World.setB w b (.map (es.push { key := kf k, val := vf x, born := clock }) (clock + 1))) ?_ (hk _ ?_)
    · unfold Instr.mapUpdate
      simp only [Sem.run_bind, run_und MT.und, Result.andThen_ok, run_getObj hh, KT.chk, hf, setObj, Sem.run, hh, World.setB]
    · refine hS0.setB.imp fun g hg => ⟨_, _, hg, ?_, ?_⟩
      · unfold upA
        rw [← hl]
        simp [hm, pairOf]
      · constructor
        · rw [Array.toList_push, List.pairwise_append]
          exact ⟨hbo.1, by simp, fun a ha b hb' => by simp at hb'; subst hb'; exact hbo.2 a ha⟩
        · intro e' he'
          rw [Array.toList_push, List.mem_append] at he'
          rcases he' with he' | he'
          · have := hbo.2 e' he'; omega
          · simp at he'; subst he'; simp
  | some j =>
    rw [hx] at hl hf
    simp only [Option.bind_some] at hl hf
    obtain ⟨hj, hjk, hjn⟩ := List.findIdx?_eq_some_iff_getElem.1 hx
    simp only [List.length_map] at hj
    simp only [List.getElem_map, decide_eq_true_eq] at hjk
    have hkey := es_key hm j
    rw [List.getElem?_eq_getElem hj] at hkey hl
    simp only [Option.map_some] at hkey hl
    obtain ⟨e', he, hek⟩ := Option.map_eq_some_iff.1 hkey
    rw [he] at hf
    simp only [Option.map_some] at hf
    have he2 : es[j]? = some e' := by rw [← Array.getElem?_toList]; exact he
    refine ex_oU (w' := World.setB w b (.map (es.modify j fun e => { e with key := kf k, val := vf x }) clock)) ?_ (hk _ ?_)
    · unfold Instr.mapUpdate
      have hst : (Instr.keyThatStays (((es[j]?).map (·.key)).getD (kf k)) (kf k)).run P w = .ok (kf k) w := by
        rw [he2]
        simp only [Option.map_some, Option.getD_some, hek, hjk, Instr.keyThatStays, KT.sam, if_true, Sem.run_pure]
      simp only [Sem.run_bind, run_und MT.und, Result.andThen_ok, run_getObj hh, KT.chk, hf, hst, setObj, Sem.run, hh, World.setB]
    · refine hS0.setB.imp fun g hg => ⟨_, _, hg, ?_, ?_⟩
      · unfold upA
        rw [← hl]
        simp only [Option.isSome_some, if_true]
        apply List.ext_getElem?
        intro n
        have hn := congrArg (fun l => l[n]?) hm
        simp only [List.getElem?_map] at hn ⊢
        rw [Array.toList_modify, List.getElem?_modify]
        cases hen : es.toList[n]? with
        | none =>
          rw [hen] at hn
          cases hmn : m[n]? with
          | none => rfl
          | some p => rw [hmn] at hn; cases hn
        | some en =>
          rw [hen] at hn
          cases hmn : m[n]? with
          | none => rw [hmn] at hn; cases hn
          | some p =>
            rw [hmn] at hn
            simp only [Option.map_some, Option.some.injEq] at hn ⊢
            by_cases hjn' : j = n
            · subst hjn'
              have hp : p.1 = k := by
                rw [List.getElem?_eq_getElem hj] at hmn
                cases hmn
                exact hjk
              simp [hp, pairOf]
            · have hp : p.1 ≠ k := by
                intro hpk
                have hnl := (List.getElem?_eq_some_iff.1 hmn).1
                have e1 : (m.map (·.1))[j]? = some k := by simp [List.getElem?_eq_getElem hj, hjk]
                have e2 : (m.map (·.1))[n]? = some k := by simp [hmn, hpk]
                have := (List.getElem?_inj (by simpa using hj) hu).1 (e1.trans e2.symm)
                exact hjn' this
              simp only [hjn', if_false, hp]
              exact congrArg some hn
      · rw [Array.toList_modify]
        exact born_modify hbo j _ (fun _ => rfl)

theorem upA_keys [DecidableEq κ] (m : List (κ × ν)) (k : κ) (x : ν) : (upA m k x).map (·.1) = if (lkA m k).isSome then m.map (·.1) else m.map (·.1) ++ [k] := by
  unfold upA
  split
  · rw [List.map_map]
    apply List.map_congr_left
    intro p _
    simp only [Function.comp]
    split
    · rename_i h; exact h.symm
    · rfl
  · simp
theorem lkA_none [DecidableEq κ] {m : List (κ × ν)} {k : κ} : lkA m k = none ↔ k ∉ m.map (·.1) := by
  unfold lkA
  simp only [Option.map_eq_none_iff, List.find?_eq_none, decide_eq_true_eq, List.mem_map, not_exists, not_and]
theorem Uniq.up [DecidableEq κ] {m : List (κ × ν)} (h : Uniq m) (k : κ) (x : ν) : Uniq (upA m k x) := by
  unfold Uniq
  rw [upA_keys]
  split
  · exact h
  · rename_i hn
    have : lkA m k = none := by cases hl : lkA m k <;> simp_all
    rw [lkA_none] at this
    rw [List.nodup_append]
    exact ⟨h, by simp, fun a ha b hb => by simp at hb; subst hb; exact fun e => this (e ▸ ha)⟩
theorem lkA_up [DecidableEq κ] {m : List (κ × ν)} (_h : Uniq m) (k : κ) (x : ν) (j : κ) : lkA (upA m k x) j = if j = k then some x else lkA m j := by
  unfold upA
  split
  · rename_i hs
    clear _h
    induction m with
    | nil => simp [lkA] at hs
    | cons p m ih =>
      simp only [lkA, List.map_cons, List.find?_cons] at hs ih ⊢
      by_cases hp : p.1 = k
      · by_cases hj : j = k
        · subst hj
          simp [hp]
        · have hpj : ¬ p.1 = j := fun e => hj (e ▸ hp)
          have hkj : ¬ k = j := fun e => hj e.symm
          simp only [hp, if_true, hkj, decide_false, hj, if_false]
          clear ih hs
          have : ∀ m : List (κ × ν), ((m.map fun p => if p.1 = k then (k, x) else p).find? fun p => decide (p.1 = j)).map (·.2) = (m.find? fun p => decide (p.1 = j)).map (·.2) := by
            intro m
            induction m with
            | nil => rfl
            | cons q m ih =>
              simp only [List.map_cons, List.find?_cons]
              by_cases hq : q.1 = k
              · have hqj : ¬ q.1 = j := fun e => hj (e ▸ hq)
                simp only [hq, if_true, hkj, decide_false]
                exact ih
              · simp only [hq, if_false]
                cases hqd : decide (q.1 = j) with
                | true => rfl
                | false => exact ih
          simpa using this m
      · simp only [hp, decide_false, if_false] at hs ⊢
        have ih' := ih hs
        by_cases hpj : p.1 = j
        · have hjk : ¬ j = k := fun e => hp (hpj.trans e)
          simp [hpj, hjk]
        · simp only [hpj, decide_false]
          exact ih'
  · rename_i hn
    have hnone : lkA m k = none := by cases hl : lkA m k <;> simp_all
    unfold lkA at hnone ⊢
    rw [List.find?_append]
    by_cases hj : j = k
    · subst hj
      rw [Option.map_eq_none_iff] at hnone
      simp [hnone]
    · have hkj : ¬ k = j := fun e => hj e.symm
      simp [hj, hkj]

def rngM (kf : κ → Value) (vf : ν → Value) (b r : Nat) (m rem : List (κ × ν)) (cur : Option (κ × ν)) : HP := fun h =>
  ∃ es clock seen, h b = some (.map es clock) ∧ h r = some (.mapIter (some b) clock seen clock) ∧ es.toList.map (fun e => (e.key, e.val)) = m.map (pairOf kf vf) ∧ Born es.toList clock ∧
    (es.toList.filter fun e => !seen.contains e.born).map (fun e => (e.key, e.val)) = rem.map (pairOf kf vf) ∧
    match cur with
    | none => seen = #[]
    | some p => ∃ e' ∈ es.toList, seen.back? = some e'.born ∧ (e'.key, e'.val) = pairOf kf vf p

theorem rgM_s (hu : P.underlying t = some (.map kt vt)) (hS : Sat e w (isMap kf vf b m :: L)) (hk : ∀ r w', Sat e w' (rngM kf vf b r m m none :: L) → K (.pointer (some ⟨r, 0, none⟩)) w') : rgM P t (.map (some b)) w K := by
  obtain ⟨h1, h2, d, s1, s2, ⟨es, clock, hb, hm, hbo⟩, r⟩ := hS.mem
  have hh : w.heap[b]? = some (.map es clock) := s1 _ _ hb
  refine ex_oV (w' := w.alloc (.mapIter (some b) clock #[] clock)) (v := .pointer (some ⟨w.heap.size, 0, none⟩)) ?_ (hk _ _ ?_)
  · unfold Instr.range
    simp only [Sem.run_bind, run_und hu, Result.andThen_ok, run_getObj hh, Sem.run_pure, newObj, Sem.run, World.alloc]
  · have hS0 : Sat e w ((fun g => g b = some (.map es clock)) :: L) := ⟨hS.os, hS.tape, hS.output, hS.drawn, hS.size, h1, h2, d, s1, s2, hb, r⟩
    have h3 := hS0.alloc (.mapIter (some b) clock #[] clock)
    refine (Sat.join (l' := [_, _]) h3).imp fun g hg => ?_
    obtain ⟨g1, g2, d', t1, t2, p1, g3, g4, d2, t3, t4, p2, _⟩ := hg
    exact ⟨es, clock, #[], t2 _ _ (t3 _ _ p2), t1 _ _ p1, hm, hbo, by rw [List.filter_eq_self.2 (fun _ _ => by simp)]; exact hm, rfl⟩

theorem rngM_map {r : Nat} {rem : List (κ × ν)} {cur : Option (κ × ν)} : ∀ g, rngM kf vf b r m rem cur g → isMap kf vf b m g := fun _ ⟨es, clock, _, h1, _, h2, h3, _⟩ => ⟨es, clock, h1, h2, h3⟩

theorem Sat.setB2 {b : Nat} {o' : Obj} {Q P2 : HP} (hS : Sat e w (Q :: L)) (hq : ∀ g, Q g → ∃ o, g b = some o) (hp : ∀ g, Q g → P2 (fun x => if x = b then some o' else g x)) : Sat e (World.setB w b o') (P2 :: L) := by
  obtain ⟨h1, h2, d, s1, s2, q, r⟩ := hS.mem
  obtain ⟨o, ho⟩ := hq h1 q
  have hw : Go.E.hp w b = some o := s1 _ _ ho
  have hlt : b < w.heap.size := (Array.getElem?_eq_some_iff.1 hw).1
  have hb2 : h2 b = none := by
    rcases d b with k | k
    · rw [ho] at k; cases k
    · exact k
  refine ⟨hS.os, hS.tape, hS.output, hS.drawn, by simpa [World.setB] using hS.size, (fun x => if x = b then some o' else h1 x), h2, fun x => ?_, fun x u k => ?_, fun x u k => ?_, hp _ q, r⟩
  · by_cases e : x = b
    · subst e; exact .inr hb2
    · simp only [if_neg e]; exact d x
  · rw [hp_setB _ _ _ hlt]
    by_cases e : x = b
    · subst e; simpa using k
    · simp only [if_neg e] at k ⊢; exact s1 x u k
  · rw [hp_setB _ _ _ hlt]
    by_cases e : x = b
    · subst e; rw [hb2] at k; cases k
    · simp only [if_neg e]; exact s2 x u k

theorem List.eraseIdx_map_c {α β : Type} (f : α → β) : ∀ (l : List α) (i : Nat), (l.eraseIdx i).map f = (l.map f).eraseIdx i
  | [], _ => rfl
  | _ :: _, 0 => rfl
  | a :: l, i + 1 => by simp [List.eraseIdx_map_c f l i]
theorem filter_erase (es : List MapEntry) (seen : Array Nat) (x : MapEntry) (i : Nat) (hnd : (es.map (·.born)).Nodup) (l : List MapEntry) (hl : l = es.filter fun e => !seen.contains e.born) (hi : i < l.length) (hx : l[i] = x) :
    (es.filter fun e => !(seen.push x.born).contains e.born) = l.eraseIdx i := by
  have h1 : (es.filter fun e => !(seen.push x.born).contains e.born) = (es.filter fun e => !seen.contains e.born).filter fun e => !(e.born == x.born) := by
    rw [List.filter_filter]
    apply List.filter_congr
    intro a _
    by_cases h : a.born = x.born <;> simp [h, Array.mem_push]
  rw [h1, ← hl]
  have hnd2 : (l.map (·.born)).Nodup := by rw [hl]; exact (List.Sublist.map _ List.filter_sublist).nodup hnd
  clear h1 hnd hl
  induction l generalizing i with
  | nil => cases hi
  | cons a l ih =>
    rw [List.map_cons, List.nodup_cons] at hnd2
    cases i with
    | zero =>
      simp only [List.getElem_cons_zero] at hx
      subst hx
      simp only [List.filter_cons, beq_self_eq_true, Bool.not_true, Bool.false_eq_true, if_false, List.eraseIdx_cons_zero]
      apply List.filter_eq_self.2
      intro y hy
      have : y.born ≠ a.born := fun h => hnd2.1 (List.mem_map.2 ⟨y, hy, h⟩)
      simpa using this
    | succ i =>
      simp only [List.getElem_cons_succ] at hx
      have hil : i < l.length := by simpa using hi
      have : a.born ≠ x.born := fun h => hnd2.1 (List.mem_map.2 ⟨x, by rw [← hx]; exact List.getElem_mem _, h.symm⟩)
      have hb : (!(a.born == x.born)) = true := by simpa using this
      simp only [List.filter_cons, hb, if_true, List.eraseIdx_cons_succ]
      rw [ih i hil hx hnd2.2]

theorem nxM_s {r : Nat} {rem : List (κ × ν)} {cur : Option (κ × ν)} {ty : TypeId} (hS : Sat e w (rngM kf vf b r m rem cur :: L))
    (h0 : rem = [] → ∀ w', Sat e w' (rngM kf vf b r m [] cur :: L) → K (.tuple #[.bool false]) w')
    (h1 : ∀ (i : Nat) (p : κ × ν) (w' : World), rem[i]? = some p → Sat e w' (rngM kf vf b r m (rem.eraseIdx i) (some p) :: L) → K (.tuple #[.bool true, kf p.1, vf p.2]) w') :
    nxM P (.pointer (some ⟨r, 0, none⟩)) false ty w K := by
  obtain ⟨g, hg, hs⟩ := hS.get 0 rfl
  obtain ⟨es, clock, seen, hb, hr, hm, hbo, hrem, hcur⟩ := hg
  have hwb : w.heap[b]? = some (.map es clock) := hs _ _ hb
  have hwr : w.heap[r]? = some (.mapIter (some b) clock seen clock) := hs _ _ hr
  have hold : ∀ x ∈ es.toList, x.born < clock := hbo.2
  have hleft : (leftOf es seen).toList = es.toList.filter fun e => !seen.contains e.born := by unfold leftOf; simp
  rw [← hleft] at hrem
  rcases run_next_at (P := P) w ty r b clock clock seen es clock hwr hwb hold (Nat.le_refl _) with ⟨hz, hrun⟩ | ⟨x, hx, w1, hw1, hrun⟩
  · have hr0 : rem = [] := by
      have := congrArg List.length hrem
      rw [List.length_map, List.length_map, Array.length_toList, hz] at this
      exact List.length_eq_zero_iff.1 this.symm
    subst hr0
    exact ex_oV hrun (h0 rfl w hS)
  · obtain ⟨i, hi, hxi⟩ := List.getElem_of_mem hx
    have hil : i < rem.length := by
      have := congrArg List.length hrem
      simp only [List.length_map] at this
      omega
    have hpe : (x.key, x.val) = pairOf kf vf rem[i] := by
      have := congrArg (fun l => l[i]?) hrem
      simp only [List.getElem?_map, List.getElem?_eq_getElem hi, List.getElem?_eq_getElem hil, Option.map_some, Option.some.injEq, hxi] at this
      exact this
    have hSw : Sat e w1 (rngM kf vf b r m rem cur :: L) := by rcases hw1 with rfl | rfl; exact hS; exact hS.drew
    have hk2 := h1 i rem[i] (World.setB w1 r (.mapIter (some b) clock (seen.push x.born) clock)) (List.getElem?_eq_getElem hil)
    simp only [pairOf, Prod.mk.injEq] at hpe
    rw [← hpe.1, ← hpe.2] at hk2
    refine ex_oV hrun (hk2 ?_)
    have hw1b : w1.heap[b]? = some (.map es clock) := by rcases hw1 with rfl | rfl <;> exact hwb
    have hw1r : w1.heap[r]? = some (.mapIter (some b) clock seen clock) := by rcases hw1 with rfl | rfl <;> exact hwr
    have hS1 : Sat e w1 ((fun g => g b = some (.map es clock) ∧ g r = some (.mapIter (some b) clock seen clock)) :: L) := by
      obtain ⟨k1, k2, d, s1, s2, ⟨es', clock', seen', q1, q2, _⟩, rr⟩ := hSw.mem
      have e1 := s1 _ _ q1
      have e2 := s1 _ _ q2
      have f1 : some (Obj.map es' clock') = some (Obj.map es clock) := by rw [← hw1b]; exact e1.symm
      have f2 : some (Obj.mapIter (some b) clock' seen' clock') = some (Obj.mapIter (some b) clock seen clock) := by rw [← hw1r]; exact e2.symm
      refine ⟨hSw.os, hSw.tape, hSw.output, hSw.drawn, hSw.size, k1, k2, d, s1, s2, ⟨by rw [q1, f1], by rw [q2, f2]⟩, rr⟩
    refine hS1.setB2 (fun g hg => ⟨_, hg.2⟩) (fun g hg => ?_)
    have hbr : b ≠ r := by
      intro h
      subst h
      rw [hg.1] at hg
      cases hg.2
    have hnd : (es.toList.map (·.born)).Nodup := (List.pairwise_map (f := fun e : MapEntry => e.born) (R := (· < ·))).2 hbo.1 |>.imp (fun h => Nat.ne_of_lt h)
    refine ⟨es, clock, seen.push x.born, by simp only [if_neg hbr]; exact hg.1, by simp, hm, hbo, ?_, x, ?_, by simp, by simp only [pairOf, hpe]⟩
    · have : (es.toList.filter fun e => !(seen.push x.born).contains e.born) = (leftOf es seen).toList.eraseIdx i := by
        exact filter_erase es.toList seen x i hnd _ hleft hi hxi
      rw [this, List.eraseIdx_map_c, hrem, ← List.eraseIdx_map_c]
    · rw [hleft] at hx
      exact (List.mem_filter.1 hx).1

theorem enM_s {r : Nat} {rem : List (κ × ν)} {p : κ × ν} (i : Nat) (hS : Sat e w L) (hi : L[i]? = some (rngM kf vf b r m rem (some p)))
    (hk : K (.tuple #[kf p.1, vf p.2]) w) : enM P (.pointer (some ⟨r, 0, none⟩)) w K := by
  obtain ⟨g, hg, hs⟩ := hS.get i hi
  obtain ⟨es, clock, seen, hb, hr, hm, hbo, hrem, e', he', hback, hpe⟩ := hg
  have hwb : w.heap[b]? = some (.map es clock) := hs _ _ hb
  have hwr : w.heap[r]? = some (.mapIter (some b) clock seen clock) := hs _ _ hr
  have hfind : es.find? (fun x => x.born == e'.born) = some e' := by
    rw [← Array.find?_toList]
    have huniq : ∀ l : List MapEntry, l.Pairwise (fun a b => a.born < b.born) → e' ∈ l → l.find? (fun x => x.born == e'.born) = some e' := by
      intro l
      induction l with
      | nil => intro _ h; cases h
      | cons x l ih =>
        intro hp hmem
        rw [List.pairwise_cons] at hp
        rw [List.find?_cons]
        cases hmem with
        | head => simp
        | tail _ hmem =>
          have := hp.1 e' hmem
          have hne : (x.born == e'.born) = false := by simp; omega
          rw [hne]
          exact ih hp.2 hmem
    exact huniq _ hbo.1 he'
  refine ex_oV (w' := w) (v := .tuple #[e'.key, e'.val]) ?_ ?_
  · unfold Instr.entry
    have h1 : (getObj r).run P w = .ok (.mapIter (some b) clock seen clock) w := by simp only [getObj, Sem.run, hwr]
    simp only [Sem.run_bind, h1, Result.andThen_ok, hback, run_getObj hwb, bne_self_eq_false, Bool.false_eq_true, if_false, hfind, Sem.run_pure]
  · simp only [pairOf, Prod.mk.injEq] at hpe
    rw [hpe.1, hpe.2]
    exact hk
end
end Go.E
end
section
namespace Go.Proofs.YtbopajpmadlmhaaGreat
open Go Go.E
set_option linter.unusedVariables false
set_option maxRecDepth 100000
theorem zero_3 : zeroD prog 3 = #[(Value.int IntKind.i64 0)] := by kernel_rfl
theorem zero_4 : zeroD prog 4 = #[(Value.bool false)] := by kernel_rfl
theorem und_24 : prog.underlying 24 = some (.slice 3) := by kernel_rfl
theorem te_24 : TE prog 24 3 1 8 := ⟨und_24, ⟨Go.Proofs.Tryz.t3, (match Go.Proofs.Tryz.t3.zero with | some z => z | none => undef), by kernel_rfl, by kernel_rfl, by kernel_rfl, by kernel_rfl, by kernel_rfl⟩, by decide⟩
theorem und_25 : prog.underlying 25 = some (.slice 66) := by kernel_rfl
theorem te_25 : TE prog 25 66 7 120 := ⟨und_25, ⟨Go.Proofs.Tryz.t66, (match Go.Proofs.Tryz.t66.zero with | some z => z | none => undef), by kernel_rfl, by kernel_rfl, by kernel_rfl, by kernel_rfl, by kernel_rfl⟩, by decide⟩
theorem zero_27 : zeroD prog 27 = #[(Value.slice none 0 0), (Value.slice none 0 0), (Value.int IntKind.i64 0)] := by kernel_rfl
theorem und_33 : prog.underlying 33 = some (.slice 37) := by kernel_rfl
theorem te_33 : TE prog 33 37 6 48 := ⟨und_33, ⟨Go.Proofs.Tryz.t37, (match Go.Proofs.Tryz.t37.zero with | some z => z | none => undef), by kernel_rfl, by kernel_rfl, by kernel_rfl, by kernel_rfl, by kernel_rfl⟩, by decide⟩
theorem zero_35 : zeroD prog 35 = #[(Value.int IntKind.i64 0), (Value.int IntKind.i64 0), (Value.int IntKind.i64 0)] := by kernel_rfl
theorem eqT_35 : eqT prog 6 35 = some 3 := by kernel_rfl
theorem agg_35 : isAggT prog 35 = true := by kernel_rfl
theorem egt_35 : prog.eqGuardType prog.depth 35 = false := by kernel_rfl
theorem zero_37 : zeroD prog 37 = #[(Value.int IntKind.i64 0), (Value.int IntKind.i64 0), (Value.int IntKind.i64 0), (Value.int IntKind.i64 0), (Value.int IntKind.i64 0), (Value.int IntKind.i64 0)] := by kernel_rfl
theorem eqT_37 : eqT prog 6 37 = some 6 := by kernel_rfl
theorem agg_37 : isAggT prog 37 = true := by kernel_rfl
theorem egt_37 : prog.eqGuardType prog.depth 37 = false := by kernel_rfl
theorem und_39 : prog.underlying 39 = some (.slice 43) := by kernel_rfl
theorem te_39 : TE prog 39 43 8 64 := ⟨und_39, ⟨Go.Proofs.Tryz.t43, (match Go.Proofs.Tryz.t43.zero with | some z => z | none => undef), by kernel_rfl, by kernel_rfl, by kernel_rfl, by kernel_rfl, by kernel_rfl⟩, by decide⟩
theorem eqT_43 : eqT prog 6 43 = some 8 := by kernel_rfl
theorem agg_43 : isAggT prog 43 = true := by kernel_rfl
theorem egt_43 : prog.eqGuardType prog.depth 43 = false := by kernel_rfl
theorem zero_45 : zeroD prog 45 = #[(Value.int IntKind.i64 0), (Value.int IntKind.i64 0), (Value.int IntKind.i64 0), (Value.int IntKind.i64 0), (Value.int IntKind.i64 0), (Value.int IntKind.i64 0), (Value.int IntKind.i64 0)] := by kernel_rfl
theorem eqT_45 : eqT prog 6 45 = some 7 := by kernel_rfl
theorem agg_45 : isAggT prog 45 = true := by kernel_rfl
theorem egt_45 : prog.eqGuardType prog.depth 45 = false := by kernel_rfl
theorem und_52 : prog.underlying 52 = some (.slice 45) := by kernel_rfl
theorem te_52 : TE prog 52 45 7 56 := ⟨und_52, ⟨Go.Proofs.Tryz.t45, (match Go.Proofs.Tryz.t45.zero with | some z => z | none => undef), by kernel_rfl, by kernel_rfl, by kernel_rfl, by kernel_rfl, by kernel_rfl⟩, by decide⟩
theorem und_61 : prog.underlying 61 = some (.slice 87) := by kernel_rfl
theorem te_61 : TE prog 61 87 3 24 := ⟨und_61, ⟨Go.Proofs.Tryz.t87, (match Go.Proofs.Tryz.t87.zero with | some z => z | none => undef), by kernel_rfl, by kernel_rfl, by kernel_rfl, by kernel_rfl, by kernel_rfl⟩, by decide⟩
theorem und_64 : prog.underlying 64 = some (.slice 89) := by kernel_rfl
theorem te_64 : TE prog 64 89 4 48 := ⟨und_64, ⟨Go.Proofs.Tryz.t89, (match Go.Proofs.Tryz.t89.zero with | some z => z | none => undef), by kernel_rfl, by kernel_rfl, by kernel_rfl, by kernel_rfl, by kernel_rfl⟩, by decide⟩
theorem zero_66 : zeroD prog 66 = #[(Value.int IntKind.i64 0), (Value.int IntKind.i64 0), (Value.int IntKind.i64 0), (Value.slice none 0 0), (Value.slice none 0 0), (Value.slice none 0 0), (Value.slice none 0 0)] := by kernel_rfl
theorem und_68 : prog.underlying 68 = some (.slice 70) := by kernel_rfl
theorem zero_70 : zeroD prog 70 = #[(Value.int IntKind.i64 0), (Value.int IntKind.i64 0), (Value.int IntKind.i64 0), (Value.int IntKind.i64 0), (Value.int IntKind.i64 0), (Value.int IntKind.i64 0), (Value.int IntKind.i64 0), (Value.int IntKind.i64 0), (Value.int IntKind.i64 0), (Value.int IntKind.i64 0), (Value.int IntKind.i64 0)] := by kernel_rfl
theorem eqT_70 : eqT prog 6 70 = some 11 := by kernel_rfl
theorem zero_87 : zeroD prog 87 = #[(Value.int IntKind.i64 0), (Value.int IntKind.i64 0), (Value.int IntKind.i64 0)] := by kernel_rfl
theorem eqT_87 : eqT prog 6 87 = some 3 := by kernel_rfl
theorem zero_89 : zeroD prog 89 = #[(Value.int IntKind.i64 0), (Value.int IntKind.i64 0), (Value.int IntKind.i64 0), (Value.slice none 0 0)] := by kernel_rfl
theorem und_99 : prog.underlying 99 = some (.map 3 3) := by kernel_rfl
theorem mapT_99 : MapT prog 99 3 3 (Value.int IntKind.i64 0) := ⟨und_99, ⟨Go.Proofs.Tryz.t3, by kernel_rfl, by kernel_rfl⟩⟩
theorem keyT_99 : KeyT prog 3 (fun n : Int => .int .i64 n) := keyT_int (by kernel_rfl)
theorem zero_113 : zeroD prog 113 = #[(Value.int IntKind.i64 0), (Value.int IntKind.i64 0), (Value.int IntKind.i64 0), (Value.int IntKind.i64 0), (Value.int IntKind.i64 0), (Value.int IntKind.i64 0), (Value.int IntKind.i64 0), (Value.int IntKind.i64 0), (Value.int IntKind.i64 0), (Value.slice none 0 0)] := by kernel_rfl
theorem und_115 : prog.underlying 115 = some (.slice 113) := by kernel_rfl
theorem te_115 : TE prog 115 113 10 96 := ⟨und_115, ⟨Go.Proofs.Tryz.t113, (match Go.Proofs.Tryz.t113.zero with | some z => z | none => undef), by kernel_rfl, by kernel_rfl, by kernel_rfl, by kernel_rfl, by kernel_rfl⟩, by decide⟩
theorem und_128 : prog.underlying 128 = some (.slice 140) := by kernel_rfl
theorem te_128 : TE prog 128 140 10 96 := ⟨und_128, ⟨Go.Proofs.Tryz.t140, (match Go.Proofs.Tryz.t140.zero with | some z => z | none => undef), by kernel_rfl, by kernel_rfl, by kernel_rfl, by kernel_rfl, by kernel_rfl⟩, by decide⟩
theorem zero_134 : zeroD prog 134 = #[(Value.int IntKind.i64 0), (Value.slice none 0 0)] := by kernel_rfl
theorem und_136 : prog.underlying 136 = some (.slice 196) := by kernel_rfl
theorem te_136 : TE prog 136 196 9 72 := ⟨und_136, ⟨Go.Proofs.Tryz.t196, (match Go.Proofs.Tryz.t196.zero with | some z => z | none => undef), by kernel_rfl, by kernel_rfl, by kernel_rfl, by kernel_rfl, by kernel_rfl⟩, by decide⟩
theorem zero_138 : zeroD prog 138 = #[(Value.int IntKind.i64 0), (Value.slice none 0 0)] := by kernel_rfl
theorem und_153 : prog.underlying 153 = some (.map 35 3) := by kernel_rfl
theorem mapT_153 : MapT prog 153 35 3 (Value.int IntKind.i64 0) := ⟨und_153, ⟨Go.Proofs.Tryz.t3, by kernel_rfl, by kernel_rfl⟩⟩
theorem zero_155 : zeroD prog 155 = #[(Value.int IntKind.i64 0), (Value.slice none 0 0), (Value.map none)] := by kernel_rfl
theorem und_158 : prog.underlying 158 = some (.slice 177) := by kernel_rfl
theorem te_158 : TE prog 158 177 9 72 := ⟨und_158, ⟨Go.Proofs.Tryz.t177, (match Go.Proofs.Tryz.t177.zero with | some z => z | none => undef), by kernel_rfl, by kernel_rfl, by kernel_rfl, by kernel_rfl, by kernel_rfl⟩, by decide⟩
theorem zero_160 : zeroD prog 160 = #[(Value.int IntKind.i64 0), (Value.slice none 0 0)] := by kernel_rfl
theorem zero_172 : zeroD prog 172 = #[(Value.pointer none)] := by kernel_rfl
theorem zero_177 : zeroD prog 177 = #[(Value.int IntKind.i64 0), (Value.int IntKind.i64 0), (Value.int IntKind.i64 0), (Value.int IntKind.i64 0), (Value.int IntKind.i64 0), (Value.int IntKind.i64 0), (Value.int IntKind.i64 0), (Value.int IntKind.i64 0), (Value.int IntKind.i64 0)] := by kernel_rfl
theorem zero_196 : zeroD prog 196 = #[(Value.int IntKind.i64 0), (Value.int IntKind.i64 0), (Value.int IntKind.i64 0), (Value.int IntKind.i64 0), (Value.int IntKind.i64 0), (Value.int IntKind.i64 0), (Value.int IntKind.i64 0), (Value.int IntKind.i64 0), (Value.int IntKind.i64 0)] := by kernel_rfl
theorem und_202 : prog.underlying 202 = some (.slice 35) := by kernel_rfl
theorem te_202 : TE prog 202 35 3 24 := ⟨und_202, ⟨Go.Proofs.Tryz.t35, (match Go.Proofs.Tryz.t35.zero with | some z => z | none => undef), by kernel_rfl, by kernel_rfl, by kernel_rfl, by kernel_rfl, by kernel_rfl⟩, by decide⟩
theorem und_231 : prog.underlying 231 = some (.map 233 4) := by kernel_rfl
theorem mapT_231 : MapT prog 231 233 4 (Value.bool false) := ⟨und_231, ⟨Go.Proofs.Tryz.t4, by kernel_rfl, by kernel_rfl⟩⟩
theorem zero_233 : zeroD prog 233 = #[(Value.int IntKind.i64 0), (Value.int IntKind.i64 0)] := by kernel_rfl
theorem eqT_233 : eqT prog 6 233 = some 2 := by kernel_rfl
theorem agg_233 : isAggT prog 233 = true := by kernel_rfl
end Go.Proofs.YtbopajpmadlmhaaGreat
end
section
namespace Go.Proofs.YtbopajpmadlmhaaGreat
open Go Go.E
set_option linter.unusedVariables false
set_option maxRecDepth 100000
def pacelinelaw15_WarpScript (t0 t1 t2 : Value) (w : World) (K : KV) : Prop :=
  al (Value.cells t0) 27 w fun t3 w =>
  ldN 3 t3 w fun t29 w =>
  Cl prog 36 #[t29] w fun t30 w =>
  bnot t30 w fun t31 w =>
  gd t31 false (fun k => k t2 w) w fun t33 w =>
  gd t31 false (fun k => lnS t33 w k) w fun t34 w =>
  gd t31 false (fun k => bi .gtr .i64 t34 (Value.int IntKind.i64 60) w k) w fun t35 w =>
  pk t31 (Value.bool true) t35 w fun t36 w =>
  iff' t36
  (Cl prog 10 #[] w fun t37 w =>
  K t37 w)
  (ldN 3 t3 w fun t39 w =>
  Cl prog 12 #[t39, t1] w fun t41 w =>
  xt 0 t41 w fun t42 w =>
  xt 1 t41 w fun t43 w =>
  ldN 3 t3 w fun t45 w =>
  Cl prog 30 #[t45, t1] w fun t47 w =>
  xt 0 t47 w fun t48 w =>
  xt 1 t47 w fun t49 w =>
  bi .neq .i64 t43 t49 w fun t52 w =>
  gd t52 false (fun k => k t42 w) w fun t54 w =>
  gd t52 false (fun k => bn .eql t54 w k) w fun t55 w =>
  gd t52 false (fun k => k t48 w) w fun t56 w =>
  gd t52 false (fun k => bn .eql t56 w k) w fun t57 w =>
  gd t52 false (fun k => bb .neq t55 t57 w k) w fun t58 w =>
  pk t52 (Value.bool true) t58 w fun t59 w =>
  gd t59 false (fun k => Cl prog 10 #[] w k) w fun t61 w =>
  gd t59 false (fun k => bnot t61 w k) w fun t62 w =>
  pk t59 (Value.bool true) t62 w fun t63 w =>
  iff' t63
  (K (Value.bool false) w)
  (bn .eql t48 w fun t65 w =>
  iff' t65
  (K (Value.bool true) w)
  (lp [(Value.int IntKind.i64 0)] w (b1 fun t11 w g1 =>
  lnS t2 w fun t68 w =>
  bi .lss .i64 t11 t68 w fun t69 w =>
  iff' t69
  (ixS 11 t2 t11 w fun t74 w =>
  ldN 11 t74 w fun t75 w =>
  al (zeroD prog 70) 70 w fun t12 w =>
  stN 11 t12 t75 w fun _ w =>
  fld 0 t12 w fun t76 w =>
  ld1 t76 w fun t77 w =>
  J0 (fun w =>
  dr w fun w =>
  ncP t48 <|
  fld 4 t48 w fun t172 _ =>
  ld1 t172 w fun t173 _ =>
  Cl prog 18 #[t42] w fun t169 w =>
  (ld1 t172 w (fun v' w'' => v' = t173 ∧ w'' = w)) ∧ (bi .neq .i64 t169 t173 w fun t174 _ =>
  gd t174 false (fun k => k t42 w) w fun t176 _ =>
  gd t174 false (fun k => k t48 w) w fun t178 _ =>
  gd t174 false (fun k => Cl prog 19 #[t176] w k) w fun t177 w =>
  gd t174 false (fun k => Cl prog 35 #[t178] w k) w fun t179 w =>
  gd t174 false (fun k => bi .neq .i64 t177 t179 w k) w fun t180 _ =>
  pk t174 (Value.bool true) t180 w fun t181 _ =>
  gd t181 false (fun k => k t42 w) w fun t183 _ =>
  gd t181 false (fun k => k t48 w) w fun t185 _ =>
  gd t181 false (fun k => Cl prog 16 #[t183] w k) w fun t184 w =>
  gd t181 false (fun k => Cl prog 37 #[t185] w k) w fun t186 w =>
  gd t181 false (fun k => bi .neq .i64 t184 t186 w k) w fun t187 _ =>
  pk t181 (Value.bool true) t187 w fun t188 _ =>
  gd t188 false (fun k => k t42 w) w fun t190 _ =>
  gd t188 false (fun k => k t48 w) w fun t192 _ =>
  gd t188 false (fun k => Cl prog 21 #[t190] w k) w fun t191 w =>
  gd t188 false (fun k => Cl prog 38 #[t192] w k) w fun t193 w =>
  gd t188 false (fun k => bi .neq .i64 t191 t193 w k) w fun t194 _ =>
  pk t188 (Value.bool true) t194 w fun t195 _ =>
  gd t195 false (fun k => k t42 w) w fun t197 _ =>
  gd t195 false (fun k => k t48 w) w fun t199 _ =>
  gd t195 false (fun k => Cl prog 27 #[t197] w k) w fun t198 w =>
  gd t195 false (fun k => Cl prog 39 #[t199] w k) w fun t200 w =>
  gd t195 false (fun k => bi .neq .i64 t198 t200 w k) w fun t201 _ =>
  pk t195 (Value.bool true) t201 w fun t202 _ =>
  gd t202 false (fun k => k t42 w) w fun t204 _ =>
  gd t202 false (fun k => k t48 w) w fun t206 _ =>
  gd t202 false (fun k => Cl prog 17 #[t204] w k) w fun t205 w =>
  gd t202 false (fun k => Cl prog 40 #[t206] w k) w fun t207 w =>
  gd t202 false (fun k => Cl prog 23 #[t205, t207] w k) w fun t208 w =>
  gd t202 false (fun k => bnot t208 w k) w fun t209 _ =>
  pk t202 (Value.bool true) t209 w fun t210 _ =>
  iff' t210
  (K (Value.bool false) w)
  (bi .add .i64 t11 (Value.int IntKind.i64 1) w fun t71 w =>
  g1 [t71] w))) fun k2 =>
  bi .eql .i64 t77 (Value.int IntKind.i64 0) w fun t79 w =>
  iff' t79
  (fld 1 t12 w fun t82 w =>
  ld1 t82 w fun t83 w =>
  fld 3 t12 w fun t84 w =>
  ldN 8 t84 w fun t85 w =>
  Cl prog 14 #[t42, t83, t85] w fun t86 w =>
  xt 0 t86 w fun t87 w =>
  xt 1 t86 w fun t88 w =>
  fld 1 t12 w fun t91 w =>
  ld1 t91 w fun t92 w =>
  fld 3 t12 w fun t93 w =>
  ldN 8 t93 w fun t94 w =>
  Cl prog 31 #[t48, t92, t94] w fun t95 w =>
  xt 0 t95 w fun t96 w =>
  xt 1 t95 w fun t97 w =>
  bi .neq .i64 t88 t97 w fun t100 w =>
  gd t100 false (fun k => k t87 w) w fun t102 w =>
  gd t100 false (fun k => k t96 w) w fun t103 w =>
  gd t100 false (fun k => Cl prog 34 #[t102, t103] w k) w fun t104 w =>
  gd t100 false (fun k => bnot t104 w k) w fun t105 w =>
  pk t100 (Value.bool true) t105 w fun t106 w =>
  iff' t106
  (K (Value.bool false) w)
  (k2 w))
  (bi .eql .i64 t77 (Value.int IntKind.i64 1) w fun t108 w =>
  iff' t108
  (Cl prog 15 #[t42] w fun t111 w =>
  xt 0 t111 w fun t112 w =>
  xt 1 t111 w fun t113 w =>
  xt 2 t111 w fun t114 w =>
  al (zeroD prog 45) 45 w fun t17 w =>
  stN 7 t17 t112 w fun _ w =>
  Cl prog 32 #[t48] w fun t117 w =>
  xt 0 t117 w fun t118 w =>
  xt 1 t117 w fun t119 w =>
  xt 2 t117 w fun t120 w =>
  al (zeroD prog 45) 45 w fun t20 w =>
  stN 7 t20 t118 w fun _ w =>
  ldN 7 t17 w fun t121 w =>
  ldN 7 t20 w fun t122 w =>
  bO prog .neq 45 (Operand.tmp 121) (Operand.tmp 122) t121 t122 w fun t123 w =>
  gd t123 false (fun k => k t114 w) w fun t125 w =>
  gd t123 false (fun k => k t120 w) w fun t126 w =>
  gd t123 false (fun k => bi .neq .i64 t125 t126 w k) w fun t127 w =>
  pk t123 (Value.bool true) t127 w fun t128 w =>
  gd t128 false (fun k => k t113 w) w fun t130 w =>
  gd t128 false (fun k => k t119 w) w fun t131 w =>
  gd t128 false (fun k => Cl prog 34 #[t130, t131] w k) w fun t132 w =>
  gd t128 false (fun k => bnot t132 w k) w fun t133 w =>
  pk t128 (Value.bool true) t133 w fun t134 w =>
  iff' t134
  (K (Value.bool false) w)
  (k2 w))
  (bi .eql .i64 t77 (Value.int IntKind.i64 2) w fun t136 w =>
  iff' t136
  (fld 2 t12 w fun t139 w =>
  ld1 t139 w fun t140 w =>
  Cl prog 20 #[t42, t140] w fun t141 w =>
  xt 0 t141 w fun t142 w =>
  xt 1 t141 w fun t143 w =>
  xt 2 t141 w fun t144 w =>
  fld 2 t12 w fun t147 w =>
  ld1 t147 w fun t148 w =>
  Cl prog 33 #[t48, t148] w fun t149 w =>
  xt 0 t149 w fun t150 w =>
  xt 1 t149 w fun t151 w =>
  xt 2 t149 w fun t152 w =>
  bi .neq .i64 t144 t152 w fun t155 w =>
  gd t155 false (fun k => k t142 w) w fun t157 w =>
  gd t155 false (fun k => k t150 w) w fun t158 w =>
  gd t155 false (fun k => Cl prog 22 #[t157, t158] w k) w fun t159 w =>
  gd t155 false (fun k => bnot t159 w k) w fun t160 w =>
  pk t155 (Value.bool true) t160 w fun t161 w =>
  gd t161 false (fun k => k t143 w) w fun t163 w =>
  gd t161 false (fun k => k t151 w) w fun t164 w =>
  gd t161 false (fun k => Cl prog 23 #[t163, t164] w k) w fun t165 w =>
  gd t161 false (fun k => bnot t165 w k) w fun t166 w =>
  pk t161 (Value.bool true) t166 w fun t167 w =>
  iff' t167
  (K (Value.bool false) w)
  (k2 w))
  (k2 w))))
  (Cl prog 28 #[t42] w fun t212 w =>
  Cl prog 41 #[t48] w fun t214 w =>
  Cl prog 22 #[t212, t214] w fun t215 w =>
  K t215 w)))))
theorem pacelinelaw15_WarpScript_calls {t0 t1 t2 : Value} {w : World} {K : KV} (h : pacelinelaw15_WarpScript t0 t1 t2 w K) : Cl prog 9 #[t0, t1, t2] w K :=
  Cl.mk (by kernel_rfl) (calls_of_F (fn := fn9) (nt := 216) (rs := [6]) mixed fnAt9 (by kernel_rfl) (by kernel_rfl) (by kernel_rfl) (Nat.le_of_ble_eq_true (by kernel_rfl)) (by kernel_rfl) (by kernel_rfl) h)

def pacelinelaw15_shown (w : World) (K : KV) : Prop :=
  Cl prog 11 #[] w fun t9 w =>
  Cl prog 12 #[t9, (Value.int IntKind.i64 0)] w fun t10 w =>
  xt 0 t10 w fun t11 w =>
  xt 1 t10 w fun t12 w =>
  bi .neq .i64 t12 (Value.int IntKind.i64 0) w fun t14 w =>
  gd t14 false (fun k => k t11 w) w fun t16 w =>
  gd t14 false (fun k => bn .eql t16 w k) w fun t17 w =>
  pk t14 (Value.bool true) t17 w fun t18 w =>
  iff' t18
  (K (Value.bool false) w)
  (bld (zeroD prog 35) #[(0, 1), (1, 1), (2, 1)] [(0, (Value.int IntKind.i64 9)), (1, (Value.int IntKind.i64 1))] w fun t20 w =>
  bld (zeroD prog 37) #[(0, 3), (3, 1), (4, 1), (5, 1)] [(0, t20)] w fun t21 w =>
  bld (zeroD prog 43) #[(0, 1), (1, 6), (7, 1)] [(1, t21)] w fun t22 w =>
  Cl prog 14 #[t11, (Value.int IntKind.i64 1), t22] w fun _ w =>
  Cl prog 15 #[t11] w fun t26 w =>
  xt 0 t26 w fun t27 w =>
  xt 1 t26 w fun t28 w =>
  xt 2 t26 w fun t29 w =>
  al (zeroD prog 45) 45 w fun t3 w =>
  stN 7 t3 t27 w fun _ w =>
  bld (zeroD prog 35) #[(0, 1), (1, 1), (2, 1)] [(0, (Value.int IntKind.i64 7)), (1, (Value.int IntKind.i64 1)), (2, (Value.int IntKind.i64 1))] w fun t32 w =>
  bld (zeroD prog 37) #[(0, 3), (3, 1), (4, 1), (5, 1)] [(0, t32)] w fun t33 w =>
  bld (zeroD prog 43) #[(0, 1), (1, 6), (7, 1)] [(1, t33)] w fun t34 w =>
  Cl prog 14 #[t11, (Value.int IntKind.i64 1), t34] w fun t35 w =>
  xt 0 t35 w fun t36 w =>
  xt 1 t35 w fun t37 w =>
  dr w fun w =>
  bi .eql .i64 t29 (Value.int IntKind.i64 0) w fun t39 _ =>
  gd t39 true (fun k => k t37 w) w fun t41 _ =>
  gd t39 true (fun k => bi .eql .i64 t41 (Value.int IntKind.i64 0) w k) w fun t42 _ =>
  pk t39 t42 (Value.bool false) w fun t43 _ =>
  gd t43 true (fun k => k t28 w) w fun t45 _ =>
  gd t43 true (fun k => lnS t45 w k) w fun t46 _ =>
  gd t43 true (fun k => bi .eql .i64 t46 (Value.int IntKind.i64 1) w k) w fun t47 _ =>
  pk t43 t47 (Value.bool false) w fun t48 _ =>
  gd t48 true (fun k => k t36 w) w fun t50 _ =>
  gd t48 true (fun k => lnS t50 w k) w fun t51 _ =>
  gd t48 true (fun k => bi .eql .i64 t51 (Value.int IntKind.i64 1) w k) w fun t52 _ =>
  pk t48 t52 (Value.bool false) w fun t53 _ =>
  gd t53 true (fun k => k t36 w) w fun t55 _ =>
  gd t53 true (fun k => ixS 8 t55 (Value.int IntKind.i64 0) w k) w fun t56 _ =>
  gd t53 true (fun k => fld 0 t56 w k) w fun t57 _ =>
  gd t53 true (fun k => ld1 t57 w k) w fun t58 _ =>
  gd t53 true (fun k => bi .eql .i64 t58 (Value.int IntKind.i64 1) w k) w fun t59 _ =>
  pk t53 t59 (Value.bool false) w fun t60 _ =>
  gd t60 true (fun k => k t36 w) w fun t62 _ =>
  gd t60 true (fun k => ixS 8 t62 (Value.int IntKind.i64 0) w k) w fun t63 _ =>
  gd t60 true (fun k => fld 1 t63 w k) w fun t64 _ =>
  gd t60 true (fun k => ldN 6 t64 w k) w fun t65 _ =>
  gd t60 true (fun k => k t28 w) w fun t66 _ =>
  gd t60 true (fun k => ixS 8 t66 (Value.int IntKind.i64 0) w k) w fun t67 _ =>
  gd t60 true (fun k => fld 1 t67 w k) w fun t68 _ =>
  gd t60 true (fun k => ldN 6 t68 w k) w fun t69 _ =>
  gd t60 true (fun k => bO prog .eql 37 (Operand.tmp 65) (Operand.tmp 69) t65 t69 w k) w fun t70 w =>
  pk t60 t70 (Value.bool false) w fun t71 _ =>
  gd t71 true (fun k => k t11 w) w fun t73 _ =>
  gd t71 true (fun k => Cl prog 17 #[t73] w k) w fun t74 w =>
  gd t71 true (fun k => lnS t74 w k) w fun t75 _ =>
  gd t71 true (fun k => bi .eql .i64 t75 (Value.int IntKind.i64 2) w k) w fun t76 _ =>
  pk t71 t76 (Value.bool false) w fun t77 _ =>
  K t77 w)
theorem pacelinelaw15_shown_calls {w : World} {K : KV} (h : pacelinelaw15_shown w K) : Cl prog 10 #[] w K :=
  Cl.mk (by kernel_rfl) (calls_of_F (fn := fn10) (nt := 78) (rs := [0]) mixed fnAt10 (by kernel_rfl) (by kernel_rfl) (by kernel_rfl) (Nat.le_of_ble_eq_true (by kernel_rfl)) (by kernel_rfl) (by kernel_rfl) h)

def pacelinelaw15_bold (w : World) (K : KV) : Prop :=
  al (zeroD prog 27) 27 w fun t0 w =>
  bld (zeroD prog 87) #[(0, 1), (1, 1), (2, 1)] [(0, (Value.int IntKind.i64 1)), (1, (Value.int IntKind.i64 2)), (2, (Value.int IntKind.i64 1))] w fun t2 w =>
  bsl 87 3 1 (zeroD prog 87) [(0, t2)] w fun t3 w =>
  bld (zeroD prog 89) #[(0, 1), (1, 1), (2, 1), (3, 1)] [(0, (Value.int IntKind.i64 0)), (1, (Value.int IntKind.i64 0)), (2, (Value.int IntKind.i64 1)), (3, t3)] w fun t4 w =>
  bld (zeroD prog 87) #[(0, 1), (1, 1), (2, 1)] [(0, (Value.int IntKind.i64 1)), (1, (Value.int IntKind.i64 3)), (2, (Value.int IntKind.i64 5))] w fun t5 w =>
  bld (zeroD prog 87) #[(0, 1), (1, 1), (2, 1)] [(0, (Value.int IntKind.i64 1)), (1, (Value.int IntKind.i64 4)), (2, (Value.int IntKind.i64 7))] w fun t6 w =>
  bsl 87 3 2 (zeroD prog 87) [(0, t5), (1, t6)] w fun t7 w =>
  bld (zeroD prog 89) #[(0, 1), (1, 1), (2, 1), (3, 1)] [(0, (Value.int IntKind.i64 1)), (1, (Value.int IntKind.i64 0)), (2, (Value.int IntKind.i64 0)), (3, t7)] w fun t8 w =>
  bsl 89 4 2 (zeroD prog 89) [(0, t4), (1, t8)] w fun t9 w =>
  bsl 3 1 2 (zeroD prog 3) [(0, (Value.int IntKind.i64 (-1))), (1, (Value.int IntKind.i64 (-1)))] w fun t10 w =>
  bsl 3 1 1 (zeroD prog 3) [(0, (Value.int IntKind.i64 1))] w fun t12 w =>
  bsl 3 1 1 (zeroD prog 3) [(0, (Value.int IntKind.i64 0))] w fun t13 w =>
  bld (zeroD prog 66) #[(0, 1), (1, 1), (2, 1), (3, 1), (4, 1), (5, 1), (6, 1)] [(0, (Value.int IntKind.i64 1)), (1, (Value.int IntKind.i64 2)), (3, t9), (4, t12), (5, t13)] w fun t14 w =>
  bsl 3 1 1 (zeroD prog 3) [(0, (Value.int IntKind.i64 0))] w fun t15 w =>
  bsl 3 1 1 (zeroD prog 3) [(0, (Value.int IntKind.i64 1))] w fun t16 w =>
  bld (zeroD prog 66) #[(0, 1), (1, 1), (2, 1), (3, 1), (4, 1), (5, 1), (6, 1)] [(0, (Value.int IntKind.i64 1)), (1, (Value.int IntKind.i64 1)), (4, t15), (5, t16)] w fun t17 w =>
  bsl 3 1 1 (zeroD prog 3) [(0, (Value.int IntKind.i64 0))] w fun t18 w =>
  bsl 3 1 1 (zeroD prog 3) [(0, (Value.int IntKind.i64 1))] w fun t19 w =>
  bld (zeroD prog 66) #[(0, 1), (1, 1), (2, 1), (3, 1), (4, 1), (5, 1), (6, 1)] [(0, (Value.int IntKind.i64 0)), (1, (Value.int IntKind.i64 1)), (4, t18), (5, t19)] w fun t20 w =>
  bsl 66 7 3 (zeroD prog 66) [(0, t14), (1, t17), (2, t20)] w fun t21 w =>
  bld (zeroD prog 27) #[(0, 1), (1, 1), (2, 1)] [(0, t10), (2, (Value.int IntKind.i64 200)), (1, t21)] w fun t22 w =>
  stN 3 t0 t22 w fun _ w =>
  ldN 3 t0 w fun r0 _ =>
  K r0 w
theorem pacelinelaw15_bold_calls {w : World} {K : KV} (h : pacelinelaw15_bold w K) : Cl prog 11 #[] w K :=
  Cl.mk (by kernel_rfl) (calls_of_FC (fn := fn11) (nt := 23) (rs := [(0, some 27)]) mixed fnAt11 (by kernel_rfl) (by kernel_rfl) (by kernel_rfl) (Nat.le_of_ble_eq_true (by kernel_rfl)) (by kernel_rfl) (by kernel_rfl) h)

def warp_New (t0 t1 : Value) (w : World) (K : KV) : Prop :=
  al (Value.cells t0) 27 w fun t2 w =>
  ldN 3 t2 w fun t12 w =>
  Cl prog 42 #[t12] w fun t13 w =>
  xt 0 t13 w fun _ w =>
  xt 1 t13 w fun t15 w =>
  bi .neq .i64 t15 (Value.int IntKind.i64 0) w fun t17 w =>
  iff' t17
  (K (Value.tuple #[(Value.pointer none), t15]) w)
  (bi .lss .i64 t1 (Value.int IntKind.i64 0) w fun t20 w =>
  gd t20 false (fun k => k t1 w) w fun t22 w =>
  gd t20 false (fun k => fld 1 t2 w k) w fun t23 w =>
  gd t20 false (fun k => ld1 t23 w k) w fun t24 w =>
  gd t20 false (fun k => lnS t24 w k) w fun t25 w =>
  gd t20 false (fun k => bi .geq .i64 t22 t25 w k) w fun t26 w =>
  pk t20 (Value.bool true) t26 w fun t27 w =>
  gd t27 false (fun k => fld 1 t2 w k) w fun t29 w =>
  gd t27 false (fun k => ld1 t29 w k) w fun t30 w =>
  gd t27 false (fun k => k t1 w) w fun t31 w =>
  gd t27 false (fun k => ixS 7 t30 t31 w k) w fun t32 w =>
  gd t27 false (fun k => fld 0 t32 w k) w fun t33 w =>
  gd t27 false (fun k => ld1 t33 w k) w fun t34 w =>
  gd t27 false (fun k => bi .neq .i64 t34 (Value.int IntKind.i64 1) w k) w fun t35 w =>
  pk t27 (Value.bool true) t35 w fun t36 w =>
  iff' t36
  (K (Value.tuple #[(Value.pointer none), (Value.int IntKind.i64 1)]) w)
  (dr w fun w =>
  ldN 3 t2 w fun t37 _ =>
  fld 1 t2 w fun t40 _ =>
  ld1 t40 w fun t41 _ =>
  ixS 7 t41 t1 w fun t43 _ =>
  fld 2 t43 w fun t44 _ =>
  ld1 t44 w fun t45 _ =>
  fld 1 t2 w fun t46 _ =>
  ld1 t46 w fun t47 _ =>
  ixS 7 t47 t1 w fun t49 _ =>
  fld 6 t49 w fun t50 _ =>
  ld1 t50 w fun t51 _ =>
  lnS t51 w fun t52 _ =>
  (Cl prog 43 #[t37] w fun t38 w =>
  (ld1 t50 w (fun v' w'' => v' = t51 ∧ w'' = w)) ∧ ((ld1 t46 w (fun v' w'' => v' = t47 ∧ w'' = w)) ∧ ((ld1 t44 w (fun v' w'' => v' = t45 ∧ w'' = w)) ∧ ((ld1 t40 w (fun v' w'' => v' = t41 ∧ w'' = w)) ∧ ((Cl prog 44 #[(Value.int IntKind.i64 64)] w fun t53 w =>
  (ld1 t50 w (fun v' w'' => v' = t51 ∧ w'' = w)) ∧ ((ld1 t46 w (fun v' w'' => v' = t47 ∧ w'' = w)) ∧ ((ld1 t44 w (fun v' w'' => v' = t45 ∧ w'' = w)) ∧ ((ld1 t40 w (fun v' w'' => v' = t41 ∧ w'' = w)) ∧ ((Cl prog 45 #[] w fun t54 w =>
  (ld1 t50 w (fun v' w'' => v' = t51 ∧ w'' = w)) ∧ ((ld1 t46 w (fun v' w'' => v' = t47 ∧ w'' = w)) ∧ ((ld1 t44 w (fun v' w'' => v' = t45 ∧ w'' = w)) ∧ ((ld1 t40 w (fun v' w'' => v' = t41 ∧ w'' = w)) ∧ ((Cl prog 46 #[] w fun t55 w =>
  (ld1 t50 w (fun v' w'' => v' = t51 ∧ w'' = w)) ∧ ((ld1 t46 w (fun v' w'' => v' = t47 ∧ w'' = w)) ∧ ((ld1 t44 w (fun v' w'' => v' = t45 ∧ w'' = w)) ∧ ((ld1 t40 w (fun v' w'' => v' = t41 ∧ w'' = w)) ∧ (mkMap w fun t56 w =>
  (ld1 t50 w (fun v' w'' => v' = t51 ∧ w'' = w)) ∧ ((ld1 t46 w (fun v' w'' => v' = t47 ∧ w'' = w)) ∧ ((ld1 t44 w (fun v' w'' => v' = t45 ∧ w'' = w)) ∧ ((ld1 t40 w (fun v' w'' => v' = t41 ∧ w'' = w)) ∧ ((ldN 3 t2 w (fun v' w'' => v' = t37 ∧ w'' = w)) ∧ (bld (zeroD prog 101) #[(0, 3), (3, 1), (4, 1), (5, 1), (6, 1), (7, 1), (8, 1), (9, 1), (10, 1)] [(0, t38), (1, t1), (2, t45), (3, t52), (4, t53), (5, t54), (6, t55), (7, t56)] w fun t57 w =>
  al (Value.cells t57) 101 w fun t58 w =>
  fld 1 t2 w fun t59 w =>
  ld1 t59 w fun t60 w =>
  lnS t60 w fun t61 w =>
  lp [(Value.int IntKind.i64 0)] w (b1 fun t62 w g1 =>
  bi .lss .i64 t62 t61 w fun t63 w =>
  iff' t63
  (J0 (fun w =>
  bi .add .i64 t62 (Value.int IntKind.i64 1) w fun t75 w =>
  g1 [t75] w) fun k2 =>
  ixS 7 t60 t62 w fun t65 w =>
  ldN 7 t65 w fun t66 w =>
  al (zeroD prog 66) 66 w fun t10 w =>
  stN 7 t10 t66 w fun _ w =>
  fld 0 t10 w fun t67 w =>
  ld1 t67 w fun t68 w =>
  bi .eql .i64 t68 (Value.int IntKind.i64 0) w fun t69 w =>
  iff' t69
  (ncP t58 <|
  fld 9 t58 w fun t72 w =>
  ld1 t72 w fun t73 w =>
  upM prog 99 t73 t62 (Value.int IntKind.i64 0) w fun _ w =>
  k2 w)
  (k2 w))
  (K (Value.tuple #[t58, (Value.int IntKind.i64 0)]) w)))))))))))) ∧ (mkMap w fun t56_1 w =>
  (ld1 t50 w (fun v' w'' => v' = t51 ∧ w'' = w)) ∧ ((ld1 t46 w (fun v' w'' => v' = t47 ∧ w'' = w)) ∧ ((ld1 t44 w (fun v' w'' => v' = t45 ∧ w'' = w)) ∧ ((ld1 t40 w (fun v' w'' => v' = t41 ∧ w'' = w)) ∧ ((ldN 3 t2 w (fun v' w'' => v' = t37 ∧ w'' = w)) ∧ (Cl prog 46 #[] w fun t55_1 w =>
  (ld1 t50 w (fun v' w'' => v' = t51 ∧ w'' = w)) ∧ ((ld1 t46 w (fun v' w'' => v' = t47 ∧ w'' = w)) ∧ ((ld1 t44 w (fun v' w'' => v' = t45 ∧ w'' = w)) ∧ ((ld1 t40 w (fun v' w'' => v' = t41 ∧ w'' = w)) ∧ (bld (zeroD prog 101) #[(0, 3), (3, 1), (4, 1), (5, 1), (6, 1), (7, 1), (8, 1), (9, 1), (10, 1)] [(0, t38), (1, t1), (2, t45), (3, t52), (4, t53), (5, t54), (6, t55_1), (7, t56_1)] w fun t57_1 w =>
  al (Value.cells t57_1) 101 w fun t58_1 w =>
  fld 1 t2 w fun t59_1 w =>
  ld1 t59_1 w fun t60_1 w =>
  lnS t60_1 w fun t61_1 w =>
  lp [(Value.int IntKind.i64 0)] w (b1 fun t62_1 w g3 =>
  bi .lss .i64 t62_1 t61_1 w fun t63_1 w =>
  iff' t63_1
  (J0 (fun w =>
  bi .add .i64 t62_1 (Value.int IntKind.i64 1) w fun t75_1 w =>
  g3 [t75_1] w) fun k4 =>
  ixS 7 t60_1 t62_1 w fun t65_1 w =>
  ldN 7 t65_1 w fun t66_1 w =>
  al (zeroD prog 66) 66 w fun t10_1 w =>
  stN 7 t10_1 t66_1 w fun _ w =>
  fld 0 t10_1 w fun t67_1 w =>
  ld1 t67_1 w fun t68_1 w =>
  bi .eql .i64 t68_1 (Value.int IntKind.i64 0) w fun t69_1 w =>
  iff' t69_1
  (ncP t58_1 <|
  fld 9 t58_1 w fun t72_1 w =>
  ld1 t72_1 w fun t73_1 w =>
  upM prog 99 t73_1 t62_1 (Value.int IntKind.i64 0) w fun _ w =>
  k4 w)
  (k4 w))
  (K (Value.tuple #[t58_1, (Value.int IntKind.i64 0)]) w))))))))))))))))) ∧ (mkMap w fun t56_2 w =>
  (ld1 t50 w (fun v' w'' => v' = t51 ∧ w'' = w)) ∧ ((ld1 t46 w (fun v' w'' => v' = t47 ∧ w'' = w)) ∧ ((ld1 t44 w (fun v' w'' => v' = t45 ∧ w'' = w)) ∧ ((ld1 t40 w (fun v' w'' => v' = t41 ∧ w'' = w)) ∧ ((ldN 3 t2 w (fun v' w'' => v' = t37 ∧ w'' = w)) ∧ (Cl prog 45 #[] w fun t54_1 w =>
  (ld1 t50 w (fun v' w'' => v' = t51 ∧ w'' = w)) ∧ ((ld1 t46 w (fun v' w'' => v' = t47 ∧ w'' = w)) ∧ ((ld1 t44 w (fun v' w'' => v' = t45 ∧ w'' = w)) ∧ ((ld1 t40 w (fun v' w'' => v' = t41 ∧ w'' = w)) ∧ (Cl prog 46 #[] w fun t55_2 w =>
  (ld1 t50 w (fun v' w'' => v' = t51 ∧ w'' = w)) ∧ ((ld1 t46 w (fun v' w'' => v' = t47 ∧ w'' = w)) ∧ ((ld1 t44 w (fun v' w'' => v' = t45 ∧ w'' = w)) ∧ ((ld1 t40 w (fun v' w'' => v' = t41 ∧ w'' = w)) ∧ (bld (zeroD prog 101) #[(0, 3), (3, 1), (4, 1), (5, 1), (6, 1), (7, 1), (8, 1), (9, 1), (10, 1)] [(0, t38), (1, t1), (2, t45), (3, t52), (4, t53), (5, t54_1), (6, t55_2), (7, t56_2)] w fun t57_2 w =>
  al (Value.cells t57_2) 101 w fun t58_2 w =>
  fld 1 t2 w fun t59_2 w =>
  ld1 t59_2 w fun t60_2 w =>
  lnS t60_2 w fun t61_2 w =>
  lp [(Value.int IntKind.i64 0)] w (b1 fun t62_2 w g5 =>
  bi .lss .i64 t62_2 t61_2 w fun t63_2 w =>
  iff' t63_2
  (J0 (fun w =>
  bi .add .i64 t62_2 (Value.int IntKind.i64 1) w fun t75_2 w =>
  g5 [t75_2] w) fun k6 =>
  ixS 7 t60_2 t62_2 w fun t65_2 w =>
  ldN 7 t65_2 w fun t66_2 w =>
  al (zeroD prog 66) 66 w fun t10_2 w =>
  stN 7 t10_2 t66_2 w fun _ w =>
  fld 0 t10_2 w fun t67_2 w =>
  ld1 t67_2 w fun t68_2 w =>
  bi .eql .i64 t68_2 (Value.int IntKind.i64 0) w fun t69_2 w =>
  iff' t69_2
  (ncP t58_2 <|
  fld 9 t58_2 w fun t72_2 w =>
  ld1 t72_2 w fun t73_2 w =>
  upM prog 99 t73_2 t62_2 (Value.int IntKind.i64 0) w fun _ w =>
  k6 w)
  (k6 w))
  (K (Value.tuple #[t58_2, (Value.int IntKind.i64 0)]) w))))))))))))))))))))) ∧ (mkMap w fun t56_3 w =>
  (ld1 t50 w (fun v' w'' => v' = t51 ∧ w'' = w)) ∧ ((ld1 t46 w (fun v' w'' => v' = t47 ∧ w'' = w)) ∧ ((ld1 t44 w (fun v' w'' => v' = t45 ∧ w'' = w)) ∧ ((ld1 t40 w (fun v' w'' => v' = t41 ∧ w'' = w)) ∧ ((ldN 3 t2 w (fun v' w'' => v' = t37 ∧ w'' = w)) ∧ (Cl prog 44 #[(Value.int IntKind.i64 64)] w fun t53_1 w =>
  (ld1 t50 w (fun v' w'' => v' = t51 ∧ w'' = w)) ∧ ((ld1 t46 w (fun v' w'' => v' = t47 ∧ w'' = w)) ∧ ((ld1 t44 w (fun v' w'' => v' = t45 ∧ w'' = w)) ∧ ((ld1 t40 w (fun v' w'' => v' = t41 ∧ w'' = w)) ∧ (Cl prog 45 #[] w fun t54_2 w =>
  (ld1 t50 w (fun v' w'' => v' = t51 ∧ w'' = w)) ∧ ((ld1 t46 w (fun v' w'' => v' = t47 ∧ w'' = w)) ∧ ((ld1 t44 w (fun v' w'' => v' = t45 ∧ w'' = w)) ∧ ((ld1 t40 w (fun v' w'' => v' = t41 ∧ w'' = w)) ∧ (Cl prog 46 #[] w fun t55_3 w =>
  (ld1 t50 w (fun v' w'' => v' = t51 ∧ w'' = w)) ∧ ((ld1 t46 w (fun v' w'' => v' = t47 ∧ w'' = w)) ∧ ((ld1 t44 w (fun v' w'' => v' = t45 ∧ w'' = w)) ∧ ((ld1 t40 w (fun v' w'' => v' = t41 ∧ w'' = w)) ∧ (bld (zeroD prog 101) #[(0, 3), (3, 1), (4, 1), (5, 1), (6, 1), (7, 1), (8, 1), (9, 1), (10, 1)] [(0, t38), (1, t1), (2, t45), (3, t52), (4, t53_1), (5, t54_2), (6, t55_3), (7, t56_3)] w fun t57_3 w =>
  al (Value.cells t57_3) 101 w fun t58_3 w =>
  fld 1 t2 w fun t59_3 w =>
  ld1 t59_3 w fun t60_3 w =>
  lnS t60_3 w fun t61_3 w =>
  lp [(Value.int IntKind.i64 0)] w (b1 fun t62_3 w g7 =>
  bi .lss .i64 t62_3 t61_3 w fun t63_3 w =>
  iff' t63_3
  (J0 (fun w =>
  bi .add .i64 t62_3 (Value.int IntKind.i64 1) w fun t75_3 w =>
  g7 [t75_3] w) fun k8 =>
  ixS 7 t60_3 t62_3 w fun t65_3 w =>
  ldN 7 t65_3 w fun t66_3 w =>
  al (zeroD prog 66) 66 w fun t10_3 w =>
  stN 7 t10_3 t66_3 w fun _ w =>
  fld 0 t10_3 w fun t67_3 w =>
  ld1 t67_3 w fun t68_3 w =>
  bi .eql .i64 t68_3 (Value.int IntKind.i64 0) w fun t69_3 w =>
  iff' t69_3
  (ncP t58_3 <|
  fld 9 t58_3 w fun t72_3 w =>
  ld1 t72_3 w fun t73_3 w =>
  upM prog 99 t73_3 t62_3 (Value.int IntKind.i64 0) w fun _ w =>
  k8 w)
  (k8 w))
  (K (Value.tuple #[t58_3, (Value.int IntKind.i64 0)]) w))))))))))))))))))))))))) ∧ (mkMap w fun t56_4 w =>
  (ld1 t50 w (fun v' w'' => v' = t51 ∧ w'' = w)) ∧ ((ld1 t46 w (fun v' w'' => v' = t47 ∧ w'' = w)) ∧ ((ld1 t44 w (fun v' w'' => v' = t45 ∧ w'' = w)) ∧ ((ld1 t40 w (fun v' w'' => v' = t41 ∧ w'' = w)) ∧ ((ldN 3 t2 w (fun v' w'' => v' = t37 ∧ w'' = w)) ∧ (Cl prog 43 #[t37] w fun t38_1 w =>
  (ld1 t50 w (fun v' w'' => v' = t51 ∧ w'' = w)) ∧ ((ld1 t46 w (fun v' w'' => v' = t47 ∧ w'' = w)) ∧ ((ld1 t44 w (fun v' w'' => v' = t45 ∧ w'' = w)) ∧ ((ld1 t40 w (fun v' w'' => v' = t41 ∧ w'' = w)) ∧ (Cl prog 44 #[(Value.int IntKind.i64 64)] w fun t53_2 w =>
  (ld1 t50 w (fun v' w'' => v' = t51 ∧ w'' = w)) ∧ ((ld1 t46 w (fun v' w'' => v' = t47 ∧ w'' = w)) ∧ ((ld1 t44 w (fun v' w'' => v' = t45 ∧ w'' = w)) ∧ ((ld1 t40 w (fun v' w'' => v' = t41 ∧ w'' = w)) ∧ (Cl prog 45 #[] w fun t54_3 w =>
  (ld1 t50 w (fun v' w'' => v' = t51 ∧ w'' = w)) ∧ ((ld1 t46 w (fun v' w'' => v' = t47 ∧ w'' = w)) ∧ ((ld1 t44 w (fun v' w'' => v' = t45 ∧ w'' = w)) ∧ ((ld1 t40 w (fun v' w'' => v' = t41 ∧ w'' = w)) ∧ (Cl prog 46 #[] w fun t55_4 w =>
  (ld1 t50 w (fun v' w'' => v' = t51 ∧ w'' = w)) ∧ ((ld1 t46 w (fun v' w'' => v' = t47 ∧ w'' = w)) ∧ ((ld1 t44 w (fun v' w'' => v' = t45 ∧ w'' = w)) ∧ ((ld1 t40 w (fun v' w'' => v' = t41 ∧ w'' = w)) ∧ (bld (zeroD prog 101) #[(0, 3), (3, 1), (4, 1), (5, 1), (6, 1), (7, 1), (8, 1), (9, 1), (10, 1)] [(0, t38_1), (1, t1), (2, t45), (3, t52), (4, t53_2), (5, t54_3), (6, t55_4), (7, t56_4)] w fun t57_4 w =>
  al (Value.cells t57_4) 101 w fun t58_4 w =>
  fld 1 t2 w fun t59_4 w =>
  ld1 t59_4 w fun t60_4 w =>
  lnS t60_4 w fun t61_4 w =>
  lp [(Value.int IntKind.i64 0)] w (b1 fun t62_4 w g9 =>
  bi .lss .i64 t62_4 t61_4 w fun t63_4 w =>
  iff' t63_4
  (J0 (fun w =>
  bi .add .i64 t62_4 (Value.int IntKind.i64 1) w fun t75_4 w =>
  g9 [t75_4] w) fun k10 =>
  ixS 7 t60_4 t62_4 w fun t65_4 w =>
  ldN 7 t65_4 w fun t66_4 w =>
  al (zeroD prog 66) 66 w fun t10_4 w =>
  stN 7 t10_4 t66_4 w fun _ w =>
  fld 0 t10_4 w fun t67_4 w =>
  ld1 t67_4 w fun t68_4 w =>
  bi .eql .i64 t68_4 (Value.int IntKind.i64 0) w fun t69_4 w =>
  iff' t69_4
  (ncP t58_4 <|
  fld 9 t58_4 w fun t72_4 w =>
  ld1 t72_4 w fun t73_4 w =>
  upM prog 99 t73_4 t62_4 (Value.int IntKind.i64 0) w fun _ w =>
  k10 w)
  (k10 w))
  (K (Value.tuple #[t58_4, (Value.int IntKind.i64 0)]) w))))))))))))))))))))))))))
theorem warp_New_calls {t0 t1 : Value} {w : World} {K : KV} (h : warp_New t0 t1 w K) : Cl prog 12 #[t0, t1] w K :=
  Cl.mk (by kernel_rfl) (calls_of_F (fn := fn12) (nt := 77) (rs := [4, 5]) mixed fnAt12 (by kernel_rfl) (by kernel_rfl) (by kernel_rfl) (Nat.le_of_ble_eq_true (by kernel_rfl)) (by kernel_rfl) (by kernel_rfl) h)

def pacelineref03_Insert (t0 t1 : Value) (w : World) (K : KV) : Prop :=
  al (Value.cells t1) 37 w fun t3 w =>
  bsl 37 6 0 #[] [] w fun t8 w =>
  lp [t8, (Value.bool false), (Value.int IntKind.i64 0)] w (b3 fun t5 t6 t7 w g1 =>
  lnS t0 w fun t11 w =>
  bi .lss .i64 t7 t11 w fun t12 w =>
  iff' t12
  (dr w fun w =>
  bnot t6 w fun t16 _ =>
  gd t16 true (fun k => fld 0 t3 w k) w fun t18 _ =>
  gd t16 true (fun k => ldN 3 t18 w k) w fun t19 _ =>
  gd t16 true (fun k => k t0 w) w fun t20 _ =>
  gd t16 true (fun k => k t7 w) w fun t21 _ =>
  gd t16 true (fun k => ixS 6 t20 t21 w k) w fun t22 _ =>
  gd t16 true (fun k => fld 0 t22 w k) w fun t23 _ =>
  gd t16 true (fun k => ldN 3 t23 w k) w fun t24 _ =>
  gd t16 true (fun k => Cl prog 29 #[t19, t24] w k) w fun t25 w =>
  gd t16 true (fun k => bi .lss .i64 t25 (Value.int IntKind.i64 0) w k) w fun t26 _ =>
  pk t16 t26 (Value.bool false) w fun t27 _ =>
  J2 (fun t5_1 t6_1 w =>
  ixS 6 t0 t7 w fun t35 w =>
  ldN 6 t35 w fun t36 w =>
  bsl 37 6 1 (zeroD prog 37) [(0, t36)] w fun t37 w =>
  apS prog #[33, 33] 33 t5_1 t37 w fun t38 w =>
  bi .add .i64 t7 (Value.int IntKind.i64 1) w fun t14 w =>
  g1 [t38, t6_1, t14] w) fun k2 =>
  iff' t27
  (ldN 6 t3 w fun t29 w =>
  bsl 37 6 1 (zeroD prog 37) [(0, t29)] w fun t30 w =>
  apS prog #[33, 33] 33 t5 t30 w fun t31 w =>
  k2 t31 (Value.bool true) w)
  (k2 t5 t6 w))
  (bnot t6 w fun t40 w =>
  J1 (fun t5_2 w =>
  K t5_2 w) fun k3 =>
  iff' t40
  (ldN 6 t3 w fun t42 w =>
  bsl 37 6 1 (zeroD prog 37) [(0, t42)] w fun t43 w =>
  apS prog #[33, 33] 33 t5 t43 w fun t44 w =>
  k3 t44 w)
  (k3 t5 w)))
theorem pacelineref03_Insert_calls {t0 t1 : Value} {w : World} {K : KV} (h : pacelineref03_Insert t0 t1 w K) : Cl prog 13 #[t0, t1] w K :=
  Cl.mk (by kernel_rfl) (calls_of_F (fn := fn13) (nt := 46) (rs := [4]) mixed fnAt13 (by kernel_rfl) (by kernel_rfl) (by kernel_rfl) (Nat.le_of_ble_eq_true (by kernel_rfl)) (by kernel_rfl) (by kernel_rfl) h)

def warp_Node_Hear (t0 t1 t2 : Value) (w : World) (K : KV) : Prop :=
  al (Value.cells t2) 43 w fun t5 w =>
  bi .lss .i64 t1 (Value.int IntKind.i64 0) w fun t15 w =>
  gd t15 false (fun k => k t1 w) w fun t17 w =>
  gd t15 false (fun k => k t0 w) w fun t18 w =>
  gd t15 false (fun k => nc t18 w k) w fun t19 w =>
  gd t15 false (fun k => fld 0 t19 w k) w fun t20 w =>
  gd t15 false (fun k => fld 1 t20 w k) w fun t21 w =>
  gd t15 false (fun k => ld1 t21 w k) w fun t22 w =>
  gd t15 false (fun k => lnS t22 w k) w fun t23 w =>
  gd t15 false (fun k => bi .geq .i64 t17 t23 w k) w fun t24 w =>
  pk t15 (Value.bool true) t24 w fun t25 w =>
  gd t25 false (fun k => k t1 w) w fun t27 w =>
  gd t25 false (fun k => k t0 w) w fun t28 w =>
  gd t25 false (fun k => nc t28 w k) w fun t29 w =>
  gd t25 false (fun k => fld 3 t29 w k) w fun t30 w =>
  gd t25 false (fun k => ld1 t30 w k) w fun t31 w =>
  gd t25 false (fun k => bi .eql .i64 t27 t31 w k) w fun t32 w =>
  pk t25 (Value.bool true) t32 w fun t33 w =>
  iff' t33
  (K (Value.tuple #[(Value.slice none 0 0), (Value.int IntKind.i64 1)]) w)
  (ncP t0 <|
  fld 9 t0 w fun t37 w =>
  ld1 t37 w fun t38 w =>
  lkM prog 99 t38 t1 true w fun t40 w =>
  xt 0 t40 w fun t41 w =>
  xt 1 t40 w fun t42 w =>
  fld 0 t5 w fun t43 w =>
  ld1 t43 w fun t44 w =>
  J2 (fun t8 t9 w =>
  Cl prog 50 #[t9] w fun t91 w =>
  K (Value.tuple #[t8, t91]) w) fun k1 =>
  J0 (fun w =>
  fld 0 t5 w fun t76 w =>
  ld1 t76 w fun t77 w =>
  bi .eql .i64 t77 (Value.int IntKind.i64 1) w fun t78 w =>
  J1 (fun t13 w =>
  fld 1 t5 w fun t84 w =>
  ldN 6 t84 w fun t85 w =>
  clV prog t13 #[t1, t85] w fun t86 w =>
  xt 0 t86 w fun t87 w =>
  xt 1 t86 w fun t88 w =>
  k1 t87 t88 w) fun k3 =>
  iff' t78
  (k3 (Value.func (Fn.func 49) #[t0] #[]) w)
  (k3 (Value.func (Fn.func 48) #[t0] #[]) w)) fun k2 =>
  bi .eql .i64 t44 (Value.int IntKind.i64 2) w fun t46 w =>
  iff' t46
  (fld 1 t5 w fun t51 w =>
  fld 0 t51 w fun t52 w =>
  fld 0 t52 w fun t53 w =>
  ld1 t53 w fun t54 w =>
  bnot t42 w fun t57 w =>
  gd t57 false (fun k => k t54 w) w fun t59 w =>
  gd t57 false (fun k => Cl prog 47 #[t59] w k) w fun t60 w =>
  gd t57 false (fun k => bnot t60 w k) w fun t61 w =>
  pk t57 (Value.bool true) t61 w fun t62 w =>
  iff' t62
  (K (Value.tuple #[(Value.slice none 0 0), (Value.int IntKind.i64 1)]) w)
  (bi .lss .i64 t54 t41 w fun t66 w =>
  iff' t66
  (K (Value.tuple #[(Value.slice none 0 0), (Value.int IntKind.i64 110)]) w)
  (ncP t0 <|
  fld 9 t0 w fun t69 w =>
  ld1 t69 w fun t70 w =>
  upM prog 99 t70 t1 t54 w fun _ w =>
  K (Value.tuple #[(Value.slice none 0 0), (Value.int IntKind.i64 0)]) w)))
  (bi .eql .i64 t44 (Value.int IntKind.i64 1) w fun t48 w =>
  iff' t48
  (iff' t42
  (K (Value.tuple #[(Value.slice none 0 0), (Value.int IntKind.i64 1)]) w)
  (k2 w))
  (bi .eql .i64 t44 (Value.int IntKind.i64 0) w fun t50 w =>
  iff' t50
  (k2 w)
  (K (Value.tuple #[(Value.slice none 0 0), (Value.int IntKind.i64 130)]) w))))
theorem warp_Node_Hear_calls {t0 t1 t2 : Value} {w : World} {K : KV} (h : warp_Node_Hear t0 t1 t2 w K) : Cl prog 14 #[t0, t1, t2] w K :=
  Cl.mk (by kernel_rfl) (calls_of_F (fn := fn14) (nt := 92) (rs := [6, 7]) mixed fnAt14 (by kernel_rfl) (by kernel_rfl) (by kernel_rfl) (Nat.le_of_ble_eq_true (by kernel_rfl)) (by kernel_rfl) (by kernel_rfl) h)

def warp_Node_Step (t0 : Value) (w : World) (K : KV) : Prop :=
  al (zeroD prog 45) 45 w fun t2 w =>
  ncP t0 <|
  fld 6 t0 w fun t16 w =>
  ld1 t16 w fun t17 w =>
  Cl prog 51 #[t17] w fun t18 w =>
  xt 0 t18 w fun t19 w =>
  xt 1 t18 w fun t20 w =>
  al (zeroD prog 37) 37 w fun t5 w =>
  stN 6 t5 t19 w fun _ w =>
  dr w fun w =>
  bnot t20 w fun t23 _ =>
  gd t23 false (fun k => fld 0 t5 w k) w fun t25 _ =>
  gd t23 false (fun k => fld 0 t25 w k) w fun t26 _ =>
  gd t23 false (fun k => ld1 t26 w k) w fun t27 _ =>
  gd t23 false (fun k => k t0 w) w fun t28 _ =>
  gd t23 false (fun k => nc t28 w k) w fun t29 _ =>
  gd t23 false (fun k => fld 0 t29 w k) w fun t30 _ =>
  gd t23 false (fun k => fld 2 t30 w k) w fun t31 _ =>
  gd t23 false (fun k => ld1 t31 w k) w fun t32 _ =>
  gd t23 false (fun k => bi .geq .i64 t27 t32 w k) w fun t33 _ =>
  pk t23 (Value.bool true) t33 w fun t34 _ =>
  iff' t34
  (bld (zeroD prog 45) #[(0, 6), (6, 1)] [] w fun t35 w =>
  stN 7 t2 t35 w fun _ w =>
  ldN 7 t2 w fun r0 _ =>
  K (Value.tuple #[r0, (Value.slice none 0 0), (Value.int IntKind.i64 150)]) w)
  (ncP t0 <|
  fld 7 t0 w fun t39 w =>
  ld1 t39 w fun t40 w =>
  Cl prog 52 #[t40] w fun t41 w =>
  bi .geq .i64 t41 (Value.int IntKind.i64 64) w fun t42 w =>
  gd t42 false (fun k => k t0 w) w fun t44 w =>
  gd t42 false (fun k => nc t44 w k) w fun t45 w =>
  gd t42 false (fun k => fld 8 t45 w k) w fun t46 w =>
  gd t42 false (fun k => ld1 t46 w k) w fun t47 w =>
  gd t42 false (fun k => Cl prog 53 #[t47] w k) w fun t48 w =>
  gd t42 false (fun k => lnS t48 w k) w fun t49 w =>
  gd t42 false (fun k => bi .gtr .i64 t49 (Value.int IntKind.i64 192) w k) w fun t50 w =>
  pk t42 (Value.bool true) t50 w fun t51 w =>
  iff' t51
  (bld (zeroD prog 45) #[(0, 6), (6, 1)] [] w fun t52 w =>
  stN 7 t2 t52 w fun _ w =>
  ldN 7 t2 w fun r0 _ =>
  K (Value.tuple #[r0, (Value.slice none 0 0), (Value.int IntKind.i64 2)]) w)
  (ncP t0 <|
  fld 6 t0 w fun t55 w =>
  ld1 t55 w fun t56 w =>
  Cl prog 54 #[t56] w fun _ w =>
  dr w fun w =>
  ncP t0 <|
  fld 0 t0 w fun t61 _ =>
  fld 1 t61 w fun t62 _ =>
  ld1 t62 w fun t63 _ =>
  ncP t0 <|
  fld 3 t0 w fun t66 _ =>
  ld1 t66 w fun t67 _ =>
  ixS 7 t63 t67 w fun t68 _ =>
  fld 3 t68 w fun t69 _ =>
  ld1 t69 w fun t70 _ =>
  ncP t0 <|
  fld 4 t0 w fun t73 _ =>
  ld1 t73 w fun t74 _ =>
  fld 4 t5 w fun t75 _ =>
  ld1 t75 w fun t76 _ =>
  Cl prog 55 #[t70, t74, t76] w fun t77 w =>
  xt 0 t77 w fun t78 _ =>
  xt 1 t77 w fun t79 _ =>
  dr w fun w =>
  ncP t0 <|
  fld 0 t0 w fun t82 _ =>
  ldN 3 t82 w fun t83 _ =>
  ncP t0 <|
  fld 3 t0 w fun t86 _ =>
  ld1 t86 w fun t87 _ =>
  ncP t0 <|
  fld 5 t0 w fun t90 _ =>
  ld1 t90 w fun t91 _ =>
  fld 0 t5 w fun t92 _ =>
  fld 0 t92 w fun t93 _ =>
  ld1 t93 w fun t94 _ =>
  fld 5 t5 w fun t95 _ =>
  ld1 t95 w fun t96 _ =>
  Cl prog 56 #[t83, t87, t91, t94, t96, t79] w fun t98 w =>
  dr w fun w =>
  ncP t0 <|
  fld 7 t0 w fun t101 _ =>
  ld1 t101 w fun t102 _ =>
  ldN 6 t5 w fun t103 _ =>
  ncP t0 <|
  fld 4 t0 w fun t106 _ =>
  ld1 t106 w fun t107 _ =>
  ncP t0 <|
  fld 5 t0 w fun t110 _ =>
  ld1 t110 w fun t111 _ =>
  bld (zeroD prog 113) #[(0, 6), (6, 1), (7, 1), (8, 1), (9, 1)] [(0, t103), (1, t107), (2, t111), (3, t78), (4, t98)] w fun t114 w =>
  (ld1 t101 w (fun v' w'' => v' = t102 ∧ w'' = w)) ∧ (Cl prog 57 #[t102, t114] w fun _ w =>
  ncP t0 <|
  fld 5 t0 w fun t121 w =>
  ld1 t121 w fun t122 w =>
  lnS t79 w fun t124 w =>
  bi .add .i64 t122 t124 w fun t125 w =>
  ncP t0 <|
  fld 4 t0 w fun t127 w =>
  stN 1 t127 t78 w fun _ w =>
  ncP t0 <|
  fld 5 t0 w fun t129 w =>
  stN 1 t129 t125 w fun _ w =>
  lnS t98 w fun t131 w =>
  lp [(Value.slice none 0 0), (Value.int IntKind.i64 0)] w (b2 fun t10 t132 w g1 =>
  bi .lss .i64 t132 t131 w fun t133 w =>
  iff' t133
  (J1 (fun t10_1 w =>
  bi .add .i64 t132 (Value.int IntKind.i64 1) w fun t153 w =>
  g1 [t10_1, t153] w) fun k2 =>
  ixS 6 t98 t132 w fun t134 w =>
  ldN 6 t134 w fun t135 w =>
  al (zeroD prog 37) 37 w fun t12 w =>
  stN 6 t12 t135 w fun _ w =>
  fld 3 t12 w fun t137 w =>
  ld1 t137 w fun t138 w =>
  Cl prog 58 #[t0, t138] w fun t139 w =>
  iff' t139
  (ldN 6 t12 w fun t141 w =>
  bld (zeroD prog 43) #[(0, 1), (1, 6), (7, 1)] [(1, t141)] w fun t142 w =>
  bsl 43 8 1 (zeroD prog 43) [(0, t142)] w fun t143 w =>
  apS prog #[39, 39] 39 t10 t143 w fun t144 w =>
  k2 t144 w)
  (dr w fun w =>
  ncP t0 <|
  fld 8 t0 w fun t147 _ =>
  ld1 t147 w fun t148 _ =>
  fld 0 t5 w fun t149 _ =>
  ldN 3 t149 w fun t150 _ =>
  ldN 6 t12 w fun t151 _ =>
  Cl prog 59 #[t148, t150, t151] w fun _ w =>
  k2 t10 w))
  (ldN 6 t5 w fun t154 w =>
  bld (zeroD prog 45) #[(0, 6), (6, 1)] [(0, t154), (1, t78)] w fun t156 w =>
  stN 7 t2 t156 w fun _ w =>
  ldN 7 t2 w fun r0 _ =>
  K (Value.tuple #[r0, t10, (Value.int IntKind.i64 0)]) w)))))
theorem warp_Node_Step_calls {t0 : Value} {w : World} {K : KV} (h : warp_Node_Step t0 w K) : Cl prog 15 #[t0] w K :=
  Cl.mk (by kernel_rfl) (calls_of_FC (fn := fn15) (nt := 158) (rs := [(2, some 45), (3, none), (4, none)]) mixed fnAt15 (by kernel_rfl) (by kernel_rfl) (by kernel_rfl) (Nat.le_of_ble_eq_true (by kernel_rfl)) (by kernel_rfl) (by kernel_rfl) h)

def warp_Node_Ahead (t0 : Value) (w : World) (K : KV) : Prop :=
  ncP t0 <|
  fld 7 t0 w fun t5 w =>
  ld1 t5 w fun t6 w =>
  Cl prog 52 #[t6] w fun t7 w =>
  K t7 w
theorem warp_Node_Ahead_calls {t0 : Value} {w : World} {K : KV} (h : warp_Node_Ahead t0 w K) : Cl prog 16 #[t0] w K :=
  Cl.mk (by kernel_rfl) (calls_of_F (fn := fn16) (nt := 8) (rs := [2]) mixed fnAt16 (by kernel_rfl) (by kernel_rfl) (by kernel_rfl) (Nat.le_of_ble_eq_true (by kernel_rfl)) (by kernel_rfl) (by kernel_rfl) h)

def warp_Node_Waiting (t0 : Value) (w : World) (K : KV) : Prop :=
  ncP t0 <|
  fld 6 t0 w fun t5 w =>
  ld1 t5 w fun t6 w =>
  Cl prog 60 #[t6] w fun t7 w =>
  K t7 w
theorem warp_Node_Waiting_calls {t0 : Value} {w : World} {K : KV} (h : warp_Node_Waiting t0 w K) : Cl prog 17 #[t0] w K :=
  Cl.mk (by kernel_rfl) (calls_of_F (fn := fn17) (nt := 8) (rs := [2]) mixed fnAt17 (by kernel_rfl) (by kernel_rfl) (by kernel_rfl) (Nat.le_of_ble_eq_true (by kernel_rfl)) (by kernel_rfl) (by kernel_rfl) h)

def warp_Node_State (t0 : Value) (w : World) (K : KV) : Prop :=
  ncP t0 <|
  fld 4 t0 w fun t5 w =>
  ld1 t5 w fun t6 w =>
  K t6 w
theorem warp_Node_State_calls {t0 : Value} {w : World} {K : KV} (h : warp_Node_State t0 w K) : Cl prog 18 #[t0] w K :=
  Cl.mk (by kernel_rfl) (calls_of_F (fn := fn18) (nt := 7) (rs := [2]) mixed fnAt18 (by kernel_rfl) (by kernel_rfl) (by kernel_rfl) (Nat.le_of_ble_eq_true (by kernel_rfl)) (by kernel_rfl) (by kernel_rfl) h)

def warp_Node_Floor (t0 : Value) (w : World) (K : KV) : Prop :=
  ncP t0 <|
  fld 7 t0 w fun t5 w =>
  ld1 t5 w fun t6 w =>
  Cl prog 61 #[t6] w fun t7 w =>
  K t7 w
theorem warp_Node_Floor_calls {t0 : Value} {w : World} {K : KV} (h : warp_Node_Floor t0 w K) : Cl prog 19 #[t0] w K :=
  Cl.mk (by kernel_rfl) (calls_of_F (fn := fn19) (nt := 8) (rs := [2]) mixed fnAt19 (by kernel_rfl) (by kernel_rfl) (by kernel_rfl) (Nat.le_of_ble_eq_true (by kernel_rfl)) (by kernel_rfl) (by kernel_rfl) h)

def warp_Node_Commit (t0 t1 : Value) (w : World) (K : KV) : Prop :=
  ncP t0 <|
  fld 7 t0 w fun t14 w =>
  ld1 t14 w fun t15 w =>
  Cl prog 61 #[t15] w fun t16 w =>
  bi .lss .i64 t1 t16 w fun t17 w =>
  iff' t17
  (K (Value.tuple #[(Value.slice none 0 0), (Value.slice none 0 0), (Value.int IntKind.i64 110)]) w)
  (Cl prog 21 #[t0] w fun t21 w =>
  bi .gtr .i64 t1 t21 w fun t22 w =>
  iff' t22
  (K (Value.tuple #[(Value.slice none 0 0), (Value.slice none 0 0), (Value.int IntKind.i64 130)]) w)
  (ncP t0 <|
  fld 7 t0 w fun t25 w =>
  ld1 t25 w fun t26 w =>
  Cl prog 62 #[t26, t1] w fun t28 w =>
  lnS t28 w fun t29 w =>
  lp [(Value.slice none 0 0), (Value.int IntKind.i64 0)] w (b2 fun t7 t30 w g1 =>
  bi .lss .i64 t30 t29 w fun t31 w =>
  iff' t31
  (ixS 10 t28 t30 w fun t32 w =>
  ldN 10 t32 w fun t33 w =>
  al (zeroD prog 113) 113 w fun t9 w =>
  stN 10 t9 t33 w fun _ w =>
  fld 0 t9 w fun t35 w =>
  ldN 6 t35 w fun t36 w =>
  fld 8 t9 w fun t37 w =>
  ld1 t37 w fun t38 w =>
  bld (zeroD prog 45) #[(0, 6), (6, 1)] [(0, t36), (1, t38)] w fun t39 w =>
  bsl 45 7 1 (zeroD prog 45) [(0, t39)] w fun t40 w =>
  apS prog #[52, 52] 52 t7 t40 w fun t41 w =>
  bi .add .i64 t30 (Value.int IntKind.i64 1) w fun t42 w =>
  g1 [t41, t42] w)
  (ncP t0 <|
  fld 10 t0 w fun t46 w =>
  ld1 t46 w fun t47 w =>
  apS prog #[52, 52] 52 t47 t7 w fun t49 w =>
  ncP t0 <|
  fld 10 t0 w fun t51 w =>
  stN 1 t51 t49 w fun _ w =>
  ncP t0 <|
  fld 8 t0 w fun t55 w =>
  ld1 t55 w fun t56 w =>
  Cl prog 63 #[t56, t1] w fun t58 w =>
  K (Value.tuple #[t7, t58, (Value.int IntKind.i64 0)]) w))))
theorem warp_Node_Commit_calls {t0 t1 : Value} {w : World} {K : KV} (h : warp_Node_Commit t0 t1 w K) : Cl prog 20 #[t0, t1] w K :=
  Cl.mk (by kernel_rfl) (calls_of_F (fn := fn20) (nt := 59) (rs := [4, 5, 6]) mixed fnAt20 (by kernel_rfl) (by kernel_rfl) (by kernel_rfl) (Nat.le_of_ble_eq_true (by kernel_rfl)) (by kernel_rfl) (by kernel_rfl) h)

def warp_Node_Local (t0 : Value) (w : World) (K : KV) : Prop :=
  ncP t0 <|
  fld 6 t0 w fun t11 w =>
  ld1 t11 w fun t12 w =>
  Cl prog 51 #[t12] w fun t13 w =>
  xt 0 t13 w fun t14 w =>
  xt 1 t13 w fun t15 w =>
  al (zeroD prog 37) 37 w fun t4 w =>
  stN 6 t4 t14 w fun _ w =>
  J1 (fun t3 w =>
  ncP t0 <|
  fld 9 t0 w fun t25 w =>
  ld1 t25 w fun t26 w =>
  rgM prog 99 t26 w fun t27 w =>
  lp [t3] w (b1 fun t3_1 w g2 =>
  nxM prog t27 false 0 w fun t28 w =>
  xt 0 t28 w fun t29 w =>
  iff' t29
  (enM prog t27 w fun t30 w =>
  xt 1 t30 w fun t31 w =>
  bsl 3 1 1 (zeroD prog 3) [(0, t31)] w fun t34 w =>
  apS prog #[24, 24] 24 t3_1 t34 w fun t35 w =>
  g2 [t35] w)
  (Cl prog 64 #[t3_1] w fun t37 w =>
  K t37 w))) fun k1 =>
  iff' t15
  (fld 0 t4 w fun t18 w =>
  fld 0 t18 w fun t19 w =>
  ld1 t19 w fun t20 w =>
  bsl 3 1 1 (zeroD prog 3) [(0, t20)] w fun t21 w =>
  apS prog #[24, 24] 24 (Value.slice none 0 0) t21 w fun t22 w =>
  k1 t22 w)
  (k1 (Value.slice none 0 0) w)
theorem warp_Node_Local_calls {t0 : Value} {w : World} {K : KV} (h : warp_Node_Local t0 w K) : Cl prog 21 #[t0] w K :=
  Cl.mk (by kernel_rfl) (calls_of_F (fn := fn21) (nt := 38) (rs := [2]) mixed fnAt21 (by kernel_rfl) (by kernel_rfl) (by kernel_rfl) (Nat.le_of_ble_eq_true (by kernel_rfl)) (by kernel_rfl) (by kernel_rfl) h)

def pacelineref09_Same (t0 t1 : Value) (w : World) (K : KV) : Prop :=
  lnS t0 w fun t7 w =>
  lnS t1 w fun t9 w =>
  bi .neq .i64 t7 t9 w fun t10 w =>
  iff' t10
  (K (Value.bool false) w)
  (lp [(Value.int IntKind.i64 0)] w (b1 fun t5 w g1 =>
  lnS t0 w fun t13 w =>
  bi .lss .i64 t5 t13 w fun t14 w =>
  iff' t14
  (dr w fun w =>
  ixS 7 t0 t5 w fun t19 _ =>
  ldN 7 t19 w fun t20 _ =>
  ixS 7 t1 t5 w fun t23 _ =>
  ldN 7 t23 w fun t24 _ =>
  bO prog .neq 45 (Operand.tmp 20) (Operand.tmp 24) t20 t24 w fun t25 w =>
  iff' t25
  (K (Value.bool false) w)
  (bi .add .i64 t5 (Value.int IntKind.i64 1) w fun t16 w =>
  g1 [t16] w))
  (K (Value.bool true) w)))
theorem pacelineref09_Same_calls {t0 t1 : Value} {w : World} {K : KV} (h : pacelineref09_Same t0 t1 w K) : Cl prog 22 #[t0, t1] w K :=
  Cl.mk (by kernel_rfl) (calls_of_F (fn := fn22) (nt := 26) (rs := [4]) mixed fnAt22 (by kernel_rfl) (by kernel_rfl) (by kernel_rfl) (Nat.le_of_ble_eq_true (by kernel_rfl)) (by kernel_rfl) (by kernel_rfl) h)

def pacelinelaw15_same (t0 t1 : Value) (w : World) (K : KV) : Prop :=
  lnS t0 w fun t7 w =>
  lnS t1 w fun t9 w =>
  bi .neq .i64 t7 t9 w fun t10 w =>
  iff' t10
  (K (Value.bool false) w)
  (lp [(Value.int IntKind.i64 0)] w (b1 fun t5 w g1 =>
  lnS t0 w fun t13 w =>
  bi .lss .i64 t5 t13 w fun t14 w =>
  iff' t14
  (dr w fun w =>
  ixS 6 t0 t5 w fun t19 _ =>
  ldN 6 t19 w fun t20 _ =>
  ixS 6 t1 t5 w fun t23 _ =>
  ldN 6 t23 w fun t24 _ =>
  bO prog .neq 37 (Operand.tmp 20) (Operand.tmp 24) t20 t24 w fun t25 w =>
  iff' t25
  (K (Value.bool false) w)
  (bi .add .i64 t5 (Value.int IntKind.i64 1) w fun t16 w =>
  g1 [t16] w))
  (K (Value.bool true) w)))
theorem pacelinelaw15_same_calls {t0 t1 : Value} {w : World} {K : KV} (h : pacelinelaw15_same t0 t1 w K) : Cl prog 23 #[t0, t1] w K :=
  Cl.mk (by kernel_rfl) (calls_of_F (fn := fn23) (nt := 26) (rs := [4]) mixed fnAt23 (by kernel_rfl) (by kernel_rfl) (by kernel_rfl) (Nat.le_of_ble_eq_true (by kernel_rfl)) (by kernel_rfl) (by kernel_rfl) h)

def pacelineref07_Step (t0 t1 t2 : Value) (w : World) (K : KV) : Prop :=
  Cl prog 65 #[t0, t1, t2] w fun t13 w =>
  bi .lss .i64 t13 (Value.int IntKind.i64 0) w fun t15 w =>
  iff' t15
  (K (Value.tuple #[t1, (Value.slice none 0 0)]) w)
  (bsl 87 3 0 #[] [] w fun t17 w =>
  dr w fun w =>
  ixS 4 t0 t13 w fun t20 _ =>
  fld 2 t20 w fun t21 _ =>
  ld1 t21 w fun t22 _ =>
  ixS 4 t0 t13 w fun t26 _ =>
  fld 3 t26 w fun t27 _ =>
  ld1 t27 w fun t28 _ =>
  apS prog #[61, 61] 61 t17 t28 w fun t29 w =>
  (ld1 t21 w (fun v' w'' => v' = t22 ∧ w'' = w)) ∧ (K (Value.tuple #[t22, t29]) w))
theorem pacelineref07_Step_calls {t0 t1 t2 : Value} {w : World} {K : KV} (h : pacelineref07_Step t0 t1 t2 w K) : Cl prog 25 #[t0, t1, t2] w K :=
  Cl.mk (by kernel_rfl) (calls_of_F (fn := fn25) (nt := 30) (rs := [6, 7]) mixed fnAt25 (by kernel_rfl) (by kernel_rfl) (by kernel_rfl) (Nat.le_of_ble_eq_true (by kernel_rfl)) (by kernel_rfl) (by kernel_rfl) h)

def pacelineref08_Spread (t0 t1 t2 t3 t4 t5 : Value) (w : World) (K : KV) : Prop :=
  al (Value.cells t0) 27 w fun t6 w =>
  bsl 37 6 0 #[] [] w fun t18 w =>
  lp [t18, (Value.int IntKind.i64 0)] w (b2 fun t13 t14 w g1 =>
  lnS t5 w fun t21 w =>
  bi .lss .i64 t14 t21 w fun t22 w =>
  iff' t22
  (bi .add .i64 t2 t14 w fun t28 w =>
  ixS 3 t5 t14 w fun t33 w =>
  ldN 3 t33 w fun t34 w =>
  Cl prog 66 #[t1, t28, t3, t4, t34] w fun t35 w =>
  al (zeroD prog 37) 37 w fun t15 w =>
  stN 6 t15 t35 w fun _ w =>
  ldN 3 t6 w fun t36 w =>
  fld 4 t15 w fun t38 w =>
  ld1 t38 w fun t39 w =>
  Cl prog 67 #[t36, t1, t39] w fun t40 w =>
  lp [t13, (Value.int IntKind.i64 0)] w (b2 fun t13_1 t17 w g2 =>
  lnS t40 w fun t43 w =>
  bi .lss .i64 t17 t43 w fun t44 w =>
  iff' t44
  (ixS 1 t40 t17 w fun t49 w =>
  ld1 t49 w fun t50 w =>
  fld 3 t15 w fun t51 w =>
  stN 1 t51 t50 w fun _ w =>
  ldN 6 t15 w fun t53 w =>
  bsl 37 6 1 (zeroD prog 37) [(0, t53)] w fun t54 w =>
  apS prog #[33, 33] 33 t13_1 t54 w fun t55 w =>
  bi .add .i64 t17 (Value.int IntKind.i64 1) w fun t46 w =>
  g2 [t55, t46] w)
  (bi .add .i64 t14 (Value.int IntKind.i64 1) w fun t24 w =>
  g1 [t13_1, t24] w)))
  (K t13 w))
theorem pacelineref08_Spread_calls {t0 t1 t2 t3 t4 t5 : Value} {w : World} {K : KV} (h : pacelineref08_Spread t0 t1 t2 t3 t4 t5 w K) : Cl prog 26 #[t0, t1, t2, t3, t4, t5] w K :=
  Cl.mk (by kernel_rfl) (calls_of_F (fn := fn26) (nt := 57) (rs := [12]) mixed fnAt26 (by kernel_rfl) (by kernel_rfl) (by kernel_rfl) (Nat.le_of_ble_eq_true (by kernel_rfl)) (by kernel_rfl) (by kernel_rfl) h)

def warp_Node_Promise (t0 : Value) (w : World) (K : KV) : Prop :=
  dr w fun w =>
  ncP t0 <|
  fld 7 t0 w fun t5 _ =>
  ld1 t5 w fun t6 _ =>
  ncP t0 <|
  fld 0 t0 w fun t10 _ =>
  fld 1 t10 w fun t11 _ =>
  ld1 t11 w fun t12 _ =>
  ncP t0 <|
  fld 3 t0 w fun t15 _ =>
  ld1 t15 w fun t16 _ =>
  ixS 7 t12 t16 w fun t17 _ =>
  fld 1 t17 w fun t18 _ =>
  ld1 t18 w fun t19 _ =>
  Cl prog 61 #[t6] w fun t7 w =>
  (ld1 t18 w (fun v' w'' => v' = t19 ∧ w'' = w)) ∧ ((ld1 t15 w (fun v' w'' => v' = t16 ∧ w'' = w)) ∧ ((ld1 t11 w (fun v' w'' => v' = t12 ∧ w'' = w)) ∧ (Cl prog 68 #[t7, t19] w fun t20 w =>
  K t20 w)))
theorem warp_Node_Promise_calls {t0 : Value} {w : World} {K : KV} (h : warp_Node_Promise t0 w K) : Cl prog 27 #[t0] w K :=
  Cl.mk (by kernel_rfl) (calls_of_F (fn := fn27) (nt := 21) (rs := [2]) mixed fnAt27 (by kernel_rfl) (by kernel_rfl) (by kernel_rfl) (Nat.le_of_ble_eq_true (by kernel_rfl)) (by kernel_rfl) (by kernel_rfl) h)

def warp_Node_Log (t0 : Value) (w : World) (K : KV) : Prop :=
  ncP t0 <|
  fld 10 t0 w fun t5 w =>
  ld1 t5 w fun t6 w =>
  Cl prog 69 #[t6] w fun t7 w =>
  K t7 w
theorem warp_Node_Log_calls {t0 : Value} {w : World} {K : KV} (h : warp_Node_Log t0 w K) : Cl prog 28 #[t0] w K :=
  Cl.mk (by kernel_rfl) (calls_of_F (fn := fn28) (nt := 8) (rs := [2]) mixed fnAt28 (by kernel_rfl) (by kernel_rfl) (by kernel_rfl) (Nat.le_of_ble_eq_true (by kernel_rfl)) (by kernel_rfl) (by kernel_rfl) h)

def pacelineref01_Cmp (t0 t1 : Value) (w : World) (K : KV) : Prop :=
  al (Value.cells t0) 35 w fun t2 w =>
  al (Value.cells t1) 35 w fun t3 w =>
  ldN 3 t2 w fun t5 w =>
  ldN 3 t3 w fun t6 w =>
  bO prog .eql 35 (Operand.tmp 5) (Operand.tmp 6) t5 t6 w fun t7 w =>
  iff' t7
  (K (Value.int IntKind.i64 0) w)
  (fld 0 t2 w fun t8 w =>
  ld1 t8 w fun t9 w =>
  fld 0 t3 w fun t10 w =>
  ld1 t10 w fun t11 w =>
  bi .lss .i64 t9 t11 w fun t12 w =>
  gd t12 false (fun k => fld 0 t2 w k) w fun t14 w =>
  gd t12 false (fun k => ld1 t14 w k) w fun t15 w =>
  gd t12 false (fun k => fld 0 t3 w k) w fun t16 w =>
  gd t12 false (fun k => ld1 t16 w k) w fun t17 w =>
  gd t12 false (fun k => bi .eql .i64 t15 t17 w k) w fun t18 w =>
  gd t12 false (fun k => k t18 w) w fun t19 w =>
  gd t19 true (fun k => fld 1 t2 w k) w fun t20 w =>
  gd t19 true (fun k => ld1 t20 w k) w fun t21 w =>
  gd t19 true (fun k => fld 1 t3 w k) w fun t22 w =>
  gd t19 true (fun k => ld1 t22 w k) w fun t23 w =>
  gd t19 true (fun k => bi .lss .i64 t21 t23 w k) w fun t24 w =>
  gd t12 false (fun k => pk t19 t24 (Value.bool false) w k) w fun t25 w =>
  pk t12 (Value.bool true) t25 w fun t26 w =>
  gd t26 false (fun k => fld 0 t2 w k) w fun t28 w =>
  gd t26 false (fun k => ld1 t28 w k) w fun t29 w =>
  gd t26 false (fun k => fld 0 t3 w k) w fun t30 w =>
  gd t26 false (fun k => ld1 t30 w k) w fun t31 w =>
  gd t26 false (fun k => bi .eql .i64 t29 t31 w k) w fun t32 w =>
  gd t26 false (fun k => k t32 w) w fun t33 w =>
  gd t33 true (fun k => fld 1 t2 w k) w fun t34 w =>
  gd t33 true (fun k => ld1 t34 w k) w fun t35 w =>
  gd t33 true (fun k => fld 1 t3 w k) w fun t36 w =>
  gd t33 true (fun k => ld1 t36 w k) w fun t37 w =>
  gd t33 true (fun k => bi .eql .i64 t35 t37 w k) w fun t38 w =>
  gd t26 false (fun k => pk t33 t38 (Value.bool false) w k) w fun t39 w =>
  gd t26 false (fun k => k t39 w) w fun t40 w =>
  gd t40 true (fun k => fld 2 t2 w k) w fun t41 w =>
  gd t40 true (fun k => ld1 t41 w k) w fun t42 w =>
  gd t40 true (fun k => fld 2 t3 w k) w fun t43 w =>
  gd t40 true (fun k => ld1 t43 w k) w fun t44 w =>
  gd t40 true (fun k => bi .lss .i64 t42 t44 w k) w fun t45 w =>
  gd t26 false (fun k => pk t40 t45 (Value.bool false) w k) w fun t46 w =>
  pk t26 (Value.bool true) t46 w fun t47 w =>
  iff' t47
  (K (Value.int IntKind.i64 (-1)) w)
  (K (Value.int IntKind.i64 1) w))
theorem pacelineref01_Cmp_calls {t0 t1 : Value} {w : World} {K : KV} (h : pacelineref01_Cmp t0 t1 w K) : Cl prog 29 #[t0, t1] w K :=
  Cl.mk (by kernel_rfl) (calls_of_F (fn := fn29) (nt := 48) (rs := [4]) mixed fnAt29 (by kernel_rfl) (by kernel_rfl) (by kernel_rfl) (Nat.le_of_ble_eq_true (by kernel_rfl)) (by kernel_rfl) (by kernel_rfl) h)

def pacelineref15_New (t0 t1 : Value) (w : World) (K : KV) : Prop :=
  al (Value.cells t0) 27 w fun t2 w =>
  ldN 3 t2 w fun t11 w =>
  Cl prog 70 #[t11] w fun t12 w =>
  xt 0 t12 w fun _ w =>
  xt 1 t12 w fun t14 w =>
  bi .neq .i64 t14 (Value.int IntKind.i64 0) w fun t16 w =>
  iff' t16
  (K (Value.tuple #[(Value.pointer none), t14]) w)
  (bi .lss .i64 t1 (Value.int IntKind.i64 0) w fun t19 w =>
  gd t19 false (fun k => k t1 w) w fun t21 w =>
  gd t19 false (fun k => fld 1 t2 w k) w fun t22 w =>
  gd t19 false (fun k => ld1 t22 w k) w fun t23 w =>
  gd t19 false (fun k => lnS t23 w k) w fun t24 w =>
  gd t19 false (fun k => bi .geq .i64 t21 t24 w k) w fun t25 w =>
  pk t19 (Value.bool true) t25 w fun t26 w =>
  gd t26 false (fun k => fld 1 t2 w k) w fun t28 w =>
  gd t26 false (fun k => ld1 t28 w k) w fun t29 w =>
  gd t26 false (fun k => k t1 w) w fun t30 w =>
  gd t26 false (fun k => ixS 7 t29 t30 w k) w fun t31 w =>
  gd t26 false (fun k => fld 0 t31 w k) w fun t32 w =>
  gd t26 false (fun k => ld1 t32 w k) w fun t33 w =>
  gd t26 false (fun k => bi .neq .i64 t33 (Value.int IntKind.i64 1) w k) w fun t34 w =>
  pk t26 (Value.bool true) t34 w fun t35 w =>
  iff' t35
  (K (Value.tuple #[(Value.pointer none), (Value.int IntKind.i64 1)]) w)
  (dr w fun w =>
  ldN 3 t2 w fun t36 _ =>
  fld 1 t2 w fun t38 _ =>
  ld1 t38 w fun t39 _ =>
  ixS 7 t39 t1 w fun t41 _ =>
  fld 2 t41 w fun t42 _ =>
  ld1 t42 w fun t43 _ =>
  fld 1 t2 w fun t44 _ =>
  ld1 t44 w fun t45 _ =>
  ixS 7 t45 t1 w fun t47 _ =>
  fld 6 t47 w fun t48 _ =>
  ld1 t48 w fun t49 _ =>
  lnS t49 w fun t50 _ =>
  Cl prog 71 #[(Value.int IntKind.i64 64)] w fun t51 w =>
  (ld1 t48 w (fun v' w'' => v' = t49 ∧ w'' = w)) ∧ ((ld1 t44 w (fun v' w'' => v' = t45 ∧ w'' = w)) ∧ ((ld1 t42 w (fun v' w'' => v' = t43 ∧ w'' = w)) ∧ ((ld1 t38 w (fun v' w'' => v' = t39 ∧ w'' = w)) ∧ ((ldN 3 t2 w (fun v' w'' => v' = t36 ∧ w'' = w)) ∧ (Cl prog 72 #[] w fun t52 w =>
  (ld1 t48 w (fun v' w'' => v' = t49 ∧ w'' = w)) ∧ ((ld1 t44 w (fun v' w'' => v' = t45 ∧ w'' = w)) ∧ ((ld1 t42 w (fun v' w'' => v' = t43 ∧ w'' = w)) ∧ ((ld1 t38 w (fun v' w'' => v' = t39 ∧ w'' = w)) ∧ ((ldN 3 t2 w (fun v' w'' => v' = t36 ∧ w'' = w)) ∧ (Cl prog 73 #[] w fun t53 w =>
  (ld1 t48 w (fun v' w'' => v' = t49 ∧ w'' = w)) ∧ ((ld1 t44 w (fun v' w'' => v' = t45 ∧ w'' = w)) ∧ ((ld1 t42 w (fun v' w'' => v' = t43 ∧ w'' = w)) ∧ ((ld1 t38 w (fun v' w'' => v' = t39 ∧ w'' = w)) ∧ ((ldN 3 t2 w (fun v' w'' => v' = t36 ∧ w'' = w)) ∧ (bld (zeroD prog 84) #[(0, 3), (3, 1), (4, 1), (5, 1), (6, 1), (7, 1), (8, 1), (9, 1), (10, 1)] [(0, t36), (1, t1), (2, t43), (3, t50), (4, t51), (5, t52), (6, t53)] w fun t54 w =>
  al (Value.cells t54) 84 w fun t55 w =>
  lp [(Value.int IntKind.i64 0)] w (b1 fun t9 w g1 =>
  fld 1 t2 w fun t57 w =>
  ld1 t57 w fun t58 w =>
  lnS t58 w fun t59 w =>
  bi .lss .i64 t9 t59 w fun t60 w =>
  iff' t60
  (J0 (fun w =>
  bi .add .i64 t9 (Value.int IntKind.i64 1) w fun t62 w =>
  g1 [t62] w) fun k2 =>
  ncP t55 <|
  fld 9 t55 w fun t66 w =>
  ld1 t66 w fun t67 w =>
  bsl 3 1 1 (zeroD prog 3) [(0, (Value.int IntKind.i64 (-1)))] w fun t68 w =>
  apS prog #[24, 24] 24 t67 t68 w fun t69 w =>
  ncP t55 <|
  fld 9 t55 w fun t71 w =>
  stN 1 t71 t69 w fun _ w =>
  fld 1 t2 w fun t72 w =>
  ld1 t72 w fun t73 w =>
  ixS 7 t73 t9 w fun t75 w =>
  fld 0 t75 w fun t76 w =>
  ld1 t76 w fun t77 w =>
  bi .eql .i64 t77 (Value.int IntKind.i64 0) w fun t78 w =>
  iff' t78
  (ncP t55 <|
  fld 9 t55 w fun t81 w =>
  ld1 t81 w fun t82 w =>
  ixS 1 t82 t9 w fun t84 w =>
  stN 1 t84 (Value.int IntKind.i64 0) w fun _ w =>
  k2 w)
  (k2 w))
  (K (Value.tuple #[t55, (Value.int IntKind.i64 0)]) w)))))))))))))))))))
theorem pacelineref15_New_calls {t0 t1 : Value} {w : World} {K : KV} (h : pacelineref15_New t0 t1 w K) : Cl prog 30 #[t0, t1] w K :=
  Cl.mk (by kernel_rfl) (calls_of_F (fn := fn30) (nt := 86) (rs := [4, 5]) mixed fnAt30 (by kernel_rfl) (by kernel_rfl) (by kernel_rfl) (Nat.le_of_ble_eq_true (by kernel_rfl)) (by kernel_rfl) (by kernel_rfl) h)

def pacelineref15_Node_Hear (t0 t1 t2 : Value) (w : World) (K : KV) : Prop :=
  al (Value.cells t2) 43 w fun t5 w =>
  bi .lss .i64 t1 (Value.int IntKind.i64 0) w fun t16 w =>
  gd t16 false (fun k => k t1 w) w fun t18 w =>
  gd t16 false (fun k => k t0 w) w fun t19 w =>
  gd t16 false (fun k => nc t19 w k) w fun t20 w =>
  gd t16 false (fun k => fld 0 t20 w k) w fun t21 w =>
  gd t16 false (fun k => fld 1 t21 w k) w fun t22 w =>
  gd t16 false (fun k => ld1 t22 w k) w fun t23 w =>
  gd t16 false (fun k => lnS t23 w k) w fun t24 w =>
  gd t16 false (fun k => bi .geq .i64 t18 t24 w k) w fun t25 w =>
  pk t16 (Value.bool true) t25 w fun t26 w =>
  gd t26 false (fun k => k t1 w) w fun t28 w =>
  gd t26 false (fun k => k t0 w) w fun t29 w =>
  gd t26 false (fun k => nc t29 w k) w fun t30 w =>
  gd t26 false (fun k => fld 3 t30 w k) w fun t31 w =>
  gd t26 false (fun k => ld1 t31 w k) w fun t32 w =>
  gd t26 false (fun k => bi .eql .i64 t28 t32 w k) w fun t33 w =>
  pk t26 (Value.bool true) t33 w fun t34 w =>
  iff' t34
  (K (Value.tuple #[(Value.slice none 0 0), (Value.int IntKind.i64 1)]) w)
  (fld 1 t5 w fun t35 w =>
  fld 0 t35 w fun t36 w =>
  ldN 3 t36 w fun t37 w =>
  al (zeroD prog 35) 35 w fun t8 w =>
  stN 3 t8 t37 w fun _ w =>
  fld 0 t5 w fun t38 w =>
  ld1 t38 w fun t39 w =>
  bi .eql .i64 t39 (Value.int IntKind.i64 2) w fun t41 w =>
  iff' t41
  (ncP t0 <|
  fld 9 t0 w fun t44 w =>
  ld1 t44 w fun t45 w =>
  ixS 1 t45 t1 w fun t47 w =>
  ld1 t47 w fun t48 w =>
  bi .lss .i64 t48 (Value.int IntKind.i64 0) w fun t49 w =>
  gd t49 false (fun k => fld 0 t8 w k) w fun t51 w =>
  gd t49 false (fun k => ld1 t51 w k) w fun t52 w =>
  gd t49 false (fun k => Cl prog 74 #[t52] w k) w fun t53 w =>
  gd t49 false (fun k => bnot t53 w k) w fun t54 w =>
  pk t49 (Value.bool true) t54 w fun t55 w =>
  iff' t55
  (K (Value.tuple #[(Value.slice none 0 0), (Value.int IntKind.i64 1)]) w)
  (dr w fun w =>
  fld 0 t8 w fun t56 _ =>
  ld1 t56 w fun t57 _ =>
  ncP t0 <|
  fld 9 t0 w fun t60 _ =>
  ld1 t60 w fun t61 _ =>
  ixS 1 t61 t1 w fun t63 _ =>
  ld1 t63 w fun t64 _ =>
  bi .lss .i64 t57 t64 w fun t65 _ =>
  iff' t65
  (K (Value.tuple #[(Value.slice none 0 0), (Value.int IntKind.i64 110)]) w)
  (dr w fun w =>
  ncP t0 <|
  fld 9 t0 w fun t68 _ =>
  ld1 t68 w fun t69 _ =>
  fld 0 t8 w fun t71 _ =>
  ld1 t71 w fun t72 _ =>
  ixS 1 t69 t1 w fun t73 _ =>
  stN 1 t73 t72 w fun _ w =>
  K (Value.tuple #[(Value.slice none 0 0), (Value.int IntKind.i64 0)]) w)))
  (bi .eql .i64 t39 (Value.int IntKind.i64 0) w fun t75 w =>
  iff' t75
  (ldN 3 t8 w fun t78 w =>
  Cl prog 75 #[t0, t78] w fun t79 w =>
  xt 0 t79 w fun t80 w =>
  xt 1 t79 w fun t81 w =>
  dr w fun w =>
  fld 0 t8 w fun t82 _ =>
  ld1 t82 w fun t83 _ =>
  ncP t0 <|
  fld 7 t0 w fun t86 _ =>
  ld1 t86 w fun t87 _ =>
  ncP t87 <|
  fld 0 t87 w fun t89 _ =>
  ld1 t89 w fun t90 _ =>
  bi .lss .i64 t83 t90 w fun t91 _ =>
  gd t91 false (fun k => k t0 w) w fun t93 _ =>
  gd t91 false (fun k => nc t93 w k) w fun t94 _ =>
  gd t91 false (fun k => fld 9 t94 w k) w fun t95 _ =>
  gd t91 false (fun k => ld1 t95 w k) w fun t96 _ =>
  gd t91 false (fun k => k t1 w) w fun t97 _ =>
  gd t91 false (fun k => ixS 1 t96 t97 w k) w fun t98 _ =>
  gd t91 false (fun k => ld1 t98 w k) w fun t99 _ =>
  gd t91 false (fun k => bi .geq .i64 t99 (Value.int IntKind.i64 0) w k) w fun t100 _ =>
  gd t91 false (fun k => k t100 w) w fun t101 _ =>
  gd t101 true (fun k => fld 0 t8 w k) w fun t102 _ =>
  gd t101 true (fun k => ld1 t102 w k) w fun t103 _ =>
  gd t101 true (fun k => k t0 w) w fun t104 _ =>
  gd t101 true (fun k => nc t104 w k) w fun t105 _ =>
  gd t101 true (fun k => fld 9 t105 w k) w fun t106 _ =>
  gd t101 true (fun k => ld1 t106 w k) w fun t107 _ =>
  gd t101 true (fun k => k t1 w) w fun t108 _ =>
  gd t101 true (fun k => ixS 1 t107 t108 w k) w fun t109 _ =>
  gd t101 true (fun k => ld1 t109 w k) w fun t110 _ =>
  gd t101 true (fun k => bi .lss .i64 t103 t110 w k) w fun t111 _ =>
  gd t91 false (fun k => pk t101 t111 (Value.bool false) w k) w fun t112 _ =>
  pk t91 (Value.bool true) t112 w fun t113 _ =>
  iff' t113
  (K (Value.tuple #[(Value.slice none 0 0), (Value.int IntKind.i64 110)]) w)
  (gd t81 false (fun k => k t0 w) w fun t116 w =>
  gd t81 false (fun k => ldN 3 t8 w k) w fun t117 w =>
  gd t81 false (fun k => Cl prog 76 #[t116, t117] w k) w fun t118 w =>
  pk t81 (Value.bool true) t118 w fun t119 w =>
  iff' t119
  (K (Value.tuple #[(Value.slice none 0 0), (Value.int IntKind.i64 3)]) w)
  (ncP t0 <|
  fld 6 t0 w fun t122 w =>
  ld1 t122 w fun t123 w =>
  Cl prog 77 #[t123] w fun t124 w =>
  bi .add .i64 t124 t80 w fun t126 w =>
  bi .add .i64 t126 (Value.int IntKind.i64 1) w fun t127 w =>
  bi .gtr .i64 t127 (Value.int IntKind.i64 64) w fun t128 w =>
  iff' t128
  (K (Value.tuple #[(Value.slice none 0 0), (Value.int IntKind.i64 2)]) w)
  (ldN 3 t8 w fun t130 w =>
  Cl prog 78 #[t0, t130] w fun t131 w =>
  dr w fun w =>
  ncP t0 <|
  fld 6 t0 w fun t134 _ =>
  ld1 t134 w fun t135 _ =>
  ncP t0 <|
  fld 6 t0 w fun t138 _ =>
  ld1 t138 w fun t139 _ =>
  ncP t139 <|
  fld 1 t139 w fun t141 _ =>
  ld1 t141 w fun t142 _ =>
  fld 1 t5 w fun t143 _ =>
  ldN 6 t143 w fun t144 _ =>
  Cl prog 13 #[t142, t144] w fun t145 w =>
  (ld1 t134 w (fun v' w'' => v' = t135 ∧ w'' = w)) ∧ (ncP t135 <|
  fld 1 t135 w fun t147 _ =>
  stN 1 t147 t145 w fun _ w =>
  K (Value.tuple #[t131, (Value.int IntKind.i64 0)]) w)))))
  (bi .eql .i64 t39 (Value.int IntKind.i64 1) w fun t150 w =>
  iff' t150
  (ldN 3 t8 w fun t153 w =>
  Cl prog 75 #[t0, t153] w fun t154 w =>
  xt 0 t154 w fun t155 w =>
  xt 1 t154 w fun t156 w =>
  ncP t0 <|
  fld 9 t0 w fun t159 w =>
  ld1 t159 w fun t160 w =>
  ixS 1 t160 t1 w fun t162 w =>
  ld1 t162 w fun t163 w =>
  bi .geq .i64 t163 (Value.int IntKind.i64 0) w fun t164 w =>
  iff' t164
  (K (Value.tuple #[(Value.slice none 0 0), (Value.int IntKind.i64 1)]) w)
  (dr w fun w =>
  fld 0 t8 w fun t165 _ =>
  ld1 t165 w fun t166 _ =>
  ncP t0 <|
  fld 7 t0 w fun t169 _ =>
  ld1 t169 w fun t170 _ =>
  ncP t170 <|
  fld 0 t170 w fun t172 _ =>
  ld1 t172 w fun t173 _ =>
  bi .lss .i64 t166 t173 w fun t174 _ =>
  iff' t174
  (K (Value.tuple #[(Value.slice none 0 0), (Value.int IntKind.i64 110)]) w)
  (ldN 3 t8 w fun t176 w =>
  Cl prog 76 #[t0, t176] w fun t177 w =>
  iff' t177
  (dr w fun w =>
  ncP t0 <|
  fld 6 t0 w fun t180 _ =>
  ld1 t180 w fun t181 _ =>
  ldN 3 t8 w fun t182 _ =>
  Cl prog 79 #[t181, t182] w fun _ w =>
  K (Value.tuple #[(Value.slice none 0 0), (Value.int IntKind.i64 0)]) w)
  (bnot t156 w fun t185 w =>
  iff' t185
  (K (Value.tuple #[(Value.slice none 0 0), (Value.int IntKind.i64 4)]) w)
  (ncP t0 <|
  fld 6 t0 w fun t188 w =>
  ld1 t188 w fun t189 w =>
  Cl prog 77 #[t189] w fun t190 w =>
  bi .add .i64 t190 t155 w fun t192 w =>
  bi .gtr .i64 t192 (Value.int IntKind.i64 65) w fun t193 w =>
  iff' t193
  (K (Value.tuple #[(Value.slice none 0 0), (Value.int IntKind.i64 2)]) w)
  (ldN 3 t8 w fun t195 w =>
  Cl prog 78 #[t0, t195] w fun t196 w =>
  dr w fun w =>
  ncP t0 <|
  fld 6 t0 w fun t199 _ =>
  ld1 t199 w fun t200 _ =>
  ldN 3 t8 w fun t201 _ =>
  Cl prog 79 #[t200, t201] w fun _ w =>
  K (Value.tuple #[t196, (Value.int IntKind.i64 0)]) w))))))
  (K (Value.tuple #[(Value.slice none 0 0), (Value.int IntKind.i64 130)]) w))))
theorem pacelineref15_Node_Hear_calls {t0 t1 t2 : Value} {w : World} {K : KV} (h : pacelineref15_Node_Hear t0 t1 t2 w K) : Cl prog 31 #[t0, t1, t2] w K :=
  Cl.mk (by kernel_rfl) (calls_of_F (fn := fn31) (nt := 204) (rs := [6, 7]) mixed fnAt31 (by kernel_rfl) (by kernel_rfl) (by kernel_rfl) (Nat.le_of_ble_eq_true (by kernel_rfl)) (by kernel_rfl) (by kernel_rfl) h)

def pacelineref15_Node_Step (t0 : Value) (w : World) (K : KV) : Prop :=
  al (zeroD prog 45) 45 w fun t2 w =>
  ncP t0 <|
  fld 6 t0 w fun t15 w =>
  ld1 t15 w fun t16 w =>
  Cl prog 80 #[t16] w fun t17 w =>
  xt 0 t17 w fun t18 w =>
  xt 1 t17 w fun t19 w =>
  al (zeroD prog 37) 37 w fun t5 w =>
  stN 6 t5 t18 w fun _ w =>
  dr w fun w =>
  bnot t19 w fun t21 _ =>
  gd t21 false (fun k => fld 0 t5 w k) w fun t23 _ =>
  gd t21 false (fun k => fld 0 t23 w k) w fun t24 _ =>
  gd t21 false (fun k => ld1 t24 w k) w fun t25 _ =>
  gd t21 false (fun k => k t0 w) w fun t26 _ =>
  gd t21 false (fun k => nc t26 w k) w fun t27 _ =>
  gd t21 false (fun k => fld 0 t27 w k) w fun t28 _ =>
  gd t21 false (fun k => fld 2 t28 w k) w fun t29 _ =>
  gd t21 false (fun k => ld1 t29 w k) w fun t30 _ =>
  gd t21 false (fun k => bi .geq .i64 t25 t30 w k) w fun t31 _ =>
  pk t21 (Value.bool true) t31 w fun t32 _ =>
  iff' t32
  (bld (zeroD prog 45) #[(0, 6), (6, 1)] [] w fun t33 w =>
  stN 7 t2 t33 w fun _ w =>
  ldN 7 t2 w fun r0 _ =>
  K (Value.tuple #[r0, (Value.slice none 0 0), (Value.int IntKind.i64 150)]) w)
  (ncP t0 <|
  fld 7 t0 w fun t36 w =>
  ld1 t36 w fun t37 w =>
  ncP t37 <|
  fld 1 t37 w fun t39 w =>
  ld1 t39 w fun t40 w =>
  lnS t40 w fun t41 w =>
  bi .geq .i64 t41 (Value.int IntKind.i64 64) w fun t42 w =>
  gd t42 false (fun k => k t0 w) w fun t44 w =>
  gd t42 false (fun k => nc t44 w k) w fun t45 w =>
  gd t42 false (fun k => fld 8 t45 w k) w fun t46 w =>
  gd t42 false (fun k => ld1 t46 w k) w fun t47 w =>
  gd t42 false (fun k => nc t47 w k) w fun t48 w =>
  gd t42 false (fun k => fld 1 t48 w k) w fun t49 w =>
  gd t42 false (fun k => ld1 t49 w k) w fun t50 w =>
  gd t42 false (fun k => lnS t50 w k) w fun t51 w =>
  gd t42 false (fun k => bi .gtr .i64 t51 (Value.int IntKind.i64 192) w k) w fun t52 w =>
  pk t42 (Value.bool true) t52 w fun t53 w =>
  iff' t53
  (bld (zeroD prog 45) #[(0, 6), (6, 1)] [] w fun t54 w =>
  stN 7 t2 t54 w fun _ w =>
  ldN 7 t2 w fun r0 _ =>
  K (Value.tuple #[r0, (Value.slice none 0 0), (Value.int IntKind.i64 2)]) w)
  (ncP t0 <|
  fld 6 t0 w fun t57 w =>
  ld1 t57 w fun t58 w =>
  Cl prog 81 #[t58] w fun _ w =>
  dr w fun w =>
  ncP t0 <|
  fld 0 t0 w fun t63 _ =>
  fld 1 t63 w fun t64 _ =>
  ld1 t64 w fun t65 _ =>
  ncP t0 <|
  fld 3 t0 w fun t68 _ =>
  ld1 t68 w fun t69 _ =>
  ixS 7 t65 t69 w fun t70 _ =>
  fld 3 t70 w fun t71 _ =>
  ld1 t71 w fun t72 _ =>
  ncP t0 <|
  fld 4 t0 w fun t75 _ =>
  ld1 t75 w fun t76 _ =>
  fld 4 t5 w fun t77 _ =>
  ld1 t77 w fun t78 _ =>
  Cl prog 25 #[t72, t76, t78] w fun t79 w =>
  xt 0 t79 w fun t80 _ =>
  xt 1 t79 w fun t81 _ =>
  dr w fun w =>
  ncP t0 <|
  fld 0 t0 w fun t84 _ =>
  ldN 3 t84 w fun t85 _ =>
  ncP t0 <|
  fld 3 t0 w fun t88 _ =>
  ld1 t88 w fun t89 _ =>
  ncP t0 <|
  fld 5 t0 w fun t92 _ =>
  ld1 t92 w fun t93 _ =>
  fld 0 t5 w fun t94 _ =>
  fld 0 t94 w fun t95 _ =>
  ld1 t95 w fun t96 _ =>
  fld 5 t5 w fun t97 _ =>
  ld1 t97 w fun t98 _ =>
  Cl prog 26 #[t85, t89, t93, t96, t98, t81] w fun t100 w =>
  dr w fun w =>
  ncP t0 <|
  fld 7 t0 w fun t103 _ =>
  ld1 t103 w fun t104 _ =>
  ldN 6 t5 w fun t105 _ =>
  ncP t0 <|
  fld 4 t0 w fun t108 _ =>
  ld1 t108 w fun t109 _ =>
  ncP t0 <|
  fld 5 t0 w fun t112 _ =>
  ld1 t112 w fun t113 _ =>
  bld (zeroD prog 140) #[(0, 6), (6, 1), (7, 1), (8, 1), (9, 1)] [(0, t105), (1, t109), (2, t113), (3, t80), (4, t100)] w fun t116 w =>
  (ld1 t103 w (fun v' w'' => v' = t104 ∧ w'' = w)) ∧ (Cl prog 82 #[t104, t116] w fun _ w =>
  ncP t0 <|
  fld 4 t0 w fun t121 w =>
  stN 1 t121 t80 w fun _ w =>
  ncP t0 <|
  fld 5 t0 w fun t125 w =>
  ld1 t125 w fun t126 w =>
  lnS t81 w fun t128 w =>
  bi .add .i64 t126 t128 w fun t129 w =>
  ncP t0 <|
  fld 5 t0 w fun t131 w =>
  stN 1 t131 t129 w fun _ w =>
  bsl 43 8 0 #[] [] w fun t132 w =>
  lp [t132, (Value.int IntKind.i64 0)] w (b2 fun t10 t11 w g1 =>
  lnS t100 w fun t135 w =>
  bi .lss .i64 t11 t135 w fun t136 w =>
  iff' t136
  (J1 (fun t10_1 w =>
  bi .add .i64 t11 (Value.int IntKind.i64 1) w fun t138 w =>
  g1 [t10_1, t138] w) fun k2 =>
  dr w fun w =>
  ncP t0 <|
  fld 0 t0 w fun t141 _ =>
  fld 1 t141 w fun t142 _ =>
  ld1 t142 w fun t143 _ =>
  ixS 6 t100 t11 w fun t146 _ =>
  fld 3 t146 w fun t147 _ =>
  ld1 t147 w fun t148 _ =>
  ixS 7 t143 t148 w fun t149 _ =>
  fld 0 t149 w fun t150 _ =>
  ld1 t150 w fun t151 _ =>
  bi .eql .i64 t151 (Value.int IntKind.i64 1) w fun t152 _ =>
  iff' t152
  (ixS 6 t100 t11 w fun t156 w =>
  ldN 6 t156 w fun t157 w =>
  bld (zeroD prog 43) #[(0, 1), (1, 6), (7, 1)] [(1, t157)] w fun t158 w =>
  bsl 43 8 1 (zeroD prog 43) [(0, t158)] w fun t159 w =>
  apS prog #[39, 39] 39 t10 t159 w fun t160 w =>
  k2 t160 w)
  (dr w fun w =>
  ncP t0 <|
  fld 8 t0 w fun t163 _ =>
  ld1 t163 w fun t164 _ =>
  fld 0 t5 w fun t165 _ =>
  ldN 3 t165 w fun t166 _ =>
  ixS 6 t100 t11 w fun t169 _ =>
  ldN 6 t169 w fun t170 _ =>
  Cl prog 83 #[t164, t166, t170] w fun _ w =>
  k2 t10 w))
  (ldN 6 t5 w fun t172 w =>
  bld (zeroD prog 45) #[(0, 6), (6, 1)] [(0, t172), (1, t80)] w fun t174 w =>
  stN 7 t2 t174 w fun _ w =>
  ldN 7 t2 w fun r0 _ =>
  K (Value.tuple #[r0, t10, (Value.int IntKind.i64 0)]) w)))))
theorem pacelineref15_Node_Step_calls {t0 : Value} {w : World} {K : KV} (h : pacelineref15_Node_Step t0 w K) : Cl prog 32 #[t0] w K :=
  Cl.mk (by kernel_rfl) (calls_of_FC (fn := fn32) (nt := 176) (rs := [(2, some 45), (3, none), (4, none)]) mixed fnAt32 (by kernel_rfl) (by kernel_rfl) (by kernel_rfl) (Nat.le_of_ble_eq_true (by kernel_rfl)) (by kernel_rfl) (by kernel_rfl) h)

end Go.Proofs.YtbopajpmadlmhaaGreat
end
