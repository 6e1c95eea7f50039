/- Texts of the proof, joined: EngP, EngR, SoloA, EngK, SoloC, SoloE. Conditions: none. -/
import Derived.Test.YtbopajpmadlmhaaGreatR2
import Derived.DeepKeys3
section
namespace Go.E
open Go.RowKit
section
variable {α : Type} {e w : World} {L R : List HP} {K : KV} {size : Nat} {f : α → List Value} {v : Value} {l : List α} {t : TypeId} {S : HP}
theorem Sat.imp_at {P Q : HP} (h : Sat e w L) (i : Nat) (hi : L[i]? = some P) (k : ∀ g, P g → Q g) : Sat e w (L.set i Q) :=
  ((h.pick i hi).imp k).perm (set_perm L i P Q hi)
theorem get_set_self {P Q : HP} {i : Nat} (hi : L[i]? = some P) : (L.set i Q)[i]? = some Q := by
  have := (List.getElem?_eq_some_iff.1 hi).1
  rw [List.getElem?_set_self this]
theorem st_own {j : Nat} {x : α} {xv : Value} {k : IntKind} (hS : Sat e w L) (i : Nat) (hi : L[i]? = some (ownS t size f v l)) (hf : ∀ x, (f x).length = size) (hj : j < l.length) (hx : xv.cells.toList = f x) (hff : ∀ c ∈ f x, flat c = true)
    (hk : ∀ w', Sat e w' (L.set i (ownS t size f v (l.set j x))) → K undef w') : ixS size v (.int k (j : Int)) w fun p w => stN size p xv w K := by
  obtain ⟨b, c, cs, hv, hc, hn, ht, h1⟩ := hS.own_open i hi (by omega)
  subst hv
  refine ixS_sl hj ?_
  have hlen : (j + 1) * size ≤ cs.length := by rw [hc]; exact Nat.mul_le_mul_right _ (by omega)
  rw [Nat.add_mul, Nat.one_mul] at hlen
  refine stN_at h1 i (get_set_self hi) hx (hf x) (by omega) hff rfl fun w2 h2 => ?_
  refine hk _ ?_
  rw [List.set_set] at h2
  have h3 := h2.imp_at (Q := ownS t size f (.slice (some ⟨b, 0, none⟩) l.length c) (l.set j x)) i (get_set_self hi) fun g hg => own_set (f := f) (x := x) hf hc hn ht hj (by rw [Nat.zero_add]) hg
  rw [List.set_set] at h3
  exact h3
theorem st_own' {j : Nat} {x : α} {xv : Value} {k : IntKind} (hS : Sat e w L) (i : Nat) (hi : L[i]? = some (ownS t size f v l)) (hf : ∀ x, (f x).length = size) (hj : j < l.length) (hx : xv.cells.toList = f x) (hff : ∀ c ∈ f x, flat c = true)
    (hk : ∀ w', Sat e w' (L.set i (ownS t size f v (l.set j x))) → K undef w') : ixS size v (.int k (j : Int)) w fun p _ => stN size p xv w K := by
  obtain ⟨a, n, c, k', j', h1, h2, h3, h4, h5⟩ := st_own (k := k) hS i hi hf hj hx hff hk
  exact ⟨a, n, c, k', j', h1, h2, h3, h4, h5⟩

theorem rd_part {lo hi c : Nat} {A : Option Addr} {g : Hp} (hf : ∀ x, (f x).length = size) (hr : rdS size f (.slice A l.length c) l g) (h1 : lo ≤ hi) (h2 : hi ≤ l.length) :
    rdS size f (.slice (if c = lo then A else A.map (·.add (lo * size))) (hi - lo) (c - lo)) ((l.drop lo).take (hi - lo)) g := by
  obtain ⟨A', c', e1, e2, e3⟩ := hr
  injection e1 with e4 e5 e6
  subst e4 e6
  have hlen : ((l.drop lo).take (hi - lo)).length = hi - lo := by rw [List.length_take, List.length_drop]; omega
  refine ⟨_, c - lo, by rw [hlen], by rw [hlen]; omega, fun h0 => ?_⟩
  rw [hlen] at h0
  obtain ⟨a, ha, hc⟩ := e3 (by omega)
  rw [if_neg (by omega), ha]
  refine ⟨_, rfl, ?_⟩
  have e7 : (l.drop lo).flatMap f = (l.flatMap f).drop (lo * size) := by
    have : l.flatMap f = (l.take lo).flatMap f ++ (l.drop lo).flatMap f := by rw [← List.flatMap_append, List.take_append_drop]
    rw [this]
    have e8 : ((l.take lo).flatMap f).length = lo * size := by rw [flatMap_length hf, List.length_take, Nat.min_eq_left (by omega)]
    rw [← e8, List.drop_left]
  have e9 : ((l.drop lo).take (hi - lo)).flatMap f = ((l.drop lo).flatMap f).take ((hi - lo) * size) := by
    have : (l.drop lo).flatMap f = ((l.drop lo).take (hi - lo)).flatMap f ++ ((l.drop lo).drop (hi - lo)).flatMap f := by rw [← List.flatMap_append, List.take_append_drop]
    rw [this]
    have e8 : (((l.drop lo).take (hi - lo)).flatMap f).length = (hi - lo) * size := by rw [flatMap_length hf, hlen]
    rw [← e8, List.take_left]
  rw [e9, e7]
  exact (hc.drop _).take _
theorem slc_to {hi : Nat} {k : IntKind} (hS : Sat e w L) (i : Nat) (hiL : L[i]? = some S) (hr : ∀ g, S g → rdS size f v l g) (hf : ∀ x, (f x).length = size) (h2 : hi ≤ l.length)
    (hk : ∀ v', (∀ g, S g → rdS size f v' (l.take hi) g) → K v' w) : slc size v none (some (.int k (hi : Int))) w K := by
  obtain ⟨A, c, rfl, hlc⟩ := hS.shape i hiL hr
  refine ⟨A, l.length, c, 0, hi, rfl, rfl, ⟨k, hi, rfl, by omega, by omega⟩, by omega, by omega, hk _ fun g hg => ?_⟩
  have := rd_part hf (hr g hg) (Nat.zero_le hi) h2
  rw [List.drop_zero, Nat.sub_zero] at this
  exact this
theorem slc_from {lo : Nat} {k : IntKind} (hS : Sat e w L) (i : Nat) (hiL : L[i]? = some S) (hr : ∀ g, S g → rdS size f v l g) (hf : ∀ x, (f x).length = size) (h2 : lo ≤ l.length)
    (hk : ∀ v', (∀ g, S g → rdS size f v' (l.drop lo) g) → K v' w) : slc size v (some (.int k (lo : Int))) none w K := by
  obtain ⟨A, c, rfl, hlc⟩ := hS.shape i hiL hr
  refine ⟨A, l.length, c, lo, l.length, rfl, ⟨k, lo, rfl, by omega, by omega⟩, rfl, by omega, by omega, hk _ fun g hg => ?_⟩
  have := rd_part hf (hr g hg) h2 (Nat.le_refl _)
  rw [List.take_of_length_le (by rw [List.length_drop]; omega)] at this
  exact this
theorem slc_own {hi : Nat} {k : IntKind} (hS : Sat e w L) (i : Nat) (hiL : L[i]? = some (ownS t size f v l)) (hf : ∀ x, (f x).length = size) (h2 : hi ≤ l.length)
    (hk : ∀ v', (Sat e w (L.set i (ownS t size f v' (l.take hi)))) → K v' w) : slc size v none (some (.int k (hi : Int))) w K := by
  obtain ⟨A, c, rfl, hlc⟩ := hS.shape i hiL (fun g hg => own_rd hg)
  refine ⟨A, l.length, c, 0, hi, rfl, rfl, ⟨k, hi, rfl, by omega, by omega⟩, by omega, by omega, hk _ ?_⟩
  have hA : (if c = 0 then A else A.map (·.add (0 * size))) = A := by
    split
    · rfl
    · cases A with
      | none => rfl
      | some a => simp [Addr.add]
  rw [hA]
  refine hS.imp_at i hiL fun g hg => ?_
  have hlt : (l.take hi).length = hi := by rw [List.length_take]; omega
  rcases hg with ⟨h3, rfl⟩ | ⟨b, c', cs, h3, hb, hc, hn, hx⟩
  · injection h3 with e1 e2 e3
    subst e1 e3
    have : hi = 0 := by simpa using h2
    subst this
    exact .inl ⟨rfl, rfl⟩
  · injection h3 with e1 e2 e3
    subst e1 e3
    refine .inr ⟨b, c, cs, by rw [hlt]; rfl, hb, hc, by omega, ?_⟩
    rw [hlt]
    have e7 : (l.take hi).flatMap f = (l.flatMap f).take (hi * size) := by
      have : l.flatMap f = (l.take hi).flatMap f ++ (l.drop hi).flatMap f := by rw [← List.flatMap_append, List.take_append_drop]
      rw [this]
      have e8 : ((l.take hi).flatMap f).length = hi * size := by rw [flatMap_length hf, hlt]
      rw [← e8, List.take_left]
    rw [e7, ← hx, List.take_take, Nat.min_eq_left (Nat.mul_le_mul_right _ h2)]
end

end Go.E
end
section
namespace Go.E
open Go.RowKit
section
variable {P : Program} {w : World} {K : KV}
theorem addn_s {a b : Nat} (h1 : a + b < 9223372036854775807) (h : K (.int .i64 ((a + b : Nat) : Int)) w) : bi .add .i64 (.int .i64 (a : Int)) (.int .i64 (b : Int)) w K :=
  add_s (by omega) (by omega) (by rw [show (a : Int) + (b : Int) = ((a + b : Nat) : Int) from by omega]; exact h)
theorem subn_s {a b : Nat} (h1 : b ≤ a) (h2 : a < 9223372036854775807) (h : K (.int .i64 ((a - b : Nat) : Int)) w) : bi .sub .i64 (.int .i64 (a : Int)) (.int .i64 (b : Int)) w K :=
  sub_s (by omega) (by omega) (by rw [show (a : Int) - (b : Int) = ((a - b : Nat) : Int) from by omega]; exact h)
theorem dec_s {a : Nat} (h1 : 1 ≤ a) (h2 : a < 9223372036854775807) (h : K (.int .i64 ((a - 1 : Nat) : Int)) w) : bi .sub .i64 (.int .i64 (a : Int)) (.int .i64 1) w K := subn_s (b := 1) h1 h2 h
theorem muln_s {a b : Nat} (h1 : a * b < 9223372036854775807) (h : K (.int .i64 ((a * b : Nat) : Int)) w) : bi .mul .i64 (.int .i64 (a : Int)) (.int .i64 (b : Int)) w K :=
  mul_s (by have : (0 : Int) ≤ ((a * b : Nat) : Int) := by omega
            rw [Int.natCast_mul] at this; omega) (by have : ((a * b : Nat) : Int) < 9223372036854775807 := by omega
                                                     rw [Int.natCast_mul] at this; omega) (by rw [← Int.natCast_mul]; exact h)
theorem ltn_c {k : IntKind} {a b : Nat} (h1 : a < b → K (.bool true) w) (h2 : b ≤ a → K (.bool false) w) : bi .lss k (.int k (a : Int)) (.int k (b : Int)) w K :=
  lt_c (fun c => h1 (by omega)) (fun c => h2 (by omega))
theorem wrap_u64n {n : Nat} (h : n < 9223372036854775807) : IntKind.u64.wrap (n : Int) = n := by
  unfold IntKind.wrap
  simp only [IntKind.bits, IntKind.signed]
  have : (n : Int) % 2 ^ 64 = n := Int.emod_eq_of_lt (by omega) (by omega)
  simp
  omega
theorem half_s {t : TypeId} {xo yo : Nat → Operand} {n : Nat} (h : n < 9223372036854775807) (hk : K (.int .i64 ((n / 2 : Nat) : Int)) w) :
    cvI .u64 (.int .i64 (n : Int)) w fun x w => bO P .shr t (xo 0) (yo 0) x (.int .u64 1) w fun y w => cvI .i64 y w K := by
  refine cv_s ?_
  rw [wrap_u64n h]
  refine ex_oV (w' := w) (v := .int .u64 ((n / 2 : Nat) : Int)) ?_ ?_
  · have hg : (eqGuard .shr t (xo 0) (yo 0) (.int .u64 (n : Int)) (.int .u64 1)).run P w = .ok () w := rfl
    simp only [Sem.run_bind, hg, Result.andThen_ok, binOp, Op.shift, Sem.run_pure, Int.reduceLT, if_false]
    have e1 : min (1 : Int).toNat IntKind.u64.bits = 1 := by decide
    rw [e1]
    have e2 : (n : Int).fdiv (2 ^ 1) = ((n / 2 : Nat) : Int) := by
      rw [show (2 : Int) ^ 1 = 2 from by decide, Int.fdiv_eq_ediv_of_nonneg _ (by decide)]
      omega
    rw [e2]
  · refine cv_s ?_
    rw [wrap_i64 (by omega) (by omega)]
    exact hk
end
section
variable {α : Type} {e w : World} {R : List HP} {K : KV} {size : Nat} {f : α → List Value} {v : Value} {l : List α} {t : TypeId}
theorem swap_s {i j : Nat} {x y : α} (hf : ∀ x, (f x).length = size) (hff : ∀ x, ∀ c ∈ f x, flat c = true) (hx : l[i]? = some x) (hy : l[j]? = some y) (hS : Sat e w (ownS t size f v l :: R))
    (hk : ∀ w', Sat e w' (ownS t size f v ((l.set i y).set j x) :: R) → K undef w') :
    ixS size v (.int .i64 (j : Int)) w fun p _ => ldN size p w fun a _ => ixS size v (.int .i64 (i : Int)) w fun q _ => ldN size q w fun b _ =>
      ixS size v (.int .i64 (i : Int)) w fun q _ => stN size q a w fun _ w => ixS size v (.int .i64 (j : Int)) w fun p _ => stN size p b w K := by
  have hi : i < l.length := (List.getElem?_eq_some_iff.1 hx).1
  have hj : j < l.length := (List.getElem?_eq_some_iff.1 hy).1
  refine ixS_rd hS 0 rfl (fun g hg => own_rd hg) hf hy fun p hp => ?_
  refine ldN_of hS 0 rfl hp (hf y) ?_
  refine ixS_rd hS 0 rfl (fun g hg => own_rd hg) hf hx fun q hq => ?_
  refine ldN_of hS 0 rfl hq (hf x) ?_
  refine st_own' hS 0 rfl hf hi (x := y) rfl (hff y) fun w1 h1 => ?_
  refine st_own' h1 0 rfl hf (by rw [List.length_set]; exact hj) (x := x) rfl (hff x) fun w2 h2 => ?_
  exact hk _ h2
end

section
variable {α : Type}
theorem get_mid {X Y : List α} {a : α} {n : Nat} (h : n = X.length) : (X ++ a :: Y)[n]? = some a := by subst h; simp
theorem set_mid {X Y : List α} {a b : α} {n : Nat} (h : n = X.length) : (X ++ a :: Y).set n b = X ++ b :: Y := by subst h; simp
theorem get_mid2 {X M Y : List α} {a b : α} {n : Nat} (h : n = X.length + 1 + M.length) : (X ++ a :: (M ++ b :: Y))[n]? = some b := by
  rw [show X ++ a :: (M ++ b :: Y) = (X ++ a :: M) ++ b :: Y from by simp]
  exact get_mid (by rw [h]; simp; omega)
theorem set_mid2 {X M Y : List α} {a b c : α} {n : Nat} (h : n = X.length + 1 + M.length) : (X ++ a :: (M ++ b :: Y)).set n c = X ++ a :: (M ++ c :: Y) := by
  rw [show X ++ a :: (M ++ b :: Y) = (X ++ a :: M) ++ b :: Y from by simp, set_mid (by rw [h]; simp; omega)]
  simp
theorem swap_mid {X M Y : List α} {a b : α} {i j : Nat} (h1 : i = X.length) (h2 : j = X.length + 1 + M.length) : ((X ++ a :: (M ++ b :: Y)).set i b).set j a = X ++ b :: (M ++ a :: Y) := by
  rw [set_mid h1, set_mid2 h2]
theorem swap_mid' {X M Y : List α} {a b : α} {i j : Nat} (h1 : i = X.length) (h2 : j = X.length + 1 + M.length) : ((X ++ a :: (M ++ b :: Y)).set j a).set i b = X ++ b :: (M ++ a :: Y) := by
  rw [set_mid2 h2, set_mid h1]
theorem drop_cons {l : List α} {i : Nat} {x : α} (h : l[i]? = some x) : l.drop i = x :: l.drop (i + 1) := by
  obtain ⟨hi, he⟩ := List.getElem?_eq_some_iff.1 h
  rw [← he, ← List.drop_eq_getElem_cons]
end
end Go.E
end
section
namespace Go.Proofs.YtbopajpmadlmhaaGreat
open Go Go.E Go.RowKit Go.WideShapes Go.Deep
set_option maxRecDepth 100000

structure Out where
  Class : Int
  Delay : Int
  Add : Int
  deriving DecidableEq
def Out.ns (x : Out) : List Int := [x.Class, x.Delay, x.Add]
abbrev Out.cs (x : Out) : List Value := ints x.ns
structure Rule where
  State : Int
  Class : Int
  Next : Int
  Sends : List Out
structure Fed where
  Kind : Int
  Look : Int
  Start : Int
  Rules : List Rule
  Pubs : List Int
  Subs : List Int
  Init : List Out
structure Wd where
  Parents : List Int
  Feds : List Fed
  End : Int
structure RuleX where
  State : Int
  Class : Int
  Next : Int
  sv : Value
  Sends : List Out
def RuleX.cs (x : RuleX) : List Value := [.int .i64 x.State, .int .i64 x.Class, .int .i64 x.Next, x.sv]
def RuleX.r (x : RuleX) : Rule := ⟨x.State, x.Class, x.Next, x.Sends⟩
structure FedX where
  Kind : Int
  Look : Int
  Start : Int
  rv : Value
  Rules : List RuleX
  pv : Value
  Pubs : List Int
  sv : Value
  Subs : List Int
  iv : Value
  Init : List Out
def FedX.cs (x : FedX) : List Value := [.int .i64 x.Kind, .int .i64 x.Look, .int .i64 x.Start, x.rv, x.pv, x.sv, x.iv]
def FedX.f (x : FedX) : Fed := ⟨x.Kind, x.Look, x.Start, x.Rules.map RuleX.r, x.Pubs, x.Subs, x.Init⟩
structure WdX where
  pv : Value
  Parents : List Int
  fv : Value
  Feds : List FedX
  End : Int
def WdX.cs (x : WdX) : List Value := [x.pv, x.fv, .int .i64 x.End]
def WdX.w (x : WdX) : Wd := ⟨x.Parents, x.Feds.map FedX.f, x.End⟩

structure RdRules (v : Value) (l : List RuleX) (g : Hp) : Prop where
  s : rdS 4 RuleX.cs v l g
  e : ∀ r ∈ l, rdS 3 Out.cs r.sv r.Sends g
structure RdFed (f : FedX) (g : Hp) : Prop where
  rules : RdRules f.rv f.Rules g
  pubs : rdS 1 (intsK .i64) f.pv f.Pubs g
  subs : rdS 1 (intsK .i64) f.sv f.Subs g
  init : rdS 3 Out.cs f.iv f.Init g
structure RdWd (x : WdX) (g : Hp) : Prop where
  par : rdS 1 (intsK .i64) x.pv x.Parents g
  feds : rdS 7 FedX.cs x.fv x.Feds g
  fed : ∀ f ∈ x.Feds, RdFed f g

def i64 (n : Int) : Prop := (Lit.int .i64 n).wf = true
def Out.wf (o : Out) : Prop := i64 o.Class ∧ i64 o.Delay ∧ i64 o.Add
def RuleX.wf (r : RuleX) : Prop := i64 r.State ∧ i64 r.Class ∧ i64 r.Next ∧ ∀ o ∈ r.Sends, o.wf
def FedX.wf (f : FedX) : Prop := i64 f.Kind ∧ i64 f.Look ∧ i64 f.Start ∧ (∀ r ∈ f.Rules, r.wf) ∧ (∀ n ∈ f.Pubs, i64 n) ∧ (∀ n ∈ f.Subs, i64 n) ∧ ∀ o ∈ f.Init, o.wf
def WdX.wf (x : WdX) : Prop := (∀ n ∈ x.Parents, i64 n) ∧ (∀ f ∈ x.Feds, f.wf) ∧ i64 x.End

section
variable {H : Type} {enc : TypeId × Value → H} {P : Program} {w : World} {base : Nat} {spare : Nat → Bool} {held : Bool}
theorem open_sliceG {α : Type} {st t : TypeId} {s : Nat} {f : α → List Value} (Good : α → Prop) (hu : P.underlying st = some (.slice t)) (hsz : szD P t = s) (hs : 0 < s) (hf : ∀ x, (f x).length = s)
    (hdec : ∀ fuel cs x, DataW.trod enc P w base spare held fuel t cs = some x → ∃ a : α, f a = cs ∧ Good a) {fuel : Nat} {cs : List Value} {x : DataW H × List MemPlace}
    (h : DataW.trod enc P w base spare held fuel st cs = some x) : ∃ (v : Value) (l : List α), cs = [v] ∧ (∀ a ∈ l, Good a) ∧ ∀ g, Old w g → rdS s f v l g := by
  rcases open_slice hu h with ⟨hcs, _⟩ | ⟨a', len, cap, m, k, D, Pl, hcs, hb, hl, hm, hmm, hx, hi⟩
  · exact ⟨_, [], hcs, by simp, fun g _ => ⟨none, 0, rfl, Nat.le_refl _, fun h => absurd h (by simp)⟩⟩
  · rw [cellsOf_sz, hsz] at hi
    have hlm : len ≤ m := by rw [hmm]; split <;> omega
    have hex : ∀ i, i < len → ∃ a : α, Good a ∧ w.cells? base (a'.add (i * s)) s = some (f a) := by
      intro i hil
      obtain ⟨cs', h1, h2⟩ := hi i (by omega)
      obtain ⟨a, h3, h4⟩ := hdec _ _ _ h2
      exact ⟨a, h4, by rw [h3]; exact h1⟩
    rcases Nat.eq_zero_or_pos len with h0 | h0
    · subst h0
      exact ⟨_, [], hcs, by simp, fun g _ => ⟨some a', cap, rfl, Nat.zero_le _, fun h => absurd h (by simp)⟩⟩
    obtain ⟨a0, _⟩ := hex 0 h0
    obtain ⟨F, hF⟩ : ∃ F : Nat → α, ∀ i, i < len → Good (F i) ∧ w.cells? base (a'.add (i * s)) s = some (f (F i)) :=
      ⟨fun i => if h : i < len then (hex i h).choose else a0, fun i h => by simp only [dif_pos h]; exact (hex i h).choose_spec⟩
    refine ⟨_, (List.range len).map F, hcs, fun a ha => ?_, fun g hg => ⟨some a', cap, by simp, by simpa using hl, fun _ => ⟨a', rfl, ?_⟩⟩⟩
    · obtain ⟨i, hi, rfl⟩ := List.mem_map.1 ha
      exact (hF i (by simpa using hi)).1
    · have hblk : a'.block < w.heap.size := by
        have := cells?_lt hs (hF 0 h0).2
        simpa [Addr.add] using this
      refine Old.cells hblk (fun i v hv => ?_) g hg
      have hli : i < len * s := by
        have h1 := (List.getElem?_eq_some_iff.1 hv).1
        rw [flatMap_length hf, List.length_map, List.length_range] at h1
        exact h1
      have hq : i / s < len := by rw [Nat.div_lt_iff_lt_mul hs]; exact hli
      have hmod := Nat.mod_lt i hs
      obtain ⟨_, h2⟩ := hF (i / s) hq
      obtain ⟨_, _, h3⟩ := World.cells?_some h2
      have h4 := h3 (i % s) hmod
      have hdm : i / s * s + i % s = i := by rw [Nat.mul_comm]; exact Nat.div_add_mod i s
      rw [E.add_add, hdm] at h4
      rw [h4]
      have h5 := flatMap_at hf ((List.range len).map F) (i / s) (F (i / s)) (by simp [hq])
      have h6 := congrArg (fun l => l[i % s]?) h5
      simp only [List.getElem?_take, List.getElem?_drop, hdm, if_pos hmod] at h6
      rw [← h6]
      exact hv

def fieldsB (P : Program) (t : TypeId) (l : List (TypeId × Nat)) : Bool := match P.underlying t with
  | some (.struct fs) => fs.toList.map (fun f => (f.type, f.offset)) == l
  | _ => false
theorem dec_fields {t : TypeId} {l : List (TypeId × Nat)} (hB : fieldsB P t l = true) {fuel : Nat} {cs : List Value} {x : DataW H × List MemPlace} (h : DataW.trod enc P w base spare held fuel t cs = some x) :
    cs.length = szD P t ∧ ∀ (i : Nat) (ty : TypeId) (off : Nat), l[i]? = some (ty, off) → ∃ n y, DataW.trod enc P w base spare held n ty ((cs.drop off).take (szD P ty)) = some y := by
  unfold fieldsB at hB
  split at hB
  · rename_i fs hu
    have hl := beq_iff_eq.1 hB
    obtain ⟨xs, n, _, _, hlen, hxl, hg⟩ := DataW.trod_struct hu h
    refine ⟨hlen.trans (cellsOf_sz t), fun i ty off hi => ?_⟩
    rw [← hl, List.getElem?_map, Array.getElem?_toList] at hi
    cases hf : fs[i]? with
    | none => rw [hf] at hi; cases hi
    | some f =>
      rw [hf] at hi
      simp only [Option.map_some, Option.some.injEq, Prod.mk.injEq] at hi
      obtain ⟨rfl, rfl⟩ := hi
      have h1 := hg i f hf
      rw [cellsOf_sz] at h1
      have h2 := (Array.getElem?_eq_some_iff.1 hf).1
      cases hy : xs[i]? with
      | none => rw [List.getElem?_eq_none_iff] at hy; omega
      | some y => exact ⟨n, y, h1.trans hy⟩
  · cases hB
end

section
variable {H : Type} {enc : TypeId × Value → H} {w : World} {base : Nat} {spare : Nat → Bool} {held : Bool} {fuel : Nat} {cs : List Value} {x : DataW H × List MemPlace}
theorem dec_int (h : DataW.trod enc prog w base spare held fuel 3 cs = some x) : ∃ n, cs = [.int .i64 n] ∧ i64 n := trod_int64 (by kernel_rfl) h
theorem dec_out (h : DataW.trod enc prog w base spare held fuel 87 cs = some x) : ∃ a : Out, Out.cs a = cs ∧ a.wf := by
  obtain ⟨ns, h1, h2, h3⟩ := trod_ints 6 87 3 eqT_87 (by kernel_rfl) _ _ _ h
  match ns, h1 with
  | [a, b, c], _ => exact ⟨⟨a, b, c⟩, h2.symm, h3 a (by simp), h3 b (by simp), h3 c (by simp)⟩
theorem dec_outs (h : DataW.trod enc prog w base spare held fuel 61 cs = some x) : ∃ (v : Value) (l : List Out), cs = [v] ∧ (∀ a ∈ l, a.wf) ∧ ∀ g, Old w g → rdS 3 Out.cs v l g :=
  open_sliceG (f := Out.cs) (s := 3) Out.wf und_61 (by kernel_rfl) (by decide) (fun _ => rfl) (fun _ _ _ h => dec_out h) h
theorem dec_ints (h : DataW.trod enc prog w base spare held fuel 24 cs = some x) : ∃ (v : Value) (l : List Int), cs = [v] ∧ (∀ a ∈ l, i64 a) ∧ ∀ g, Old w g → rdS 1 (intsK .i64) v l g :=
  open_sliceG (f := intsK .i64) (s := 1) i64 und_24 (by kernel_rfl) (by decide) (fun _ => rfl) (fun _ cs _ h => by obtain ⟨n, h1, h2⟩ := dec_int h; exact ⟨n, h1.symm, h2⟩) h
theorem dec_rule (h : DataW.trod enc prog w base spare held fuel 89 cs = some x) : ∃ a : RuleX, RuleX.cs a = cs ∧ a.wf ∧ ∀ g, Old w g → rdS 3 Out.cs a.sv a.Sends g := by
  obtain ⟨h1, h2⟩ := dec_fields (l := [(3, 0), (3, 1), (3, 2), (61, 3)]) (by kernel_rfl) h
  have hsz : szD prog 89 = 4 := by kernel_rfl
  have hs1 : szD prog 3 = 1 := by kernel_rfl
  have hs2 : szD prog 61 = 1 := by kernel_rfl
  rw [hsz] at h1
  match cs, h1 with
  | [a, b, c, d], _ =>
    obtain ⟨_, _, k1⟩ := h2 0 _ _ rfl
    obtain ⟨_, _, k2⟩ := h2 1 _ _ rfl
    obtain ⟨_, _, k3⟩ := h2 2 _ _ rfl
    obtain ⟨_, _, k4⟩ := h2 3 _ _ rfl
    rw [hs1] at k1 k2 k3
    rw [hs2] at k4
    obtain ⟨n1, e1, f1⟩ := dec_int k1
    obtain ⟨n2, e2, f2⟩ := dec_int k2
    obtain ⟨n3, e3, f3⟩ := dec_int k3
    obtain ⟨v, l, e4, f4, r4⟩ := dec_outs k4
    injection e1 with e1
    injection e2 with e2
    injection e3 with e3
    injection e4 with e4
    subst e1 e2 e3 e4
    exact ⟨⟨n1, n2, n3, d, l⟩, rfl, ⟨f1, f2, f3, f4⟩, r4⟩
theorem dec_rules (h : DataW.trod enc prog w base spare held fuel 64 cs = some x) : ∃ (v : Value) (l : List RuleX), cs = [v] ∧ (∀ a ∈ l, a.wf) ∧ ∀ g, Old w g → RdRules v l g := by
  obtain ⟨v, l, h1, h2, h3⟩ := open_sliceG (f := RuleX.cs) (s := 4) (fun a : RuleX => a.wf ∧ ∀ g, Old w g → rdS 3 Out.cs a.sv a.Sends g) und_64 (by kernel_rfl) (by decide) (fun _ => rfl) (fun _ _ _ h => dec_rule h) h
  exact ⟨v, l, h1, fun a ha => (h2 a ha).1, fun g hg => ⟨h3 g hg, fun r hr => (h2 r hr).2 g hg⟩⟩
theorem dec_fed (h : DataW.trod enc prog w base spare held fuel 66 cs = some x) : ∃ a : FedX, FedX.cs a = cs ∧ a.wf ∧ ∀ g, Old w g → RdFed a g := by
  obtain ⟨h1, h2⟩ := dec_fields (l := [(3, 0), (3, 1), (3, 2), (64, 3), (24, 4), (24, 5), (61, 6)]) (by kernel_rfl) h
  have hsz : szD prog 66 = 7 := by kernel_rfl
  have hs1 : szD prog 3 = 1 := by kernel_rfl
  have hs2 : szD prog 61 = 1 := by kernel_rfl
  have hs3 : szD prog 64 = 1 := by kernel_rfl
  have hs4 : szD prog 24 = 1 := by kernel_rfl
  rw [hsz] at h1
  match cs, h1 with
  | [a, b, c, d, e, f, i], _ =>
    obtain ⟨_, _, k1⟩ := h2 0 _ _ rfl
    obtain ⟨_, _, k2⟩ := h2 1 _ _ rfl
    obtain ⟨_, _, k3⟩ := h2 2 _ _ rfl
    obtain ⟨_, _, k4⟩ := h2 3 _ _ rfl
    obtain ⟨_, _, k5⟩ := h2 4 _ _ rfl
    obtain ⟨_, _, k6⟩ := h2 5 _ _ rfl
    obtain ⟨_, _, k7⟩ := h2 6 _ _ rfl
    rw [hs1] at k1 k2 k3
    rw [hs3] at k4
    rw [hs4] at k5 k6
    rw [hs2] at k7
    obtain ⟨n1, e1, f1⟩ := dec_int k1
    obtain ⟨n2, e2, f2⟩ := dec_int k2
    obtain ⟨n3, e3, f3⟩ := dec_int k3
    obtain ⟨v4, l4, e4, f4, r4⟩ := dec_rules k4
    obtain ⟨v5, l5, e5, f5, r5⟩ := dec_ints k5
    obtain ⟨v6, l6, e6, f6, r6⟩ := dec_ints k6
    obtain ⟨v7, l7, e7, f7, r7⟩ := dec_outs k7
    injection e1 with e1
    injection e2 with e2
    injection e3 with e3
    injection e4 with e4
    injection e5 with e5
    injection e6 with e6
    injection e7 with e7
    subst e1 e2 e3 e4 e5 e6 e7
    exact ⟨⟨n1, n2, n3, d, l4, e, l5, f, l6, i, l7⟩, rfl, ⟨f1, f2, f3, f4, f5, f6, f7⟩, fun g hg => ⟨r4 g hg, r5 g hg, r6 g hg, r7 g hg⟩⟩
theorem open_world {base : Nat} {v : Value} {d : DataW H} {p : List MemPlace} {cs : Array Value} (hv : v = .agg cs) (h : DataW.Trod enc prog w base spare held 27 v d p) : ∃ a : WdX, v = .agg a.cs.toArray ∧ a.wf ∧ ∀ g, Old w g → RdWd a g := by
  subst hv
  obtain ⟨fuel, hf⟩ := h
  obtain ⟨h1, h2⟩ := dec_fields (l := [(24, 0), (25, 1), (3, 2)]) (by kernel_rfl) hf
  have hsz : szD prog 27 = 3 := by kernel_rfl
  have hs1 : szD prog 3 = 1 := by kernel_rfl
  have hs2 : szD prog 24 = 1 := by kernel_rfl
  have hs3 : szD prog 25 = 1 := by kernel_rfl
  rw [hsz] at h1
  have hc : (Value.agg cs).cells.toList = cs.toList := rfl
  rw [hc] at h1 h2
  obtain ⟨a, b, c, hl⟩ : ∃ a b c, cs.toList = [a, b, c] := by
    match hcs : cs.toList, h1 with
    | [a, b, c], _ => exact ⟨a, b, c, rfl⟩
  rw [hl] at h2
  obtain ⟨_, _, k1⟩ := h2 0 _ _ rfl
  obtain ⟨_, _, k2⟩ := h2 1 _ _ rfl
  obtain ⟨_, _, k3⟩ := h2 2 _ _ rfl
  rw [hs2] at k1
  rw [hs3] at k2
  rw [hs1] at k3
  obtain ⟨v1, l1, e1, f1, r1⟩ := dec_ints k1
  obtain ⟨v2, l2, e2, f2, r2⟩ := open_sliceG (f := FedX.cs) (s := 7) (fun a : FedX => a.wf ∧ ∀ g, Old w g → RdFed a g) und_25 (by kernel_rfl) (by decide) (fun _ => rfl) (fun _ _ _ h => dec_fed h) k2
  obtain ⟨n3, e3, f3⟩ := dec_int k3
  injection e1 with e1
  injection e2 with e2
  injection e3 with e3
  subst e1 e2 e3
  refine ⟨⟨a, l1, b, l2, n3⟩, ?_, ⟨f1, fun f hf => (f2 f hf).1, f3⟩, fun g hg => ⟨r1 g hg, r2 g hg, fun f hf => (f2 f hf).2 g hg⟩⟩
  congr 1
  apply Array.ext'
  exact hl
end
end Go.Proofs.YtbopajpmadlmhaaGreat
end
section
namespace Go.E
open Go.RowKit

section
variable {κ : Type} [DecidableEq κ] {P : Program} {kt : TypeId} {ns : κ → List Int} {s n m D : Nat}
theorem sameBits_ints (d : Nat) : ∀ l : List Int, ((ints l).zip (ints l)).all (fun (x, y) => Instr.sameBits d x y) = true
  | [] => rfl
  | a :: l => by
    have ih := sameBits_ints d l
    simp only [ints, List.map_cons, List.zip_cons_cons, List.all_cons] at ih ⊢
    rw [ih]
    cases d <;> simp [Instr.sameBits]
theorem run_findAsking (hT : eqT P n kt = some s) (hag : isAggT P kt = true) (hn : n ≤ 10000) (hl : ∀ k, (ns k).length = s) (hinj : ∀ a b, (ns a == ns b) = decide (a = b)) (k : κ) :
    ∀ (es : List MapEntry) (ks : List κ) (i : Nat) (w : World), es.map (·.key) = ks.map (fun k => Value.agg (ints (ns k)).toArray) →
      (Instr.findAsking kt (.agg (ints (ns k)).toArray) es i).run P w = .ok ((ks.findIdx? fun x => decide (x = k)).bind fun j => (es[j]?).map fun e => (i + j, e.val)) w
  | [], ks, i, w, h => by
    cases ks with
    | nil => rfl
    | cons => cases h
  | e :: es, ks, i, w, h => by
    cases ks with
    | nil => cases h
    | cons x ks =>
      simp only [List.map_cons, List.cons.injEq] at h
      have he := (run_eqIn n kt s hT (10000 - n) (ns k) (ns x) (hl k) (hl x) w).2 hag
      rw [show 10000 - n + n = 10000 from by omega, hinj] at he
      have he' : (Op.equal kt (.agg (ints (ns k)).toArray) (.agg (ints (ns x)).toArray)).run P w = .ok (decide (k = x)) w := he
      simp only [Instr.findAsking, Sem.run_bind, h.1, he', Result.andThen_ok, List.findIdx?_cons]
      by_cases hx : x = k
      · subst hx
        simp
      · have hk : ¬ k = x := fun e => hx e.symm
        simp only [hk, hx, decide_false, Bool.false_eq_true, if_false]
        rw [run_findAsking hT hag hn hl hinj k es ks (i + 1) w h.2]
        cases ks.findIdx? (fun x => decide (x = k)) with
        | none => rfl
        | some j => simp [Nat.add_comm, Nat.add_left_comm]

theorem keyT_chk {fs : Array Field} (hu : P.underlying kt = some (.struct fs)) (hT : eqT P n kt = some s) (hag : isAggT P kt = true) (hn : n ≤ 10000) (hl : ∀ k, (ns k).length = s) (hinj : ∀ a b, (ns a == ns b) = decide (a = b))
    (hc : ∀ (b : Bool) (k : κ) (w : World), (Instr.checkKey b 10000 kt (.agg (ints (ns k)).toArray)).run P w = .ok () w) : KeyT P kt (fun k => .agg (ints (ns k)).toArray) where
  chk := hc
  fnd k es ks h w := by
    unfold Instr.findKey
    have h1 := run_findAsking (w := w) hT hag hn hl hinj k es ks 0 h
    cases es with
    | nil =>
      cases ks with
      | nil => simp only [Sem.run_bind, run_und hu, Result.andThen_ok, Instr.findNow, Sem.run_pure]; rfl
      | cons => cases h
    | cons e es =>
      have h2 : Instr.findNow (.struct fs) (.agg (ints (ns k)).toArray) (e :: es) 0 = none := by
        unfold Instr.findNow
        simp [Instr.sameNow]
      simp only [Sem.run_bind, run_und hu, Result.andThen_ok, h2, h1, Nat.zero_add]
  sam k := by
    show Instr.sameBits (9999 + 1) _ _ = true
    simp only [Instr.sameBits, beq_self_eq_true, Bool.true_and]
    exact sameBits_ints 9999 (ns k)
end

section
variable {κ ν : Type} [DecidableEq κ] {P : Program} {kt vt t : TypeId} {kf : κ → Value} {vf : ν → Value} {zv : Value} {e w : World} {L : List HP} {K : KV} {b : Nat} {m : List (κ × ν)}
def dlA (m : List (κ × ν)) (k : κ) : List (κ × ν) := match (m.map (·.1)).findIdx? fun x => decide (x = k) with
  | some i => m.eraseIdx i
  | none => m
theorem dlM_s {ty : TypeId} (KT : KeyT P kt kf) (MT : MapT P t kt vt zv) {x : TypeId} (hS : Sat e w (isMap kf vf b m :: L)) (k : κ)
    (hk : ∀ w', Sat e w' (isMap kf vf b (dlA m k) :: L) → K (.tuple #[]) w') : dlM P #[t, x] ty (.map (some b)) (kf k) w K := by
  obtain ⟨h1, h2, d, s1, s2, ⟨es, clock, hb, hm, hbo⟩, r⟩ := hS.mem
  have hh : w.heap[b]? = some (.map es clock) := s1 _ _ hb
  have hS0 : Sat e w ((fun g => g b = some (.map es clock)) :: L) := ⟨hS.os, hS.tape, hS.output, hS.drawn, hS.size, h1, h2, d, s1, s2, hb, r⟩
  have hf := KT.fnd k es.toList (m.map (·.1)) (es_keys hm) w
  cases hx : (m.map (·.1)).findIdx? (fun x => decide (x = k)) with
  | none =>
    rw [hx] at hf
    simp only [Option.bind_none] at hf
    refine ex_oV (w' := World.setB w b (.map es clock)) (v := .tuple #[]) ?_ (hk _ ?_)
    · unfold Builtin.delete_
      simp only [List.getElem?_toArray, List.getElem?_cons_zero, List.getElem?_cons_succ, Sem.run_bind, run_und MT.und, Result.andThen_ok, run_getObj hh, KT.chk, hf, setObj, Sem.run, hh, World.setB, Sem.run_pure]
    · refine hS0.setB.imp fun g hg => ⟨_, _, hg, ?_, hbo⟩
      rw [show dlA m k = m from by unfold dlA; rw [hx]]
      exact hm
  | some i =>
    rw [hx] at hf
    simp only [Option.bind_some] at hf
    obtain ⟨hi, _, _⟩ := List.findIdx?_eq_some_iff_getElem.1 hx
    simp only [List.length_map] at hi
    have hle : es.toList.length = m.length := by simpa using congrArg List.length hm
    have hie : i < es.toList.length := by omega
    rw [List.getElem?_eq_getElem hie] at hf
    simp only [Option.map_some] at hf
    have he : (es.eraseIdxIfInBounds i).toList = es.toList.eraseIdx i := by
      unfold Array.eraseIdxIfInBounds
      rw [dif_pos (by simpa using hie), Array.toList_eraseIdx]
    refine ex_oV (w' := World.setB w b (.map (es.eraseIdxIfInBounds i) clock)) (v := .tuple #[]) ?_ (hk _ ?_)
    · unfold Builtin.delete_
      simp only [List.getElem?_toArray, List.getElem?_cons_zero, List.getElem?_cons_succ, Sem.run_bind, run_und MT.und, Result.andThen_ok, run_getObj hh, KT.chk, hf, setObj, Sem.run, hh, World.setB, Sem.run_pure]
    · refine hS0.setB.imp fun g hg => ⟨_, _, hg, ?_, ?_, ?_⟩
      · rw [show dlA m k = m.eraseIdx i from by unfold dlA; rw [hx], he, List.eraseIdx_map_c, hm, ← List.eraseIdx_map_c]
      · rw [he]
        exact hbo.1.sublist (List.eraseIdx_sublist _ _)
      · intro x hx
        rw [he] at hx
        exact hbo.2 x (List.mem_of_mem_eraseIdx hx)
theorem dlA_filter : ∀ {m : List (κ × ν)}, Uniq m → ∀ k, dlA m k = m.filter fun p => !decide (p.1 = k)
  | [], _, k => rfl
  | p :: m, h, k => by
    unfold Uniq at h
    rw [List.map_cons, List.nodup_cons] at h
    by_cases hp : p.1 = k
    · have h1 : dlA (p :: m) k = m := by unfold dlA; simp [List.findIdx?_cons, hp]
      rw [h1, List.filter_cons]
      simp only [hp, decide_true, Bool.not_true, Bool.false_eq_true, if_false]
      symm
      apply List.filter_eq_self.2
      intro q hq
      have : ¬ q.1 = k := fun e => h.1 (by rw [hp, ← e]; exact List.mem_map.2 ⟨q, hq, rfl⟩)
      simp [this]
    · have ih := dlA_filter (m := m) h.2 k
      have h1 : dlA (p :: m) k = p :: dlA m k := by
        unfold dlA
        rw [List.map_cons, List.findIdx?_cons]
        simp only [hp, decide_false, Bool.false_eq_true, if_false]
        cases (m.map (·.1)).findIdx? (fun x => decide (x = k)) with
        | none => rfl
        | some i => rfl
      rw [h1, ih, List.filter_cons]
      simp [hp]
theorem Uniq.dl {m : List (κ × ν)} (h : Uniq m) (k : κ) : Uniq (dlA m k) := by
  rw [dlA_filter h]
  exact (List.Sublist.map _ List.filter_sublist).nodup h
theorem lkA_dl {m : List (κ × ν)} (h : Uniq m) (k j : κ) : lkA (dlA m k) j = if j = k then none else lkA m j := by
  rw [dlA_filter h]
  unfold lkA
  rw [List.find?_filter]
  by_cases hj : j = k
  · subst hj
    rw [if_pos rfl]
    simp
  · rw [if_neg hj]
    congr 1
    congr 1
    funext p
    by_cases hp : p.1 = j
    · have : ¬ p.1 = k := fun e => hj (hp.symm.trans e)
      simp [hp, hj]
    · simp [hp]
end
end Go.E
end
section
namespace Go.Proofs.YtbopajpmadlmhaaGreat
open Go Go.E
set_option maxRecDepth 100000
variable {e w : World} {L R : List HP} {K : KV} {S : HP}

def okTree (ps : List Int) : Prop := 1 ≤ ps.length ∧ ps.length ≤ 16 ∧ ∀ (i : Nat) p, ps[i]? = some p → -1 ≤ p ∧ p < i
def okOut (o : Out) : Prop := 0 ≤ o.Class ∧ o.Class < 16 ∧ 0 ≤ o.Delay ∧ o.Delay < 1048577 ∧ 0 ≤ o.Add ∧ o.Add < 1000
def okRule (r : Rule) : Prop := 0 ≤ r.State ∧ r.State < 8 ∧ 0 ≤ r.Next ∧ r.Next < 8 ∧ 0 ≤ r.Class ∧ r.Class < 16 ∧ r.Sends.length ≤ 3 ∧ ∀ o ∈ r.Sends, okOut o
def onOf (r : Rule) : Int × Int := (r.State, r.Class)
def okRules (l : List Rule) : Prop := l.length ≤ 32 ∧ (∀ r ∈ l, okRule r) ∧ (l.map onOf).Nodup
def rising (most : Int) : Int → List Int → Prop
  | _, [] => True
  | lo, c :: l => lo < c ∧ c < most ∧ rising most c l
def sendsE (f : Fed) : List Out → Int
  | [] => 0
  | o :: l => if o.Class ∉ f.Pubs then 81 else if o.Delay < f.Look then 80 else sendsE f l
def rulesE (f : Fed) (most : Int) : List Rule → Int
  | [] => 0
  | r :: l => if most ≤ r.Class then 81 else if sendsE f r.Sends ≠ 0 then sendsE f r.Sends else rulesE f most l
def okInit (f : Fed) : Prop := f.Init.length ≤ 4 ∧ ∀ o ∈ f.Init, o.Class ∈ f.Pubs ∧ 0 ≤ o.Delay ∧ o.Delay ≤ 1099511627776 ∧ 0 ≤ o.Add ∧ o.Add ≤ 999
open Classical in
noncomputable def fedEs (f : Fed) (most : Int) : List Int := [if 0 ≤ f.Kind ∧ f.Kind ≤ 1 then 0 else 1, if 1 ≤ f.Look ∧ f.Look ≤ 1048576 then 0 else 80, if 0 ≤ f.Start ∧ f.Start ≤ 7 then 0 else 70,
  if okRules f.Rules then 0 else 70, if rising most (-1) f.Pubs ∧ rising most (-1) f.Subs then 0 else 81, rulesE f most f.Rules, if okInit f then 0 else 82]
def firstE (l : List Int) : Int := (l.find? fun n => decide (n ≠ 0)).getD 0
theorem firstE_cons (a : Int) (l : List Int) : firstE (a :: l) = if a = 0 then firstE l else a := by
  unfold firstE
  by_cases h : a = 0 <;> simp [h]
theorem firstE_nil : firstE [] = 0 := rfl
noncomputable def fedE (f : Fed) (most : Int) : Int := firstE (fedEs f most)
open Classical in
noncomputable def treeE (ps : List Int) : Int := if okTree ps then 0 else 50
noncomputable def fedsE (most : Int) : Nat → List Fed → Int × Int
  | _, [] => (-1, 0)
  | i, f :: l => if fedE f most ≠ 0 then ((i : Int), fedE f most) else fedsE most (i + 1) l
noncomputable def checkW (x : Wd) : Int × Int :=
  if treeE x.Parents ≠ 0 then (-1, treeE x.Parents)
  else if ¬ ((0 ≤ x.End ∧ x.End ≤ 1099511627776) ∧ (1 ≤ (x.Feds.length : Int) ∧ (x.Feds.length : Int) ≤ 8)) then (-1, 1)
  else fedsE x.Parents.length 0 x.Feds

theorem within_s {n a b : Int} (hk : K (.bool (decide (a ≤ n ∧ n ≤ b))) w) : Cl prog 93 #[.int .i64 n, .int .i64 a, .int .i64 b] w K := by
  refine config_within_calls ?_
  unfold config_within
  by_cases c1 : a ≤ n
  · by_cases c2 : n ≤ b
    · rw [decide_eq_true ⟨c1, c2⟩] at hk
      repeat (first | refine gd_tt ?_ | refine gd_ff ?_ | refine gd_tf ?_ | refine gd_ft ?_ | refine gd_u ?_ | refine pk_t ?_ | refine pk_f ?_ | refine iff_t ?_ | refine iff_f ?_ | refine not_t ?_ | refine not_f ?_ | refine beq_s ?_ | refine bne_s ?_ | refine ncP_p ?_ | refine nc_p ?_ | refine fld_at ?_ | refine xt_02 ?_ | refine xt_12 ?_ | refine xt_03 ?_ | refine xt_13 ?_ | refine xt_23 ?_ | refine eq_t (by omega) ?_ | refine eq_f (by omega) ?_ | refine ne_t (by omega) ?_ | refine ne_f (by omega) ?_ | refine lt_t (by omega) ?_ | refine lt_f (by omega) ?_ | refine gt_t (by omega) ?_ | refine gt_f (by omega) ?_ | refine ge_t (by omega) ?_ | refine ge_f (by omega) ?_ | refine le_t (by omega) ?_ | refine le_f (by omega) ?_)
      exact hk
    · rw [decide_eq_false fun h => c2 h.2] at hk
      repeat (first | refine gd_tt ?_ | refine gd_ff ?_ | refine gd_tf ?_ | refine gd_ft ?_ | refine gd_u ?_ | refine pk_t ?_ | refine pk_f ?_ | refine iff_t ?_ | refine iff_f ?_ | refine not_t ?_ | refine not_f ?_ | refine beq_s ?_ | refine bne_s ?_ | refine ncP_p ?_ | refine nc_p ?_ | refine fld_at ?_ | refine xt_02 ?_ | refine xt_12 ?_ | refine xt_03 ?_ | refine xt_13 ?_ | refine xt_23 ?_ | refine eq_t (by omega) ?_ | refine eq_f (by omega) ?_ | refine ne_t (by omega) ?_ | refine ne_f (by omega) ?_ | refine lt_t (by omega) ?_ | refine lt_f (by omega) ?_ | refine gt_t (by omega) ?_ | refine gt_f (by omega) ?_ | refine ge_t (by omega) ?_ | refine ge_f (by omega) ?_ | refine le_t (by omega) ?_ | refine le_f (by omega) ?_)
      exact hk
  · rw [decide_eq_false fun h => c1 h.1] at hk
    repeat (first | refine gd_tt ?_ | refine gd_ff ?_ | refine gd_tf ?_ | refine gd_ft ?_ | refine gd_u ?_ | refine pk_t ?_ | refine pk_f ?_ | refine iff_t ?_ | refine iff_f ?_ | refine not_t ?_ | refine not_f ?_ | refine beq_s ?_ | refine bne_s ?_ | refine ncP_p ?_ | refine nc_p ?_ | refine fld_at ?_ | refine xt_02 ?_ | refine xt_12 ?_ | refine xt_03 ?_ | refine xt_13 ?_ | refine xt_23 ?_ | refine eq_t (by omega) ?_ | refine eq_f (by omega) ?_ | refine ne_t (by omega) ?_ | refine ne_f (by omega) ?_ | refine lt_t (by omega) ?_ | refine lt_f (by omega) ?_ | refine gt_t (by omega) ?_ | refine gt_f (by omega) ?_ | refine ge_t (by omega) ?_ | refine ge_f (by omega) ?_ | refine le_t (by omega) ?_ | refine le_f (by omega) ?_)
    exact hk
theorem below_s {n m : Int} (hn : i64 n) (h0 : 0 ≤ m) (h1 : m ≤ 4611686018427387904) (hk : K (.bool (decide (0 ≤ n ∧ n < m))) w) : Cl prog 170 #[.int .i64 n, .int .i64 m] w K := by
  refine table_below_calls ?_
  unfold table_below
  have hn' := In64.of_wf hn
  have hm : In64 m := by unfold In64; omega
  refine cv_s (cv_s ?_)
  rw [wrap_u64 hn', wrap_u64 hm, if_pos h0]
  unfold In64 at hn'
  by_cases c1 : 0 ≤ n
  · rw [if_pos c1]
    by_cases c2 : n < m
    · rw [decide_eq_true ⟨c1, c2⟩] at hk
      exact lt_t c2 hk
    · rw [decide_eq_false fun h => c2 h.2] at hk
      exact lt_f c2 hk
  · rw [if_neg c1, decide_eq_false fun h => c1 h.1] at *
    exact lt_f (by omega) hk
theorem index_s {v : Value} {l : List Int} {x : Int} (i : Nat) (hi : L[i]? = some S) (hS : Sat e w L) (hr : ∀ g, S g → rdS 1 (intsK .i64) v l g) (hl : l.length ≤ 1000000) (h1 : x ∈ l → ∀ j : Nat, K (.int .i64 j) w) (h2 : x ∉ l → K (.int .i64 (-1)) w) : Cl prog 168 #[v, .int .i64 x] w K := by
  refine slices_Index_int_int_calls ?_
  unfold slices_Index_int_int
  refine lnS_rd hS i hi hr ?_
  refine lpi1 (fun q t8 w' => ∃ j : Nat, j ≤ l.length ∧ t8 = .int .i64 j ∧ q = l.length - j ∧ x ∉ l.take j ∧ w' = w) l.length ⟨0, Nat.zero_le _, rfl, rfl, by simp, rfl⟩ ?_
  rintro q _ w' g ⟨j, hj, rfl, rfl, hno, rfl⟩ hg
  refine lt_c (fun c => iff_t ?_) (fun c => iff_f ?_)
  · obtain ⟨y, hy⟩ := get_of_lt (l := l) (j := j) (by omega)
    refine ixS_rd hS i hi hr (fun _ => rfl) hy fun a ha => ?_
    refine ld1_of hS i hi ha (v := .int .i64 y) rfl ?_
    refine eq_c (fun c2 => iff_t ?_) (fun c2 => iff_f ?_)
    · exact h1 (c2 ▸ List.mem_of_getElem? hy) j
    · refine inc_s (by omega) ?_
      refine hg _ _ _ (by omega) ⟨j + 1, by omega, rfl, rfl, ?_, rfl⟩
      rw [List.take_add_one, hy]
      simp [hno, c2]
  · have ej : j = l.length := by omega
    rw [ej, List.take_length] at hno
    exact h2 hno
theorem contains_s {v : Value} {l : List Int} {x : Int} (i : Nat) (hi : L[i]? = some S) (hS : Sat e w L) (hr : ∀ g, S g → rdS 1 (intsK .i64) v l g) (hl : l.length ≤ 1000000) (hk : K (.bool (decide (x ∈ l))) w) : Cl prog 138 #[v, .int .i64 x] w K := by
  refine slices_Contains_int_int_calls ?_
  unfold slices_Contains_int_int
  refine index_s i hi hS hr hl (fun h j => ?_) (fun h => ?_)
  · rw [decide_eq_true h] at hk
    exact ge_t (by omega) hk
  · rw [decide_eq_false h] at hk
    exact ge_f (by omega) hk

abbrev unV (c d : Nat) : Value := .func (.func 135) #[] #[.pointer (some ⟨c, 0, none⟩), .pointer (some ⟨d, 0, none⟩)]
def UN (c d : Nat) (b : Bool) (er : Int) : HP := sepL [blk c 4 [.bool b], blk d 30 [.int .i64 er]]
theorem unless_s {b : Bool} {er : Int} (hS : Sat e w L) (hk : ∀ c d w', Sat e w' (UN c d b er :: L) → K (unV c d) w') : Cl prog 92 #[.bool b, .int .i64 er] w K := by
  refine config_unless_calls ?_
  unfold config_unless
  refine al_s (cs := [.bool b]) hS rfl fun c w1 h1 => ?_
  refine al_s (cs := [.int .i64 er]) h1 rfl fun d w2 h2 => ?_
  exact hk _ _ _ (Sat.join (l' := [_, _]) h2.swap)
theorem unless1_s {c d : Nat} {b : Bool} {er : Int} (i : Nat) (hi : L[i]? = some (UN c d b er)) (hS : Sat e w L) (hk : K (.int .i64 (if b = true then 0 else er)) w) : clV prog (unV c d) #[] w K := by
  refine ⟨_, _, _, rfl, ?_⟩
  refine config_unless_1_calls (t0 := .pointer (some ⟨c, 0, none⟩)) (t1 := .pointer (some ⟨d, 0, none⟩)) ?_
  unfold config_unless_1
  have h1 := (hS.pick i hi).split
  refine ld1_at h1 0 rfl rfl ?_
  cases b with
  | true => exact iff_t hk
  | false => exact iff_f (ld1_at h1 1 rfl rfl hk)
theorem first_s {v : Value} {fs : List Value} {Es : List Int} (i : Nat) (hi : L[i]? = some S) (hS : Sat e w L) (hr : ∀ g, S g → rdS 1 (fun v => [v]) v fs g) (hl : fs.length ≤ 1000) (hE : Es.length = fs.length)
    (hc : ∀ (j : Nat) fv E, fs[j]? = some fv → Es[j]? = some E → (∀ E' ∈ Es.take j, E' = 0) → ∀ (w : World) (K : KV), Sat e w L → (∀ w', Sat e w' L → K (.int .i64 E) w') → clV prog fv #[] w K)
    (hk : ∀ w', Sat e w' L → K (.int .i64 (firstE Es)) w') : Cl prog 89 #[v] w K := by
  refine config_first_calls ?_
  unfold config_first
  refine lnS_rd hS i hi hr ?_
  refine lpi1 (fun q t8 w' => ∃ j : Nat, j ≤ fs.length ∧ t8 = .int .i64 j ∧ q = fs.length - j ∧ (∀ E' ∈ Es.take j, E' = 0) ∧ Sat e w' L) fs.length ⟨0, Nat.zero_le _, rfl, rfl, by simp, hS⟩ ?_
  rintro q _ w' g ⟨j, hj, rfl, rfl, hno, h1⟩ hg
  have hz : ∀ (l1 l2 : List Int), (∀ E' ∈ l1, E' = 0) → firstE (l1 ++ l2) = firstE l2 := by
    intro l1 l2 h
    induction l1 with
    | nil => rfl
    | cons a l1 ih => rw [List.cons_append, firstE_cons, if_pos (h a (by simp)), ih fun x hx => h x (by simp [hx])]
  refine lt_c (fun c => iff_t ?_) (fun c => iff_f ?_)
  · obtain ⟨fv, hf⟩ := get_of_lt (l := fs) (j := j) (by omega)
    obtain ⟨E, hE'⟩ := get_of_lt (l := Es) (j := j) (by omega)
    refine ixS_rd h1 i hi hr (fun _ => rfl) hf fun a ha => ?_
    refine ld1_of h1 i hi ha (v := fv) rfl ?_
    refine hc j fv E hf hE' hno _ _ h1 fun w2 h2 => ?_
    have hsp : Es = Es.take j ++ E :: Es.drop (j + 1) := by
      rw [← drop_cons hE', List.take_append_drop]
    refine ne_c (fun c2 => iff_t ?_) (fun c2 => iff_f ?_)
    · have := hk _ h2
      rw [hsp, hz _ _ hno, firstE_cons, if_neg c2] at this
      exact this
    · refine inc_s (by omega) ?_
      refine hg _ _ _ (by omega) ⟨j + 1, by omega, rfl, rfl, ?_, h2⟩
      intro E' hE2
      rw [List.take_add_one, hE'] at hE2
      rcases List.mem_append.1 hE2 with h | h
      · exact hno E' h
      · simp at h; rw [h]; exact c2
  · have ej : j = fs.length := by omega
    have := hk _ h1
    rw [ej, ← hE, List.take_length] at hno
    rw [← List.append_nil Es, hz _ _ hno] at this
    exact this
end Go.Proofs.YtbopajpmadlmhaaGreat
namespace Go.Proofs.YtbopajpmadlmhaaGreat
open Go Go.E
set_option maxRecDepth 100000
variable {e w : World} {L R : List HP} {K : KV} {S : HP}

theorem lkM_f {κ ν : Type} [DecidableEq κ] {kf : κ → Value} {vf : ν → Value} {t kt vt : TypeId} {zv : Value} {b : Nat} {m : List (κ × ν)} (KT : KeyT prog kt kf) (MT : MapT prog t kt vt zv) (hS : Sat e w L) (i : Nat) (hi : L[i]? = some (isMap kf vf b m)) (k : κ)
    (hk : K (match lkA m k with | some x => vf x | none => zv) w) : lkM prog t (.map (some b)) (kf k) false w K := by
  obtain ⟨es, clock, h1, h2, h3⟩ := hS.getMap i hi
  obtain ⟨inf, hi1, hi2⟩ := MT.zero
  refine ex_oV (w' := w) ?_ hk
  have hf := KT.fnd k es.toList (m.map (·.1)) (es_keys h2) w
  unfold Instr.lookup
  simp only [Sem.run_bind, run_und MT.und, Result.andThen_ok, run_getObj h1, Sem.run_pure, KT.chk, hf]
  have hl := fidx_lk m k
  cases hx : (m.map (·.1)).findIdx? (fun x => decide (x = k)) with
  | none =>
    rw [hx] at hl
    simp only [Option.bind_none] at hl ⊢
    rw [← hl]
    simp only [Sem.run_bind, run_zero hi1 hi2, Result.andThen_ok, Sem.run_pure]
    rfl
  | some j =>
    rw [hx] at hl
    simp only [Option.bind_some] at hl ⊢
    have hv := es_val h2 j
    have hjl : j < m.length := by
      obtain ⟨hj, _⟩ := List.findIdx?_eq_some_iff_getElem.1 hx
      simpa using hj
    rw [List.getElem?_eq_getElem hjl] at hv hl
    simp only [Option.map_some] at hv hl
    obtain ⟨e', he, hev⟩ := Option.map_eq_some_iff.1 hv
    rw [he, ← hl]
    simp only [Option.map_some, hev]
    rfl
theorem tree_Check_s {v : Value} {l : List Int} (i : Nat) (hi : L[i]? = some S) (hS : Sat e w L) (hr : ∀ g, S g → rdS 1 (intsK .i64) v l g) (hk : K (.int .i64 (treeE l)) w) : Cl prog 91 #[v] w K := by
  refine tree_Check_calls ?_
  unfold tree_Check
  have hbad : ¬ okTree l → K (.int .i64 50) w := fun h => by unfold treeE at hk; rw [if_neg h] at hk; exact hk
  refine lnS_rd hS i hi hr ?_
  by_cases c1 : 1 ≤ l.length
  · by_cases c2 : l.length ≤ 16
    · repeat (first | refine gd_tt ?_ | refine gd_ff ?_ | refine gd_tf ?_ | refine gd_ft ?_ | refine gd_u ?_ | refine pk_t ?_ | refine pk_f ?_ | refine iff_t ?_ | refine iff_f ?_ | refine not_t ?_ | refine not_f ?_ | refine beq_s ?_ | refine bne_s ?_ | refine ncP_p ?_ | refine nc_p ?_ | refine fld_at ?_ | refine xt_02 ?_ | refine xt_12 ?_ | refine xt_03 ?_ | refine xt_13 ?_ | refine xt_23 ?_ | refine eq_t (by omega) ?_ | refine eq_f (by omega) ?_ | refine ne_t (by omega) ?_ | refine ne_f (by omega) ?_ | refine lt_t (by omega) ?_ | refine lt_f (by omega) ?_ | refine gt_t (by omega) ?_ | refine gt_f (by omega) ?_ | refine ge_t (by omega) ?_ | refine ge_f (by omega) ?_ | refine le_t (by omega) ?_ | refine le_f (by omega) ?_)
      refine lnS_rd hS i hi hr ?_
      refine lpi1 (fun q t8 w' => ∃ j : Nat, j ≤ l.length ∧ t8 = .int .i64 j ∧ q = l.length - j ∧ (∀ (i : Nat) p, i < j → l[i]? = some p → -1 ≤ p ∧ p < i) ∧ w' = w) l.length ⟨0, Nat.zero_le _, rfl, rfl, fun _ _ h => absurd h (by omega), rfl⟩ ?_
      rintro q _ w' g ⟨j, hj, rfl, rfl, hno, rfl⟩ hg
      refine lt_c (fun c => iff_t ?_) (fun c => iff_f ?_)
      · obtain ⟨y, hy⟩ := get_of_lt (l := l) (j := j) (by omega)
        refine ixS_rd hS i hi hr (fun _ => rfl) hy fun a ha => ?_
        refine ld1_of hS i hi ha (v := .int .i64 y) rfl ?_
        by_cases c3 : y < -1
        · repeat (first | refine gd_tt ?_ | refine gd_ff ?_ | refine gd_tf ?_ | refine gd_ft ?_ | refine gd_u ?_ | refine pk_t ?_ | refine pk_f ?_ | refine iff_t ?_ | refine iff_f ?_ | refine not_t ?_ | refine not_f ?_ | refine beq_s ?_ | refine bne_s ?_ | refine ncP_p ?_ | refine nc_p ?_ | refine fld_at ?_ | refine xt_02 ?_ | refine xt_12 ?_ | refine xt_03 ?_ | refine xt_13 ?_ | refine xt_23 ?_ | refine eq_t (by omega) ?_ | refine eq_f (by omega) ?_ | refine ne_t (by omega) ?_ | refine ne_f (by omega) ?_ | refine lt_t (by omega) ?_ | refine lt_f (by omega) ?_ | refine gt_t (by omega) ?_ | refine gt_f (by omega) ?_ | refine ge_t (by omega) ?_ | refine ge_f (by omega) ?_ | refine le_t (by omega) ?_ | refine le_f (by omega) ?_)
          exact hbad fun h => by have := h.2.2 j y hy; omega
        · by_cases c4 : (j : Int) ≤ y
          · repeat (first | refine gd_tt ?_ | refine gd_ff ?_ | refine gd_tf ?_ | refine gd_ft ?_ | refine gd_u ?_ | refine pk_t ?_ | refine pk_f ?_ | refine iff_t ?_ | refine iff_f ?_ | refine not_t ?_ | refine not_f ?_ | refine beq_s ?_ | refine bne_s ?_ | refine ncP_p ?_ | refine nc_p ?_ | refine fld_at ?_ | refine xt_02 ?_ | refine xt_12 ?_ | refine xt_03 ?_ | refine xt_13 ?_ | refine xt_23 ?_ | refine eq_t (by omega) ?_ | refine eq_f (by omega) ?_ | refine ne_t (by omega) ?_ | refine ne_f (by omega) ?_ | refine lt_t (by omega) ?_ | refine lt_f (by omega) ?_ | refine gt_t (by omega) ?_ | refine gt_f (by omega) ?_ | refine ge_t (by omega) ?_ | refine ge_f (by omega) ?_ | refine le_t (by omega) ?_ | refine le_f (by omega) ?_)
            exact hbad fun h => by have := h.2.2 j y hy; omega
          · repeat (first | refine gd_tt ?_ | refine gd_ff ?_ | refine gd_tf ?_ | refine gd_ft ?_ | refine gd_u ?_ | refine pk_t ?_ | refine pk_f ?_ | refine iff_t ?_ | refine iff_f ?_ | refine not_t ?_ | refine not_f ?_ | refine beq_s ?_ | refine bne_s ?_ | refine ncP_p ?_ | refine nc_p ?_ | refine fld_at ?_ | refine xt_02 ?_ | refine xt_12 ?_ | refine xt_03 ?_ | refine xt_13 ?_ | refine xt_23 ?_ | refine eq_t (by omega) ?_ | refine eq_f (by omega) ?_ | refine ne_t (by omega) ?_ | refine ne_f (by omega) ?_ | refine lt_t (by omega) ?_ | refine lt_f (by omega) ?_ | refine gt_t (by omega) ?_ | refine gt_f (by omega) ?_ | refine ge_t (by omega) ?_ | refine ge_f (by omega) ?_ | refine le_t (by omega) ?_ | refine le_f (by omega) ?_)
            refine inc_s (by omega) ?_
            refine hg _ _ _ (by omega) ⟨j + 1, by omega, rfl, rfl, fun i p hi hp => ?_, rfl⟩
            by_cases h : i = j
            · subst h
              rw [hy] at hp
              cases hp
              omega
            · exact hno i p (by omega) hp
      · have ej : j = l.length := by omega
        unfold treeE at hk
        rw [if_pos ⟨c1, c2, fun i p hp => hno i p (by have := (List.getElem?_eq_some_iff.1 hp).1; omega) hp⟩] at hk
        exact hk
    · repeat (first | refine gd_tt ?_ | refine gd_ff ?_ | refine gd_tf ?_ | refine gd_ft ?_ | refine gd_u ?_ | refine pk_t ?_ | refine pk_f ?_ | refine iff_t ?_ | refine iff_f ?_ | refine not_t ?_ | refine not_f ?_ | refine beq_s ?_ | refine bne_s ?_ | refine ncP_p ?_ | refine nc_p ?_ | refine fld_at ?_ | refine xt_02 ?_ | refine xt_12 ?_ | refine xt_03 ?_ | refine xt_13 ?_ | refine xt_23 ?_ | refine eq_t (by omega) ?_ | refine eq_f (by omega) ?_ | refine ne_t (by omega) ?_ | refine ne_f (by omega) ?_ | refine lt_t (by omega) ?_ | refine lt_f (by omega) ?_ | refine gt_t (by omega) ?_ | refine gt_f (by omega) ?_ | refine ge_t (by omega) ?_ | refine ge_f (by omega) ?_ | refine le_t (by omega) ?_ | refine le_f (by omega) ?_)
      exact hbad fun h => c2 h.2.1
  · repeat (first | refine gd_tt ?_ | refine gd_ff ?_ | refine gd_tf ?_ | refine gd_ft ?_ | refine gd_u ?_ | refine pk_t ?_ | refine pk_f ?_ | refine iff_t ?_ | refine iff_f ?_ | refine not_t ?_ | refine not_f ?_ | refine beq_s ?_ | refine bne_s ?_ | refine ncP_p ?_ | refine nc_p ?_ | refine fld_at ?_ | refine xt_02 ?_ | refine xt_12 ?_ | refine xt_03 ?_ | refine xt_13 ?_ | refine xt_23 ?_ | refine eq_t (by omega) ?_ | refine eq_f (by omega) ?_ | refine ne_t (by omega) ?_ | refine ne_f (by omega) ?_ | refine lt_t (by omega) ?_ | refine lt_f (by omega) ?_ | refine gt_t (by omega) ?_ | refine gt_f (by omega) ?_ | refine ge_t (by omega) ?_ | refine ge_f (by omega) ?_ | refine le_t (by omega) ?_ | refine le_f (by omega) ?_)
    exact hbad fun h => c1 h.1

theorem odd1_s {o : Out} (ho : o.wf) (hS : Sat e w R) (hk : ∀ w', Sat e w' R → ∀ b : Bool, (b = true ↔ ¬ okOut o) → K (.bool b) w') : clV prog (.func (.func 169) #[] #[]) #[.agg o.cs.toArray] w K := by
  refine ⟨_, _, _, rfl, ?_⟩
  refine table_Check_1_calls (t0 := .agg o.cs.toArray) ?_
  unfold table_Check_1
  obtain ⟨w1, w2, w3⟩ := ho
  refine al_s (cs := o.cs) hS rfl fun b2 w1' h1 => ?_
  have hk := hk w1' h1.drop
  repeat (first | refine gd_tt ?_ | refine gd_ff ?_ | refine gd_tf ?_ | refine gd_ft ?_ | refine gd_u ?_ | refine pk_t ?_ | refine pk_f ?_ | refine iff_t ?_ | refine iff_f ?_ | refine not_t ?_ | refine not_f ?_ | refine beq_s ?_ | refine bne_s ?_ | refine ncP_p ?_ | refine nc_p ?_ | refine fld_at ?_ | refine xt_02 ?_ | refine xt_12 ?_ | refine xt_03 ?_ | refine xt_13 ?_ | refine xt_23 ?_ | refine eq_t (by omega) ?_ | refine eq_f (by omega) ?_ | refine ne_t (by omega) ?_ | refine ne_f (by omega) ?_ | refine lt_t (by omega) ?_ | refine lt_f (by omega) ?_ | refine gt_t (by omega) ?_ | refine gt_f (by omega) ?_ | refine ge_t (by omega) ?_ | refine ge_f (by omega) ?_ | refine le_t (by omega) ?_ | refine le_f (by omega) ?_)
  refine ld1_at h1 0 rfl (v := .int .i64 o.Class) rfl ?_
  refine below_s w1 (by decide) (by decide) ?_
  refine not_d ?_
  by_cases c1 : 0 ≤ o.Class ∧ o.Class < 16
  · rw [decide_eq_true c1, Bool.not_true]
    repeat (first | refine gd_tt ?_ | refine gd_ff ?_ | refine gd_tf ?_ | refine gd_ft ?_ | refine gd_u ?_ | refine pk_t ?_ | refine pk_f ?_ | refine iff_t ?_ | refine iff_f ?_ | refine not_t ?_ | refine not_f ?_ | refine beq_s ?_ | refine bne_s ?_ | refine ncP_p ?_ | refine nc_p ?_ | refine fld_at ?_ | refine xt_02 ?_ | refine xt_12 ?_ | refine xt_03 ?_ | refine xt_13 ?_ | refine xt_23 ?_ | refine eq_t (by omega) ?_ | refine eq_f (by omega) ?_ | refine ne_t (by omega) ?_ | refine ne_f (by omega) ?_ | refine lt_t (by omega) ?_ | refine lt_f (by omega) ?_ | refine gt_t (by omega) ?_ | refine gt_f (by omega) ?_ | refine ge_t (by omega) ?_ | refine ge_f (by omega) ?_ | refine le_t (by omega) ?_ | refine le_f (by omega) ?_)
    refine ld1_at h1 0 rfl (v := .int .i64 o.Delay) rfl ?_
    refine gd_ff (below_s w2 (by decide) (by decide) ?_)
    refine gd_ff (not_d ?_)
    by_cases c2 : 0 ≤ o.Delay ∧ o.Delay < 1048577
    · rw [decide_eq_true c2, Bool.not_true]
      repeat (first | refine gd_tt ?_ | refine gd_ff ?_ | refine gd_tf ?_ | refine gd_ft ?_ | refine gd_u ?_ | refine pk_t ?_ | refine pk_f ?_ | refine iff_t ?_ | refine iff_f ?_ | refine not_t ?_ | refine not_f ?_ | refine beq_s ?_ | refine bne_s ?_ | refine ncP_p ?_ | refine nc_p ?_ | refine fld_at ?_ | refine xt_02 ?_ | refine xt_12 ?_ | refine xt_03 ?_ | refine xt_13 ?_ | refine xt_23 ?_ | refine eq_t (by omega) ?_ | refine eq_f (by omega) ?_ | refine ne_t (by omega) ?_ | refine ne_f (by omega) ?_ | refine lt_t (by omega) ?_ | refine lt_f (by omega) ?_ | refine gt_t (by omega) ?_ | refine gt_f (by omega) ?_ | refine ge_t (by omega) ?_ | refine ge_f (by omega) ?_ | refine le_t (by omega) ?_ | refine le_f (by omega) ?_)
      refine ld1_at h1 0 rfl (v := .int .i64 o.Add) rfl ?_
      refine gd_ff (below_s w3 (by decide) (by decide) ?_)
      refine gd_ff (not_d (pk_f ?_))
      refine hk _ ?_
      unfold okOut
      by_cases c3 : 0 ≤ o.Add ∧ o.Add < 1000
      · simp [c1, c2, c3]
      · rw [decide_eq_false c3]
        simp only [Bool.not_false, true_iff]
        exact fun h => c3 h.2.2.2.2
    · rw [decide_eq_false c2, Bool.not_false]
      repeat (first | refine gd_tt ?_ | refine gd_ff ?_ | refine gd_tf ?_ | refine gd_ft ?_ | refine gd_u ?_ | refine pk_t ?_ | refine pk_f ?_ | refine iff_t ?_ | refine iff_f ?_ | refine not_t ?_ | refine not_f ?_ | refine beq_s ?_ | refine bne_s ?_ | refine ncP_p ?_ | refine nc_p ?_ | refine fld_at ?_ | refine xt_02 ?_ | refine xt_12 ?_ | refine xt_03 ?_ | refine xt_13 ?_ | refine xt_23 ?_ | refine eq_t (by omega) ?_ | refine eq_f (by omega) ?_ | refine ne_t (by omega) ?_ | refine ne_f (by omega) ?_ | refine lt_t (by omega) ?_ | refine lt_f (by omega) ?_ | refine gt_t (by omega) ?_ | refine gt_f (by omega) ?_ | refine ge_t (by omega) ?_ | refine ge_f (by omega) ?_ | refine le_t (by omega) ?_ | refine le_f (by omega) ?_)
      exact hk _ ⟨fun _ (h : okOut o) => c2 ⟨h.2.2.1, h.2.2.2.1⟩, fun _ => rfl⟩
  · rw [decide_eq_false c1, Bool.not_false]
    repeat (first | refine gd_tt ?_ | refine gd_ff ?_ | refine gd_tf ?_ | refine gd_ft ?_ | refine gd_u ?_ | refine pk_t ?_ | refine pk_f ?_ | refine iff_t ?_ | refine iff_f ?_ | refine not_t ?_ | refine not_f ?_ | refine beq_s ?_ | refine bne_s ?_ | refine ncP_p ?_ | refine nc_p ?_ | refine fld_at ?_ | refine xt_02 ?_ | refine xt_12 ?_ | refine xt_03 ?_ | refine xt_13 ?_ | refine xt_23 ?_ | refine eq_t (by omega) ?_ | refine eq_f (by omega) ?_ | refine ne_t (by omega) ?_ | refine ne_f (by omega) ?_ | refine lt_t (by omega) ?_ | refine lt_f (by omega) ?_ | refine gt_t (by omega) ?_ | refine gt_f (by omega) ?_ | refine ge_t (by omega) ?_ | refine ge_f (by omega) ?_ | refine le_t (by omega) ?_ | refine le_f (by omega) ?_)
    exact hk _ ⟨fun _ h => c1 ⟨h.1, h.2.1⟩, fun _ => rfl⟩
theorem containsOut_s {v fv : Value} {l : List Out} {p : Out → Prop} (i : Nat) (hi : L[i]? = some S) (hS : Sat e w L) (hr : ∀ g, S g → rdS 3 Out.cs v l g) (hl : l.length ≤ 1000000)
    (hp : ∀ o ∈ l, ∀ (w : World) (K : KV), Sat e w L → (∀ w', Sat e w' L → ∀ b : Bool, (b = true ↔ p o) → K (.bool b) w') → clV prog fv #[.agg o.cs.toArray] w K)
    (hk : ∀ w', Sat e w' L → ∀ b : Bool, (b = true ↔ ∃ o ∈ l, p o) → K (.bool b) w') : Cl prog 142 #[v, fv] w K := by
  refine slices_ContainsFunc_api_Out_api_Out_calls ?_
  unfold slices_ContainsFunc_api_Out_api_Out
  refine slices_IndexFunc_api_Out_api_Out_calls ?_
  unfold slices_IndexFunc_api_Out_api_Out
  refine lnS_rd hS i hi hr ?_
  refine lpi1 (fun q t8 w => ∃ j : Nat, j ≤ l.length ∧ t8 = .int .i64 j ∧ q = l.length - j ∧ (∀ o ∈ l.take j, ¬ p o) ∧ Sat e w L) l.length ⟨0, Nat.zero_le _, rfl, rfl, by simp, hS⟩ ?_
  rintro q _ w g ⟨j, hj, rfl, rfl, hno, h1⟩ hg
  refine lt_c (fun c => iff_t ?_) (fun c => iff_f ?_)
  · obtain ⟨o, ho⟩ := get_of_lt (l := l) (j := j) (by omega)
    refine ixS_rd h1 i hi hr (fun _ => rfl) ho fun a ha => ?_
    refine ldN_of h1 i hi ha rfl ?_
    refine hp o (List.mem_of_getElem? ho) _ _ h1 fun w2 h2 b hb => ?_
    cases b with
    | true => exact iff_t (ge_t (by omega) (hk _ h2 true ⟨fun _ => ⟨o, List.mem_of_getElem? ho, hb.1 rfl⟩, fun _ => rfl⟩))
    | false =>
      refine iff_f (inc_s (by omega) ?_)
      refine hg _ _ _ (by omega) ⟨j + 1, by omega, rfl, rfl, fun y hy => ?_, h2⟩
      rw [List.take_add_one, ho] at hy
      rcases List.mem_append.1 hy with h | h
      · exact hno y h
      · simp at h
        subst h
        exact fun h => by have := hb.2 h; cases this
  · have ej : j = l.length := by omega
    rw [ej, List.take_length] at hno
    exact ge_f (by omega) (hk _ h1 false ⟨(fun h => by cases h), fun ⟨o, ho, hpo⟩ => absurd hpo (hno o ho)⟩)

structure OnK where
  s : Int
  c : Int
  deriving DecidableEq
def OnK.ns (x : OnK) : List Int := [x.s, x.c]
def kfO (x : OnK) : Value := .agg (ints x.ns).toArray
def vfB (b : Bool) : Value := .bool b
theorem OnK.eq_ns (a b : OnK) : (a.ns == b.ns) = decide (a = b) := by
  rw [Bool.eq_iff_iff]
  obtain ⟨a0, a1⟩ := a
  obtain ⟨b0, b1⟩ := b
  simp [OnK.ns]
theorem keyT_On : KeyT prog 233 kfO :=
  keyT_chk (κ := OnK) (ns := OnK.ns) (n := 6) Tryz.underlying233 eqT_233 agg_233 (by decide) (fun _ => rfl) OnK.eq_ns (fun b k w => by cases b <;> kernel_rfl)
def onK (r : RuleX) : OnK := ⟨r.State, r.Class⟩
theorem okRules_x {l : List RuleX} : okRules (l.map RuleX.r) ↔ l.length ≤ 32 ∧ (∀ r ∈ l, okRule r.r) ∧ (l.map onK).Nodup := by
  unfold okRules
  rw [List.length_map, List.map_map]
  refine and_congr Iff.rfl (and_congr ⟨fun h r hr => h _ (List.mem_map_of_mem hr), fun h r hr => ?_⟩ ?_)
  · obtain ⟨x, hx, rfl⟩ := List.mem_map.1 hr
    exact h x hx
  · rw [List.nodup_iff_pairwise_ne, List.nodup_iff_pairwise_ne, List.pairwise_map, List.pairwise_map]
    constructor
    · refine fun h => h.imp fun hne e => hne ?_
      simp only [onK, OnK.mk.injEq] at e
      simp only [Function.comp, onOf, RuleX.r, e]
    · refine fun h => h.imp fun hne e => hne ?_
      simp only [Function.comp, onOf, RuleX.r, Prod.mk.injEq] at e
      simp only [onK, e]
theorem nodup_at {α β : Type} {f : α → β} {l : List α} {j : Nat} {x : α} (h : (l.map f).Nodup) (hx : l[j]? = some x) : f x ∉ (l.take j).map f := by
  have hsp : l = l.take j ++ x :: l.drop (j + 1) := by rw [← drop_cons hx, List.take_append_drop]
  rw [hsp, List.map_append, List.map_cons, List.nodup_append] at h
  intro hm
  exact h.2.2 _ hm _ List.mem_cons_self rfl
theorem nodup_take {α β : Type} {f : α → β} {l : List α} {j : Nat} {x : α} (h : ((l.take j).map f).Nodup) (hx : l[j]? = some x) (hn : f x ∉ (l.take j).map f) : ((l.take (j + 1)).map f).Nodup := by
  rw [List.take_add_one, hx, Option.toList_some, List.map_append, List.nodup_append]
  refine ⟨h, by simp, fun a ha b hb => ?_⟩
  simp at hb
  subst hb
  exact fun e => hn (e ▸ ha)
open Classical in
theorem table_Check_s {v : Value} {l : List RuleX} (i : Nat) (hi : L[i]? = some S) (hS : Sat e w L) (hr : ∀ g, S g → RdRules v l g) (hwf : ∀ r ∈ l, r.wf) (hl : ∀ r ∈ l, r.Sends.length ≤ 1000000) (hk : ∀ w', Sat e w' L → K (.int .i64 (if okRules (l.map RuleX.r) then 0 else 70)) w') :
    Cl prog 141 #[v] w K := by
  refine table_Check_calls ?_
  unfold table_Check
  have hbad : ¬ okRules (l.map RuleX.r) → ∀ w', Sat e w' L → K (.int .i64 70) w' := fun h w' h' => by have := hk w' h'; rw [if_neg h] at this; exact this
  refine lnS_rd hS i hi (fun g hg => (hr g hg).s) ?_
  by_cases c1 : 32 < l.length
  · repeat (first | refine gd_tt ?_ | refine gd_ff ?_ | refine gd_tf ?_ | refine gd_ft ?_ | refine gd_u ?_ | refine pk_t ?_ | refine pk_f ?_ | refine iff_t ?_ | refine iff_f ?_ | refine not_t ?_ | refine not_f ?_ | refine beq_s ?_ | refine bne_s ?_ | refine ncP_p ?_ | refine nc_p ?_ | refine fld_at ?_ | refine xt_02 ?_ | refine xt_12 ?_ | refine xt_03 ?_ | refine xt_13 ?_ | refine xt_23 ?_ | refine eq_t (by omega) ?_ | refine eq_f (by omega) ?_ | refine ne_t (by omega) ?_ | refine ne_f (by omega) ?_ | refine lt_t (by omega) ?_ | refine lt_f (by omega) ?_ | refine gt_t (by omega) ?_ | refine gt_f (by omega) ?_ | refine ge_t (by omega) ?_ | refine ge_f (by omega) ?_ | refine le_t (by omega) ?_ | refine le_f (by omega) ?_)
    exact hbad (fun h => by have := h.1; rw [List.length_map] at this; omega) _ hS
  refine gt_f (by omega) (iff_f ?_)
  refine mkMap_s kfO vfB hS fun mb w1 h1 => ?_
  refine lnS_rd h1 (i + 1) (by simpa using hi) (fun g hg => (hr g hg).s) ?_
  refine lpi1 (fun q t14 w => ∃ (j : Nat) (m : List (OnK × Bool)), j ≤ l.length ∧ t14 = .int .i64 j ∧ q = l.length - j ∧ (∀ r ∈ l.take j, okRule r.r) ∧ ((l.take j).map onK).Nodup ∧ Uniq m ∧ (∀ k, lkA m k = if k ∈ (l.take j).map onK then some true else none) ∧ Sat e w (isMap kfO vfB mb m :: L)) l.length
    ⟨0, [], Nat.zero_le _, rfl, rfl, by simp, by simp, by simp [Uniq], by simp [lkA], h1⟩ ?_
  rintro q _ w g ⟨j, m, hj, rfl, rfl, hall, hnd, hu, hlk, h2⟩ hg
  refine lt_c (fun c => iff_t ?_) (fun c => iff_f ?_)
  · obtain ⟨r, hrj⟩ := get_of_lt (l := l) (j := j) (by omega)
    have hrm := List.mem_of_getElem? hrj
    obtain ⟨f1, f2, f3, f4⟩ := hwf r hrm
    have hi1 : (isMap kfO vfB mb m :: L)[i + 1]? = some S := by simpa using hi
    refine ixS_rd h2 (i + 1) hi1 (fun g hg => (hr g hg).s) (fun _ => rfl) hrj fun a ha => ?_
    refine ldN_of h2 (i + 1) hi1 ha rfl ?_
    rw [zero_89, zero_233]
    refine al_s (cs := [.int .i64 0, .int .i64 0, .int .i64 0, .slice none 0 0]) h2 rfl fun t w3 h3 => ?_
    have hflat : ∀ c ∈ r.cs, flat c = true := by
      obtain ⟨g, hg, _⟩ := hS.get i hi
      obtain ⟨A, c', hsv, _⟩ := (hr g hg).e r hrm
      intro c hc
      simp only [RuleX.cs, List.mem_cons, List.not_mem_nil, or_false] at hc
      rcases hc with rfl | rfl | rfl | rfl
      · rfl
      · rfl
      · rfl
      · rw [hsv]; rfl
    refine stN_at h3 0 rfl (vs := r.cs) rfl rfl (by simp) hflat (cs' := r.cs) (by rfl) fun w4 h4 => ?_
    repeat (first | refine gd_tt ?_ | refine gd_ff ?_ | refine gd_tf ?_ | refine gd_ft ?_ | refine gd_u ?_ | refine pk_t ?_ | refine pk_f ?_ | refine iff_t ?_ | refine iff_f ?_ | refine not_t ?_ | refine not_f ?_ | refine beq_s ?_ | refine bne_s ?_ | refine ncP_p ?_ | refine nc_p ?_ | refine fld_at ?_ | refine xt_02 ?_ | refine xt_12 ?_ | refine xt_03 ?_ | refine xt_13 ?_ | refine xt_23 ?_ | refine eq_t (by omega) ?_ | refine eq_f (by omega) ?_ | refine ne_t (by omega) ?_ | refine ne_f (by omega) ?_ | refine lt_t (by omega) ?_ | refine lt_f (by omega) ?_ | refine gt_t (by omega) ?_ | refine gt_f (by omega) ?_ | refine ge_t (by omega) ?_ | refine ge_f (by omega) ?_ | refine le_t (by omega) ?_ | refine le_f (by omega) ?_)
    refine ld1_at h4 0 rfl (v := .int .i64 r.State) rfl ?_
    repeat (first | refine gd_tt ?_ | refine gd_ff ?_ | refine gd_tf ?_ | refine gd_ft ?_ | refine gd_u ?_ | refine pk_t ?_ | refine pk_f ?_ | refine iff_t ?_ | refine iff_f ?_ | refine not_t ?_ | refine not_f ?_ | refine beq_s ?_ | refine bne_s ?_ | refine ncP_p ?_ | refine nc_p ?_ | refine fld_at ?_ | refine xt_02 ?_ | refine xt_12 ?_ | refine xt_03 ?_ | refine xt_13 ?_ | refine xt_23 ?_ | refine eq_t (by omega) ?_ | refine eq_f (by omega) ?_ | refine ne_t (by omega) ?_ | refine ne_f (by omega) ?_ | refine lt_t (by omega) ?_ | refine lt_f (by omega) ?_ | refine gt_t (by omega) ?_ | refine gt_f (by omega) ?_ | refine ge_t (by omega) ?_ | refine ge_f (by omega) ?_ | refine le_t (by omega) ?_ | refine le_f (by omega) ?_)
    refine ld1_at h4 0 rfl (v := .int .i64 r.Class) rfl ?_
    refine bld_s [.int .i64 r.State, .int .i64 r.Class] (by kernel_rfl) ?_
    refine al_s (cs := [.int .i64 0, .int .i64 0]) h4 rfl fun t6 w5 h5 => ?_
    refine stN_at h5 0 rfl (vs := ints (onK r).ns) rfl rfl (by simp) (ints_flat _) (cs' := ints (onK r).ns) (by rfl) fun w6 h6 => ?_
    refine ldN_at h6 0 (vs := ints (onK r).ns) rfl (by rfl) rfl ?_
    refine lkM_f keyT_On mapT_231 h6 2 rfl (onK r) ?_
    rw [hlk]
    have hi3 : (blk t6 233 (ints (onK r).ns) :: blk t 89 r.cs :: isMap kfO vfB mb m :: L)[i + 3]? = some S := by simpa using hi
    by_cases hmem : onK r ∈ (l.take j).map onK
    · rw [if_pos hmem]
      show gd (.bool true) false _ _ _
      repeat (first | refine gd_tt ?_ | refine gd_ff ?_ | refine gd_tf ?_ | refine gd_ft ?_ | refine gd_u ?_ | refine pk_t ?_ | refine pk_f ?_ | refine iff_t ?_ | refine iff_f ?_ | refine not_t ?_ | refine not_f ?_ | refine beq_s ?_ | refine bne_s ?_ | refine ncP_p ?_ | refine nc_p ?_ | refine fld_at ?_ | refine xt_02 ?_ | refine xt_12 ?_ | refine xt_03 ?_ | refine xt_13 ?_ | refine xt_23 ?_ | refine eq_t (by omega) ?_ | refine eq_f (by omega) ?_ | refine ne_t (by omega) ?_ | refine ne_f (by omega) ?_ | refine lt_t (by omega) ?_ | refine lt_f (by omega) ?_ | refine gt_t (by omega) ?_ | refine gt_f (by omega) ?_ | refine ge_t (by omega) ?_ | refine ge_f (by omega) ?_ | refine le_t (by omega) ?_ | refine le_f (by omega) ?_)
      exact hbad (fun h => nodup_at (okRules_x.1 h).2.2 hrj hmem) _ h6.drop.drop.drop
    rw [if_neg hmem]
    show gd (.bool false) false _ _ _
    have hno : ¬ okRule r.r → K (.int .i64 70) w6 := fun h => hbad (fun h2 => h ((okRules_x.1 h2).2.1 r hrm)) _ h6.drop.drop.drop
    repeat (first | refine gd_tt ?_ | refine gd_ff ?_ | refine gd_tf ?_ | refine gd_ft ?_ | refine gd_u ?_ | refine pk_t ?_ | refine pk_f ?_ | refine iff_t ?_ | refine iff_f ?_ | refine not_t ?_ | refine not_f ?_ | refine beq_s ?_ | refine bne_s ?_ | refine ncP_p ?_ | refine nc_p ?_ | refine fld_at ?_ | refine xt_02 ?_ | refine xt_12 ?_ | refine xt_03 ?_ | refine xt_13 ?_ | refine xt_23 ?_ | refine eq_t (by omega) ?_ | refine eq_f (by omega) ?_ | refine ne_t (by omega) ?_ | refine ne_f (by omega) ?_ | refine lt_t (by omega) ?_ | refine lt_f (by omega) ?_ | refine gt_t (by omega) ?_ | refine gt_f (by omega) ?_ | refine ge_t (by omega) ?_ | refine ge_f (by omega) ?_ | refine le_t (by omega) ?_ | refine le_f (by omega) ?_)
    refine ld1_at h6 1 rfl (v := .int .i64 r.State) rfl ?_
    refine gd_ff (below_s f1 (by decide) (by decide) ?_)
    refine gd_ff (not_d ?_)
    by_cases d1 : 0 ≤ r.State ∧ r.State < 8
    case neg =>
      rw [decide_eq_false d1, Bool.not_false]
      repeat (first | refine gd_tt ?_ | refine gd_ff ?_ | refine gd_tf ?_ | refine gd_ft ?_ | refine gd_u ?_ | refine pk_t ?_ | refine pk_f ?_ | refine iff_t ?_ | refine iff_f ?_ | refine not_t ?_ | refine not_f ?_ | refine beq_s ?_ | refine bne_s ?_ | refine ncP_p ?_ | refine nc_p ?_ | refine fld_at ?_ | refine xt_02 ?_ | refine xt_12 ?_ | refine xt_03 ?_ | refine xt_13 ?_ | refine xt_23 ?_ | refine eq_t (by omega) ?_ | refine eq_f (by omega) ?_ | refine ne_t (by omega) ?_ | refine ne_f (by omega) ?_ | refine lt_t (by omega) ?_ | refine lt_f (by omega) ?_ | refine gt_t (by omega) ?_ | refine gt_f (by omega) ?_ | refine ge_t (by omega) ?_ | refine ge_f (by omega) ?_ | refine le_t (by omega) ?_ | refine le_f (by omega) ?_)
      exact hno fun h => d1 ⟨h.1, h.2.1⟩
    rw [decide_eq_true d1, Bool.not_true]
    repeat (first | refine gd_tt ?_ | refine gd_ff ?_ | refine gd_tf ?_ | refine gd_ft ?_ | refine gd_u ?_ | refine pk_t ?_ | refine pk_f ?_ | refine iff_t ?_ | refine iff_f ?_ | refine not_t ?_ | refine not_f ?_ | refine beq_s ?_ | refine bne_s ?_ | refine ncP_p ?_ | refine nc_p ?_ | refine fld_at ?_ | refine xt_02 ?_ | refine xt_12 ?_ | refine xt_03 ?_ | refine xt_13 ?_ | refine xt_23 ?_ | refine eq_t (by omega) ?_ | refine eq_f (by omega) ?_ | refine ne_t (by omega) ?_ | refine ne_f (by omega) ?_ | refine lt_t (by omega) ?_ | refine lt_f (by omega) ?_ | refine gt_t (by omega) ?_ | refine gt_f (by omega) ?_ | refine ge_t (by omega) ?_ | refine ge_f (by omega) ?_ | refine le_t (by omega) ?_ | refine le_f (by omega) ?_)
    refine ld1_at h6 1 rfl (v := .int .i64 r.Next) rfl ?_
    refine gd_ff (below_s f3 (by decide) (by decide) ?_)
    refine gd_ff (not_d ?_)
    by_cases d2 : 0 ≤ r.Next ∧ r.Next < 8
    case neg =>
      rw [decide_eq_false d2, Bool.not_false]
      repeat (first | refine gd_tt ?_ | refine gd_ff ?_ | refine gd_tf ?_ | refine gd_ft ?_ | refine gd_u ?_ | refine pk_t ?_ | refine pk_f ?_ | refine iff_t ?_ | refine iff_f ?_ | refine not_t ?_ | refine not_f ?_ | refine beq_s ?_ | refine bne_s ?_ | refine ncP_p ?_ | refine nc_p ?_ | refine fld_at ?_ | refine xt_02 ?_ | refine xt_12 ?_ | refine xt_03 ?_ | refine xt_13 ?_ | refine xt_23 ?_ | refine eq_t (by omega) ?_ | refine eq_f (by omega) ?_ | refine ne_t (by omega) ?_ | refine ne_f (by omega) ?_ | refine lt_t (by omega) ?_ | refine lt_f (by omega) ?_ | refine gt_t (by omega) ?_ | refine gt_f (by omega) ?_ | refine ge_t (by omega) ?_ | refine ge_f (by omega) ?_ | refine le_t (by omega) ?_ | refine le_f (by omega) ?_)
      exact hno fun h => d2 ⟨h.2.2.1, h.2.2.2.1⟩
    rw [decide_eq_true d2, Bool.not_true]
    repeat (first | refine gd_tt ?_ | refine gd_ff ?_ | refine gd_tf ?_ | refine gd_ft ?_ | refine gd_u ?_ | refine pk_t ?_ | refine pk_f ?_ | refine iff_t ?_ | refine iff_f ?_ | refine not_t ?_ | refine not_f ?_ | refine beq_s ?_ | refine bne_s ?_ | refine ncP_p ?_ | refine nc_p ?_ | refine fld_at ?_ | refine xt_02 ?_ | refine xt_12 ?_ | refine xt_03 ?_ | refine xt_13 ?_ | refine xt_23 ?_ | refine eq_t (by omega) ?_ | refine eq_f (by omega) ?_ | refine ne_t (by omega) ?_ | refine ne_f (by omega) ?_ | refine lt_t (by omega) ?_ | refine lt_f (by omega) ?_ | refine gt_t (by omega) ?_ | refine gt_f (by omega) ?_ | refine ge_t (by omega) ?_ | refine ge_f (by omega) ?_ | refine le_t (by omega) ?_ | refine le_f (by omega) ?_)
    refine ld1_at h6 1 rfl (v := .int .i64 r.Class) rfl ?_
    refine gd_ff (below_s f2 (by decide) (by decide) ?_)
    refine gd_ff (not_d ?_)
    by_cases d3 : 0 ≤ r.Class ∧ r.Class < 16
    case neg =>
      rw [decide_eq_false d3, Bool.not_false]
      repeat (first | refine gd_tt ?_ | refine gd_ff ?_ | refine gd_tf ?_ | refine gd_ft ?_ | refine gd_u ?_ | refine pk_t ?_ | refine pk_f ?_ | refine iff_t ?_ | refine iff_f ?_ | refine not_t ?_ | refine not_f ?_ | refine beq_s ?_ | refine bne_s ?_ | refine ncP_p ?_ | refine nc_p ?_ | refine fld_at ?_ | refine xt_02 ?_ | refine xt_12 ?_ | refine xt_03 ?_ | refine xt_13 ?_ | refine xt_23 ?_ | refine eq_t (by omega) ?_ | refine eq_f (by omega) ?_ | refine ne_t (by omega) ?_ | refine ne_f (by omega) ?_ | refine lt_t (by omega) ?_ | refine lt_f (by omega) ?_ | refine gt_t (by omega) ?_ | refine gt_f (by omega) ?_ | refine ge_t (by omega) ?_ | refine ge_f (by omega) ?_ | refine le_t (by omega) ?_ | refine le_f (by omega) ?_)
      exact hno fun h => d3 ⟨h.2.2.2.2.1, h.2.2.2.2.2.1⟩
    rw [decide_eq_true d3, Bool.not_true]
    repeat (first | refine gd_tt ?_ | refine gd_ff ?_ | refine gd_tf ?_ | refine gd_ft ?_ | refine gd_u ?_ | refine pk_t ?_ | refine pk_f ?_ | refine iff_t ?_ | refine iff_f ?_ | refine not_t ?_ | refine not_f ?_ | refine beq_s ?_ | refine bne_s ?_ | refine ncP_p ?_ | refine nc_p ?_ | refine fld_at ?_ | refine xt_02 ?_ | refine xt_12 ?_ | refine xt_03 ?_ | refine xt_13 ?_ | refine xt_23 ?_ | refine eq_t (by omega) ?_ | refine eq_f (by omega) ?_ | refine ne_t (by omega) ?_ | refine ne_f (by omega) ?_ | refine lt_t (by omega) ?_ | refine lt_f (by omega) ?_ | refine gt_t (by omega) ?_ | refine gt_f (by omega) ?_ | refine ge_t (by omega) ?_ | refine ge_f (by omega) ?_ | refine le_t (by omega) ?_ | refine le_f (by omega) ?_)
    refine ld1_at h6 1 rfl (v := r.sv) rfl ?_
    refine gd_ff (lnS_rd h6 (i + 3) hi3 (fun g hg => (hr g hg).e r hrm) ?_)
    by_cases d4 : 3 < r.Sends.length
    · repeat (first | refine gd_tt ?_ | refine gd_ff ?_ | refine gd_tf ?_ | refine gd_ft ?_ | refine gd_u ?_ | refine pk_t ?_ | refine pk_f ?_ | refine iff_t ?_ | refine iff_f ?_ | refine not_t ?_ | refine not_f ?_ | refine beq_s ?_ | refine bne_s ?_ | refine ncP_p ?_ | refine nc_p ?_ | refine fld_at ?_ | refine xt_02 ?_ | refine xt_12 ?_ | refine xt_03 ?_ | refine xt_13 ?_ | refine xt_23 ?_ | refine eq_t (by omega) ?_ | refine eq_f (by omega) ?_ | refine ne_t (by omega) ?_ | refine ne_f (by omega) ?_ | refine lt_t (by omega) ?_ | refine lt_f (by omega) ?_ | refine gt_t (by omega) ?_ | refine gt_f (by omega) ?_ | refine ge_t (by omega) ?_ | refine ge_f (by omega) ?_ | refine le_t (by omega) ?_ | refine le_f (by omega) ?_)
      exact hno fun h => by have := h.2.2.2.2.2.2.1; simp only [RuleX.r] at this; omega
    refine gd_ff (gt_f (by omega) ?_)
    repeat (first | refine gd_tt ?_ | refine gd_ff ?_ | refine gd_tf ?_ | refine gd_ft ?_ | refine gd_u ?_ | refine pk_t ?_ | refine pk_f ?_ | refine iff_t ?_ | refine iff_f ?_ | refine not_t ?_ | refine not_f ?_ | refine beq_s ?_ | refine bne_s ?_ | refine ncP_p ?_ | refine nc_p ?_ | refine fld_at ?_ | refine xt_02 ?_ | refine xt_12 ?_ | refine xt_03 ?_ | refine xt_13 ?_ | refine xt_23 ?_ | refine eq_t (by omega) ?_ | refine eq_f (by omega) ?_ | refine ne_t (by omega) ?_ | refine ne_f (by omega) ?_ | refine lt_t (by omega) ?_ | refine lt_f (by omega) ?_ | refine gt_t (by omega) ?_ | refine gt_f (by omega) ?_ | refine ge_t (by omega) ?_ | refine ge_f (by omega) ?_ | refine le_t (by omega) ?_ | refine le_f (by omega) ?_)
    refine ld1_at h6 1 rfl (v := r.sv) rfl ?_
    refine gd_ff (gd_ff (containsOut_s (p := fun o => ¬ okOut o) (i + 3) hi3 h6 (fun g hg => (hr g hg).e r hrm) (hl r hrm) (fun o ho w K h hk => odd1_s (f4 o ho) h hk) fun w7 h7 b hb => ?_))
    refine pk_f (iff_b b (fun hbt => ?_) (fun hbf => ?_))
    · obtain ⟨o, ho, hno'⟩ := hb.1 hbt
      exact hbad (fun h2 => hno' (((okRules_x.1 h2).2.1 r hrm).2.2.2.2.2.2.2 o ho)) _ h7.drop.drop.drop
    · refine ldN_at h7 0 (vs := ints (onK r).ns) rfl (by rfl) rfl ?_
      refine upM_s keyT_On mapT_231 hu (h7.pick 2 rfl) (onK r) true rfl fun w8 h8 => ?_
      refine inc_s (by omega) ?_
      refine hg _ _ _ (by omega) ⟨j + 1, _, by omega, rfl, rfl, fun x hx => ?_, nodup_take hnd hrj hmem, hu.up _ _, fun k => ?_, h8.selR [_, _, _] [_] [0] (by decide) rfl⟩
      · rw [List.take_add_one, hrj] at hx
        rcases List.mem_append.1 hx with h | h
        · exact hall x h
        · simp at h
          subst h
          refine ⟨d1.1, d1.2, d2.1, d2.2, d3.1, d3.2, by simp only [RuleX.r]; omega, fun o ho => Classical.not_not.1 fun h => ?_⟩
          have := hb.2 ⟨o, ho, h⟩
          rw [hbf] at this
          cases this
      · rw [lkA_up hu, hlk, List.take_add_one, hrj, Option.toList_some, List.map_append]
        by_cases hk1 : k = onK r
        · simp [hk1]
        · simp [hk1]
  · have ej : j = l.length := by omega
    rw [ej, List.take_length] at hall hnd
    have := hk _ h2.drop
    rw [if_pos (okRules_x.2 ⟨by omega, hall, hnd⟩)] at this
    exact this
end Go.Proofs.YtbopajpmadlmhaaGreat
end
section
namespace Go.Proofs.YtbopajpmadlmhaaGreat
open Go Go.E
set_option maxRecDepth 100000
variable {e w : World} {L R : List HP} {K : KV} {S : HP}

structure FedX.short (f : FedX) : Prop where
  pubs : f.Pubs.length ≤ 1000
  subs : f.Subs.length ≤ 1000
  init : f.Init.length ≤ 1000
  rules : f.Rules.length ≤ 1000
  sends : ∀ r ∈ f.Rules, r.Sends.length ≤ 1000
theorem rising_drop {most lo : Int} : ∀ {l : List Int}, rising most lo l ↔ ∀ (i : Nat) c, l[i]? = some c → (if i = 0 then lo else l.getD (i - 1) 0) < c ∧ c < most := by
  intro l
  induction l generalizing lo with
  | nil => simp [rising]
  | cons a l ih =>
    unfold rising
    rw [ih]
    constructor
    · rintro ⟨h1, h2, h3⟩ i c hc
      match i with
      | 0 => simp at hc; subst hc; exact ⟨h1, h2⟩
      | 1 => have := h3 0 c (by simpa using hc); simpa using this
      | i + 2 => have := h3 (i + 1) c (by simpa using hc); simpa using this
    · intro h
      refine ⟨(h 0 a rfl).1, (h 0 a rfl).2, fun i c hc => ?_⟩
      match i with
      | 0 => have := h 1 c (by simpa using hc); simpa using this
      | i + 1 => have := h (i + 2) c (by simpa using hc); simpa using this
open Classical in
theorem rising_s {v : Value} {l : List Int} {most : Int} {b : Nat} (i k : Nat) (hi : L[i]? = some S) (hb : L[k]? = some (blk b 3 [.int .i64 most])) (hS : Sat e w L) (hr : ∀ g, S g → rdS 1 (intsK .i64) v l g) (hl : l.length ≤ 1000)
    (hk : K (.bool (decide (rising most (-1) l))) w) : clV prog (.func (.func 136) #[] #[.pointer (some ⟨b, 0, none⟩)]) #[v] w K := by
  refine ⟨_, _, _, rfl, ?_⟩
  refine config_fed_1_calls (t0 := v) (t1 := .pointer (some ⟨b, 0, none⟩)) ?_
  unfold config_fed_1
  have hbad : ¬ rising most (-1) l → K (.bool false) w := fun h => by rw [decide_eq_false h] at hk; exact hk
  refine lnS_rd hS i hi hr ?_
  refine lpi2 (fun q t4 t9 w' => ∃ j : Nat, j ≤ l.length ∧ t9 = .int .i64 j ∧ t4 = .int .i64 (if j = 0 then -1 else l.getD (j - 1) 0) ∧ q = l.length - j ∧ (∀ (i : Nat) c, i < j → l[i]? = some c → (if i = 0 then -1 else l.getD (i - 1) 0) < c ∧ c < most) ∧ w' = w) l.length ⟨0, Nat.zero_le _, rfl, rfl, rfl, fun _ _ h => absurd h (by omega), rfl⟩ ?_
  rintro q _ _ w' g ⟨j, hj, rfl, rfl, rfl, hno, rfl⟩ hg
  refine lt_c (fun c => iff_t ?_) (fun c => iff_f ?_)
  · obtain ⟨y, hy⟩ := get_of_lt (l := l) (j := j) (by omega)
    refine ixS_rd hS i hi hr (fun _ => rfl) hy fun a ha => ?_
    refine ld1_of hS i hi ha (v := .int .i64 y) rfl ?_
    generalize hlo : (if j = 0 then (-1 : Int) else l.getD (j - 1) 0) = lo
    by_cases c1 : y ≤ lo
    · repeat (first | refine gd_tt ?_ | refine gd_ff ?_ | refine gd_tf ?_ | refine gd_ft ?_ | refine gd_u ?_ | refine pk_t ?_ | refine pk_f ?_ | refine iff_t ?_ | refine iff_f ?_ | refine not_t ?_ | refine not_f ?_ | refine beq_s ?_ | refine bne_s ?_ | refine ncP_p ?_ | refine nc_p ?_ | refine fld_at ?_ | refine xt_02 ?_ | refine xt_12 ?_ | refine xt_03 ?_ | refine xt_13 ?_ | refine xt_23 ?_ | refine eq_t (by omega) ?_ | refine eq_f (by omega) ?_ | refine ne_t (by omega) ?_ | refine ne_f (by omega) ?_ | refine lt_t (by omega) ?_ | refine lt_f (by omega) ?_ | refine gt_t (by omega) ?_ | refine gt_f (by omega) ?_ | refine ge_t (by omega) ?_ | refine ge_f (by omega) ?_ | refine le_t (by omega) ?_ | refine le_f (by omega) ?_)
      refine hbad fun h => ?_
      have := (rising_drop.1 h j y hy).1
      omega
    refine le_f c1 ?_
    repeat (first | refine gd_tt ?_ | refine gd_ff ?_ | refine gd_tf ?_ | refine gd_ft ?_ | refine gd_u ?_ | refine pk_t ?_ | refine pk_f ?_ | refine iff_t ?_ | refine iff_f ?_ | refine not_t ?_ | refine not_f ?_ | refine beq_s ?_ | refine bne_s ?_ | refine ncP_p ?_ | refine nc_p ?_ | refine fld_at ?_ | refine xt_02 ?_ | refine xt_12 ?_ | refine xt_03 ?_ | refine xt_13 ?_ | refine xt_23 ?_ | refine eq_t (by omega) ?_ | refine eq_f (by omega) ?_ | refine ne_t (by omega) ?_ | refine ne_f (by omega) ?_ | refine lt_t (by omega) ?_ | refine lt_f (by omega) ?_ | refine gt_t (by omega) ?_ | refine gt_f (by omega) ?_ | refine ge_t (by omega) ?_ | refine ge_f (by omega) ?_ | refine le_t (by omega) ?_ | refine le_f (by omega) ?_)
    refine ld1_at hS k hb rfl ?_
    by_cases c2 : most ≤ y
    · repeat (first | refine gd_tt ?_ | refine gd_ff ?_ | refine gd_tf ?_ | refine gd_ft ?_ | refine gd_u ?_ | refine pk_t ?_ | refine pk_f ?_ | refine iff_t ?_ | refine iff_f ?_ | refine not_t ?_ | refine not_f ?_ | refine beq_s ?_ | refine bne_s ?_ | refine ncP_p ?_ | refine nc_p ?_ | refine fld_at ?_ | refine xt_02 ?_ | refine xt_12 ?_ | refine xt_03 ?_ | refine xt_13 ?_ | refine xt_23 ?_ | refine eq_t (by omega) ?_ | refine eq_f (by omega) ?_ | refine ne_t (by omega) ?_ | refine ne_f (by omega) ?_ | refine lt_t (by omega) ?_ | refine lt_f (by omega) ?_ | refine gt_t (by omega) ?_ | refine gt_f (by omega) ?_ | refine ge_t (by omega) ?_ | refine ge_f (by omega) ?_ | refine le_t (by omega) ?_ | refine le_f (by omega) ?_)
      refine hbad fun h => ?_
      have := (rising_drop.1 h j y hy).2
      omega
    refine gd_ff (ge_f (by omega) (pk_f (iff_f (inc_s (by omega) ?_))))
    refine hg _ _ _ _ (by omega) ⟨j + 1, by omega, rfl, ?_, rfl, fun i c hi hc => ?_, rfl⟩
    · rw [if_neg (by omega), Nat.add_sub_cancel, List.getD_eq_getElem?_getD, hy]
      rfl
    · by_cases h : i = j
      · subst h
        rw [hy] at hc
        cases hc
        rw [hlo]
        omega
      · exact hno i c (by omega) hc
  · have ej : j = l.length := by omega
    rw [decide_eq_true (rising_drop.2 fun i c hc => hno i c (by have := (List.getElem?_eq_some_iff.1 hc).1; omega) hc)] at hk
    exact hk

theorem sendsE_cons (f : Fed) (o : Out) (l : List Out) : sendsE f (o :: l) = if o.Class ∉ f.Pubs then 81 else if o.Delay < f.Look then 80 else sendsE f l := rfl
theorem rulesE_cons (f : Fed) (most : Int) (r : Rule) (l : List Rule) : rulesE f most (r :: l) = if most ≤ r.Class then 81 else if sendsE f r.Sends ≠ 0 then sendsE f r.Sends else rulesE f most l := rfl
theorem sendsE_app (f : Fed) : ∀ (a b : List Out), sendsE f a = 0 → sendsE f (a ++ b) = sendsE f b
  | [], _, _ => rfl
  | o :: a, b, h => by
    rw [sendsE_cons] at h
    rw [List.cons_append, sendsE_cons]
    split at h
    · cases h
    · rename_i h1
      split at h
      · cases h
      · rename_i h2
        rw [if_neg h1, if_neg h2]
        exact sendsE_app f a b h
theorem rulesE_app (f : Fed) (most : Int) : ∀ (a b : List Rule), rulesE f most a = 0 → rulesE f most (a ++ b) = rulesE f most b
  | [], _, _ => rfl
  | r :: a, b, h => by
    rw [rulesE_cons] at h
    rw [List.cons_append, rulesE_cons]
    split at h
    · cases h
    · rename_i h1
      split at h
      · rename_i h2
        exact absurd h h2
      · rename_i h2
        rw [if_neg h1, if_neg h2]
        exact rulesE_app f most a b h
theorem take_split {α : Type} {l : List α} {j : Nat} {x : α} (h : l[j]? = some x) : l = l.take j ++ x :: l.drop (j + 1) := by rw [← drop_cons h, List.take_append_drop]
theorem rules_s {f : FedX} {most : Int} {b c : Nat} (i k m : Nat) (hi : L[i]? = some S) (hb : L[k]? = some (blk b 66 f.cs)) (hc : L[m]? = some (blk c 3 [.int .i64 most])) (hS : Sat e w L) (hr : ∀ g, S g → RdFed f g) (hs : f.short)
    (hk : ∀ w', Sat e w' L → K (.int .i64 (rulesE f.f most f.f.Rules)) w') : clV prog (.func (.func 137) #[] #[.pointer (some ⟨b, 0, none⟩), .pointer (some ⟨c, 0, none⟩)]) #[] w K := by
  refine ⟨_, _, _, rfl, ?_⟩
  refine config_fed_2_calls (t0 := .pointer (some ⟨b, 0, none⟩)) (t1 := .pointer (some ⟨c, 0, none⟩)) ?_
  unfold config_fed_2
  rw [zero_89, zero_87]
  refine fld_at (ld1_at hS k hb (v := f.rv) rfl ?_)
  refine lnS_rd hS i hi (fun g hg => (hr g hg).rules.s) ?_
  have hrl := hs.rules
  refine lpi1 (fun q t11 w => ∃ j : Nat, j ≤ f.Rules.length ∧ t11 = .int .i64 j ∧ q = f.Rules.length - j ∧ rulesE f.f most ((f.Rules.take j).map RuleX.r) = 0 ∧ Sat e w L) f.Rules.length ⟨0, Nat.zero_le _, rfl, rfl, rfl, hS⟩ ?_
  rintro q _ w g ⟨j, hj, rfl, rfl, hno, h1⟩ hg
  refine lt_c (fun c0 => iff_t ?_) (fun c0 => iff_f ?_)
  · obtain ⟨r, hrj⟩ := get_of_lt (l := f.Rules) (j := j) (by omega)
    have hrm := List.mem_of_getElem? hrj
    have hsl := hs.sends r hrm
    have hsp : f.f.Rules = (f.Rules.take j).map RuleX.r ++ r.r :: (f.Rules.drop (j + 1)).map RuleX.r := by
      show f.Rules.map RuleX.r = _
      conv => lhs; rw [take_split hrj]
      simp
    have hkE : ∀ w', Sat e w' L → K (.int .i64 (rulesE f.f most (r.r :: (f.Rules.drop (j + 1)).map RuleX.r))) w' := by
      intro w' h'
      have := hk w' h'
      rw [hsp, rulesE_app _ _ _ _ hno] at this
      exact this
    refine ixS_rd h1 i hi (fun g hg => (hr g hg).rules.s) (fun _ => rfl) hrj fun a ha => ?_
    refine ldN_of h1 i hi ha rfl ?_
    have hflat : ∀ c ∈ r.cs, flat c = true := by
      obtain ⟨g, hg, _⟩ := hS.get i hi
      obtain ⟨A, c', hsv, _⟩ := (hr g hg).rules.e r hrm
      intro c hc
      simp only [RuleX.cs, List.mem_cons, List.not_mem_nil, or_false] at hc
      rcases hc with rfl | rfl | rfl | rfl
      · rfl
      · rfl
      · rfl
      · rw [hsv]; rfl
    refine al_s (cs := [.int .i64 0, .int .i64 0, .int .i64 0, .slice none 0 0]) h1 rfl fun t w3 h3 => ?_
    refine stN_at h3 0 rfl (vs := r.cs) rfl rfl (by simp) hflat (cs' := r.cs) (by rfl) fun w4 h4 => ?_
    have hi1 : (blk t 89 r.cs :: L)[i + 1]? = some S := by simpa using hi
    have hb1 : (blk t 89 r.cs :: L)[k + 1]? = some (blk b 66 f.cs) := by simpa using hb
    have hc1 : (blk t 89 r.cs :: L)[m + 1]? = some (blk c 3 [.int .i64 most]) := by simpa using hc
    refine fld_at (ld1_at h4 0 rfl (v := .int .i64 r.Class) rfl ?_)
    refine ld1_at h4 (m + 1) hc1 rfl ?_
    refine ge_c (fun c2 => iff_t ?_) (fun c2 => iff_f ?_)
    · have := hkE _ h4.drop
      rw [rulesE_cons] at this
      rw [if_pos (show most ≤ r.r.Class from c2)] at this
      exact this
    refine fld_at (ld1_at h4 0 rfl (v := r.sv) rfl ?_)
    refine lnS_rd h4 (i + 1) hi1 (fun g hg => (hr g hg).rules.e r hrm) ?_
    refine lpi1 (fun q t22 w => ∃ n : Nat, n ≤ r.Sends.length ∧ t22 = .int .i64 n ∧ q = r.Sends.length - n ∧ sendsE f.f (r.Sends.take n) = 0 ∧ Sat e w (blk t 89 r.cs :: L)) r.Sends.length ⟨0, Nat.zero_le _, rfl, rfl, rfl, h4⟩ ?_
    rintro q _ w g2 ⟨n, hn, rfl, rfl, hso, h5⟩ hg2
    refine lt_c (fun c3 => iff_t ?_) (fun c3 => iff_f ?_)
    · obtain ⟨o, ho⟩ := get_of_lt (l := r.Sends) (j := n) (by omega)
      have hsp2 := take_split ho
      refine ixS_rd h5 (i + 1) hi1 (fun g hg => (hr g hg).rules.e r hrm) (fun _ => rfl) ho fun a ha => ?_
      refine ldN_of h5 (i + 1) hi1 ha rfl ?_
      refine al_s (cs := ints [0, 0, 0]) h5 rfl fun t2 w6 h6 => ?_
      refine stN_at h6 0 rfl (vs := o.cs) rfl rfl (by decide) (ints_flat _) (cs' := o.cs) (by rfl) fun w7 h7 => ?_
      refine dr_s h7 fun w8 h8 => ?_
      have hi2 : (blk t2 87 o.cs :: blk t 89 r.cs :: L)[i + 2]? = some S := by simpa using hi
      have hb2 : (blk t2 87 o.cs :: blk t 89 r.cs :: L)[k + 2]? = some (blk b 66 f.cs) := by simpa using hb
      refine fld_at (ld1_at h8 (k + 2) hb2 (v := f.pv) rfl ?_)
      refine fld_at (ld1_at h8 0 rfl (v := .int .i64 o.Class) rfl ?_)
      refine fld_at (ld1_at h8 0 rfl (v := .int .i64 o.Delay) rfl ?_)
      refine fld_at (ld1_at h8 (k + 2) hb2 (v := .int .i64 f.Look) rfl ?_)
      refine ge_d ?_
      refine contains_s (i + 2) hi2 h8 (fun g hg => (hr g hg).pubs) (by have := hs.pubs; omega) ?_
      refine ⟨ld1_at h8 (k + 2) hb2 (v := .int .i64 f.Look) rfl ⟨rfl, rfl⟩, ld1_at h8 0 rfl (v := .int .i64 o.Delay) rfl ⟨rfl, rfl⟩, ?_⟩
      refine unless_s h8 fun c3' d3 w9 h9 => ?_
      have hb3 : (UN c3' d3 (decide (o.Class ∈ f.Pubs)) 81 :: blk t2 87 o.cs :: blk t 89 r.cs :: L)[k + 3]? = some (blk b 66 f.cs) := by simpa using hb
      refine ⟨ld1_at h9 (k + 3) hb3 (v := .int .i64 f.Look) rfl ⟨rfl, rfl⟩, ld1_at h9 1 rfl (v := .int .i64 o.Delay) rfl ⟨rfl, rfl⟩, ?_⟩
      refine unless_s h9 fun c4 d4 w10 h10 => ?_
      refine bsl_s [unV c3' d3, unV c4 d4] h10 (by kernel_rfl) fun bb w11 h11 => ?_
      refine first_s (fs := [unV c3' d3, unV c4 d4]) (Es := [if decide (o.Class ∈ f.Pubs) = true then 0 else 81, if decide (f.Look ≤ o.Delay) = true then 0 else 80]) 0 rfl h11 (blk_rdn (f := fun v => [v]) [unV c3' d3, unV c4 d4] rfl (Nat.le_refl _)) (by simp) rfl (fun j fv E hf hE _ w K hw hK => ?_) fun w12 h12 => ?_
      · match j with
        | 0 =>
          simp only [List.getElem?_cons_zero, Option.some.injEq] at hf hE
          subst hf hE
          exact unless1_s 2 rfl hw (hK _ hw)
        | 1 =>
          simp only [List.getElem?_cons_succ, List.getElem?_cons_zero, Option.some.injEq] at hf hE
          subst hf hE
          exact unless1_s 1 rfl hw (hK _ hw)
        | j + 2 => simp at hf
      · have h13 : Sat e w12 (blk t 89 r.cs :: L) := h12.drop.drop.drop.drop
        have hkS : ∀ E, E ≠ 0 → sendsE f.f (o :: r.Sends.drop (n + 1)) = E → K (.int .i64 E) w12 := by
          intro E hE0 hE
          have := hkE _ h13.drop
          rw [rulesE_cons] at this
          have e1 : sendsE f.f r.r.Sends = E := by
            show sendsE f.f r.Sends = E
            rw [hsp2, sendsE_app _ _ _ hso]
            exact hE
          rw [if_neg (show ¬ most ≤ r.r.Class by simp only [RuleX.r]; omega), e1, if_pos hE0] at this
          exact this
        rw [firstE_cons, firstE_cons, firstE_nil]
        by_cases d1 : o.Class ∈ f.Pubs
        · by_cases d2 : f.Look ≤ o.Delay
          · rw [decide_eq_true d1, decide_eq_true d2]
            simp only [if_true]
            refine ne_f rfl (iff_f (inc_s (by omega) ?_))
            refine hg2 _ _ _ (by omega) ⟨n + 1, by omega, rfl, rfl, ?_, h13⟩
            rw [List.take_add_one, ho, sendsE_app _ _ _ hso]
            show sendsE f.f [o] = 0
            rw [sendsE_cons]
            rw [if_neg (show ¬ o.Class ∉ f.f.Pubs from fun h => h d1), if_neg (show ¬ o.Delay < f.f.Look by simp only [FedX.f]; omega)]
            rfl
          · rw [decide_eq_true d1, decide_eq_false d2]
            refine ne_t (by decide) (iff_t (hkS 80 (by decide) ?_))
            rw [sendsE_cons]
            rw [if_neg (show ¬ o.Class ∉ f.f.Pubs from fun h => h d1), if_pos (show o.Delay < f.f.Look by simp only [FedX.f]; omega)]
        · rw [decide_eq_false d1]
          refine ne_t (by simp) (iff_t (hkS 81 (by decide) ?_))
          rw [sendsE_cons]
          rw [if_pos (show o.Class ∉ f.f.Pubs from d1)]
    · have en : n = r.Sends.length := by omega
      rw [en, List.take_length] at hso
      refine inc_s (by omega) ?_
      refine hg _ _ _ (by omega) ⟨j + 1, by omega, rfl, rfl, ?_, h5.drop⟩
      rw [List.take_add_one, hrj, List.map_append, rulesE_app _ _ _ _ hno]
      show rulesE f.f most [r.r] = 0
      rw [rulesE_cons]
      rw [if_neg (show ¬ most ≤ r.r.Class by simp only [RuleX.r]; omega), if_neg (show ¬ sendsE f.f r.r.Sends ≠ 0 from fun h => h hso)]
      rfl
  · have ej : j = f.Rules.length := by omega
    rw [ej, List.take_length] at hno
    have := hk _ h1
    rw [show f.f.Rules = f.Rules.map RuleX.r from rfl, hno] at this
    exact this
end Go.Proofs.YtbopajpmadlmhaaGreat
namespace Go.Proofs.YtbopajpmadlmhaaGreat
open Go Go.E
set_option maxRecDepth 100000
variable {e w : World} {L R : List HP} {K : KV} {S : HP}

def okIni (f : Fed) (o : Out) : Prop := o.Class ∈ f.Pubs ∧ 0 ≤ o.Delay ∧ o.Delay ≤ 1099511627776 ∧ 0 ≤ o.Add ∧ o.Add ≤ 999
theorem odd2_s {f : FedX} {b : Nat} {o : Out} (i k : Nat) (hi : L[i]? = some S) (hb : L[k]? = some (blk b 66 f.cs)) (hS : Sat e w L) (hr : ∀ g, S g → RdFed f g) (hs : f.short)
    (hk : ∀ w', Sat e w' L → ∀ q : Bool, (q = true ↔ ¬ okIni f.f o) → K (.bool q) w') : clV prog (.func (.func 139) #[] #[.pointer (some ⟨b, 0, none⟩)]) #[.agg o.cs.toArray] w K := by
  refine ⟨_, _, _, rfl, ?_⟩
  refine config_fed_3_calls (t0 := .agg o.cs.toArray) (t1 := .pointer (some ⟨b, 0, none⟩)) ?_
  unfold config_fed_3
  refine al_s (cs := o.cs) hS rfl fun t w1 h1 => ?_
  have hi1 : (blk t 87 o.cs :: L)[i + 1]? = some S := by simpa using hi
  have hb1 : (blk t 87 o.cs :: L)[k + 1]? = some (blk b 66 f.cs) := by simpa using hb
  have hk := hk w1 h1.drop
  refine fld_at (ld1_at h1 (k + 1) hb1 (v := f.pv) rfl ?_)
  refine fld_at (ld1_at h1 0 rfl (v := .int .i64 o.Class) rfl ?_)
  refine contains_s (i + 1) hi1 h1 (fun g hg => (hr g hg).pubs) (by have := hs.pubs; omega) (not_d ?_)
  by_cases c1 : o.Class ∈ f.Pubs
  case neg =>
    rw [decide_eq_false c1, Bool.not_false]
    repeat (first | refine gd_tt ?_ | refine gd_ff ?_ | refine gd_tf ?_ | refine gd_ft ?_ | refine gd_u ?_ | refine pk_t ?_ | refine pk_f ?_ | refine iff_t ?_ | refine iff_f ?_ | refine not_t ?_ | refine not_f ?_ | refine beq_s ?_ | refine bne_s ?_ | refine ncP_p ?_ | refine nc_p ?_ | refine fld_at ?_ | refine xt_02 ?_ | refine xt_12 ?_ | refine xt_03 ?_ | refine xt_13 ?_ | refine xt_23 ?_ | refine eq_t (by omega) ?_ | refine eq_f (by omega) ?_ | refine ne_t (by omega) ?_ | refine ne_f (by omega) ?_ | refine lt_t (by omega) ?_ | refine lt_f (by omega) ?_ | refine gt_t (by omega) ?_ | refine gt_f (by omega) ?_ | refine ge_t (by omega) ?_ | refine ge_f (by omega) ?_ | refine le_t (by omega) ?_ | refine le_f (by omega) ?_)
    exact hk true ⟨fun _ h => c1 h.1, fun _ => rfl⟩
  rw [decide_eq_true c1, Bool.not_true]
  repeat (first | refine gd_tt ?_ | refine gd_ff ?_ | refine gd_tf ?_ | refine gd_ft ?_ | refine gd_u ?_ | refine pk_t ?_ | refine pk_f ?_ | refine iff_t ?_ | refine iff_f ?_ | refine not_t ?_ | refine not_f ?_ | refine beq_s ?_ | refine bne_s ?_ | refine ncP_p ?_ | refine nc_p ?_ | refine fld_at ?_ | refine xt_02 ?_ | refine xt_12 ?_ | refine xt_03 ?_ | refine xt_13 ?_ | refine xt_23 ?_ | refine eq_t (by omega) ?_ | refine eq_f (by omega) ?_ | refine ne_t (by omega) ?_ | refine ne_f (by omega) ?_ | refine lt_t (by omega) ?_ | refine lt_f (by omega) ?_ | refine gt_t (by omega) ?_ | refine gt_f (by omega) ?_ | refine ge_t (by omega) ?_ | refine ge_f (by omega) ?_ | refine le_t (by omega) ?_ | refine le_f (by omega) ?_)
  refine ld1_at h1 0 rfl (v := .int .i64 o.Delay) rfl ?_
  refine gd_ff (within_s ?_)
  refine gd_ff (not_d ?_)
  by_cases c2 : 0 ≤ o.Delay ∧ o.Delay ≤ 1099511627776
  case neg =>
    rw [decide_eq_false c2, Bool.not_false]
    repeat (first | refine gd_tt ?_ | refine gd_ff ?_ | refine gd_tf ?_ | refine gd_ft ?_ | refine gd_u ?_ | refine pk_t ?_ | refine pk_f ?_ | refine iff_t ?_ | refine iff_f ?_ | refine not_t ?_ | refine not_f ?_ | refine beq_s ?_ | refine bne_s ?_ | refine ncP_p ?_ | refine nc_p ?_ | refine fld_at ?_ | refine xt_02 ?_ | refine xt_12 ?_ | refine xt_03 ?_ | refine xt_13 ?_ | refine xt_23 ?_ | refine eq_t (by omega) ?_ | refine eq_f (by omega) ?_ | refine ne_t (by omega) ?_ | refine ne_f (by omega) ?_ | refine lt_t (by omega) ?_ | refine lt_f (by omega) ?_ | refine gt_t (by omega) ?_ | refine gt_f (by omega) ?_ | refine ge_t (by omega) ?_ | refine ge_f (by omega) ?_ | refine le_t (by omega) ?_ | refine le_f (by omega) ?_)
    exact hk true ⟨fun _ h => c2 ⟨h.2.1, h.2.2.1⟩, fun _ => rfl⟩
  rw [decide_eq_true c2, Bool.not_true]
  repeat (first | refine gd_tt ?_ | refine gd_ff ?_ | refine gd_tf ?_ | refine gd_ft ?_ | refine gd_u ?_ | refine pk_t ?_ | refine pk_f ?_ | refine iff_t ?_ | refine iff_f ?_ | refine not_t ?_ | refine not_f ?_ | refine beq_s ?_ | refine bne_s ?_ | refine ncP_p ?_ | refine nc_p ?_ | refine fld_at ?_ | refine xt_02 ?_ | refine xt_12 ?_ | refine xt_03 ?_ | refine xt_13 ?_ | refine xt_23 ?_ | refine eq_t (by omega) ?_ | refine eq_f (by omega) ?_ | refine ne_t (by omega) ?_ | refine ne_f (by omega) ?_ | refine lt_t (by omega) ?_ | refine lt_f (by omega) ?_ | refine gt_t (by omega) ?_ | refine gt_f (by omega) ?_ | refine ge_t (by omega) ?_ | refine ge_f (by omega) ?_ | refine le_t (by omega) ?_ | refine le_f (by omega) ?_)
  refine ld1_at h1 0 rfl (v := .int .i64 o.Add) rfl ?_
  refine gd_ff (within_s ?_)
  refine gd_ff (not_d (pk_f (hk _ ?_)))
  by_cases c3 : 0 ≤ o.Add ∧ o.Add ≤ 999
  · rw [decide_eq_true c3, Bool.not_true]
    exact ⟨(fun h => by cases h), fun h => absurd ⟨c1, c2.1, c2.2, c3.1, c3.2⟩ h⟩
  · rw [decide_eq_false c3, Bool.not_false]
    exact ⟨fun _ h => c3 h.2.2.2, fun _ => rfl⟩
open Classical in
theorem fed4_s {f : FedX} {b : Nat} (i k : Nat) (hi : L[i]? = some S) (hb : L[k]? = some (blk b 66 f.cs)) (hS : Sat e w L) (hr : ∀ g, S g → RdFed f g) (hwf : f.wf) (hs : f.short)
    (hk : ∀ w', Sat e w' L → K (.int .i64 (if okRules f.f.Rules then 0 else 70)) w') : clV prog (.func (.func 140) #[] #[.pointer (some ⟨b, 0, none⟩)]) #[] w K := by
  refine ⟨_, _, _, rfl, ?_⟩
  refine config_fed_4_calls (t0 := .pointer (some ⟨b, 0, none⟩)) ?_
  unfold config_fed_4
  refine fld_at (ld1_at hS k hb (v := f.rv) rfl ?_)
  exact table_Check_s i hi hS (fun g hg => (hr g hg).rules) hwf.2.2.2.1 (fun r hr => by have := hs.sends r hr; omega) hk
theorem ite_dec {p : Prop} {i j : Decidable p} {a b : Int} : (if @decide p i = true then a else b) = @ite _ p j a b := by
  by_cases h : p <;> simp [h]
theorem ite_iff {p q : Prop} {i : Decidable p} {j : Decidable q} (h : p ↔ q) {a b : Int} : @ite _ p i a b = @ite _ q j a b := by
  by_cases hp : p
  · rw [if_pos hp, if_pos (h.1 hp)]
  · rw [if_neg hp, if_neg fun k => hp (h.2 k)]
theorem fed_cells {f : FedX} (i : Nat) (hi : L[i]? = some S) (hS : Sat e w L) (hr : ∀ g, S g → RdFed f g) : ∀ c ∈ f.cs, flat c = true := by
  obtain ⟨g, hg, _⟩ := hS.get i hi
  obtain ⟨_, _, h1, _⟩ := (hr g hg).rules.s
  obtain ⟨_, _, h2, _⟩ := (hr g hg).pubs
  obtain ⟨_, _, h3, _⟩ := (hr g hg).subs
  obtain ⟨_, _, h4, _⟩ := (hr g hg).init
  intro c hc
  simp only [FedX.cs, List.mem_cons, List.not_mem_nil, or_false] at hc
  rcases hc with rfl | rfl | rfl | rfl | rfl | rfl | rfl
  · rfl
  · rfl
  · rfl
  · rw [h1]; rfl
  · rw [h2]; rfl
  · rw [h3]; rfl
  · rw [h4]; rfl
open Classical in
theorem config_fed_s {f : FedX} {most : Int} (i : Nat) (hi : L[i]? = some S) (hS : Sat e w L) (hr : ∀ g, S g → RdFed f g) (hwf : f.wf) (hs : f.short)
    (hk : ∀ w', Sat e w' L → K (.int .i64 (fedE f.f most)) w') : Cl prog 94 #[.agg f.cs.toArray, .int .i64 most] w K := by
  refine config_fed_calls ?_
  unfold config_fed
  refine al_s (cs := f.cs) hS rfl fun b w1 h1 => ?_
  refine al_s (cs := [.int .i64 most]) h1 rfl fun c w2 h2 => ?_
  refine dr_s h2 fun w3 h3 => ?_
  have hi3 : (blk c 3 [.int .i64 most] :: blk b 66 f.cs :: L)[i + 2]? = some S := by simpa using hi
  refine fld_at (ld1_at h3 1 rfl (v := .int .i64 f.Kind) rfl ?_)
  refine fld_at (ld1_at h3 1 rfl (v := .int .i64 f.Look) rfl ?_)
  refine fld_at (ld1_at h3 1 rfl (v := .int .i64 f.Start) rfl ?_)
  refine fld_at (ld1_at h3 1 rfl (v := f.pv) rfl ?_)
  refine fld_at (ld1_at h3 1 rfl (v := f.iv) rfl ?_)
  refine lnS_rd h3 (i + 2) hi3 (fun g hg => (hr g hg).init) ?_
  refine le_d ?_
  refine within_s ?_
  have ld : ∀ {A : List HP} {w : World} (n : Nat), Sat e w A → A[n]? = some (blk b 66 f.cs) → ∀ (o : Nat) (v : Value), f.cs[o]? = some v → ld1 (.pointer (some ⟨b, o, none⟩)) w (fun v' w'' => v' = v ∧ w'' = w) := fun n h hA o v ho => ld1_at h n hA ho ⟨rfl, rfl⟩
  refine ⟨ld 1 h3 rfl 6 _ rfl, ld 1 h3 rfl 4 _ rfl, ld 1 h3 rfl 2 _ rfl, ld 1 h3 rfl 1 _ rfl, ?_⟩
  refine unless_s h3 fun c1 d1 w4 h4 => ?_
  refine ⟨ld 2 h4 rfl 6 _ rfl, ld 2 h4 rfl 4 _ rfl, ld 2 h4 rfl 2 _ rfl, ld 2 h4 rfl 1 _ rfl, ?_⟩
  refine within_s ?_
  refine ⟨ld 2 h4 rfl 6 _ rfl, ld 2 h4 rfl 4 _ rfl, ld 2 h4 rfl 2 _ rfl, ?_⟩
  refine unless_s h4 fun c2 d2 w5 h5 => ?_
  refine ⟨ld 3 h5 rfl 6 _ rfl, ld 3 h5 rfl 4 _ rfl, ld 3 h5 rfl 2 _ rfl, ?_⟩
  refine within_s ?_
  refine ⟨ld 3 h5 rfl 6 _ rfl, ld 3 h5 rfl 4 _ rfl, ?_⟩
  refine unless_s h5 fun c3 d3 w6 h6 => ?_
  refine ⟨ld 4 h6 rfl 6 _ rfl, ld 4 h6 rfl 4 _ rfl, ?_⟩
  refine rising_s (most := most) (i + 5) 3 (by simpa using hi) rfl h6 (fun g hg => (hr g hg).pubs) hs.pubs ?_
  refine ⟨ld 4 h6 rfl 6 _ rfl, ?_⟩
  have hmid : ∀ K : World → KV, K w6 (.bool (decide (rising most (-1) f.Pubs ∧ rising most (-1) f.Subs))) w6 → gd (.bool (decide (rising most (-1) f.Pubs))) true (fun k => k (.func (.func 136) #[] #[.pointer (some ⟨c, 0, none⟩)]) w6) w6 fun t29 _ =>
      gd (.bool (decide (rising most (-1) f.Pubs))) true (fun k => fld 5 (.pointer (some ⟨b, 0, none⟩)) w6 k) w6 fun t30 _ =>
      gd (.bool (decide (rising most (-1) f.Pubs))) true (fun k => ld1 t30 w6 k) w6 fun t31 _ =>
      gd (.bool (decide (rising most (-1) f.Pubs))) true (fun k => clV prog t29 #[t31] w6 k) w6 fun t32 w =>
      (ld1 (.pointer (some ⟨b, 0 + 6, none⟩)) w (fun v' w'' => v' = f.iv ∧ w'' = w)) ∧ (pk (.bool (decide (rising most (-1) f.Pubs))) t32 (.bool false) w (K w)) := by
    intro K hK
    by_cases q1 : rising most (-1) f.Pubs
    · rw [decide_eq_true q1]
      refine gd_tt (gd_tt (fld_at (gd_tt (ld1_at h6 4 rfl (v := f.sv) rfl (gd_tt ?_)))))
      refine rising_s (most := most) (i + 5) 3 (by simpa using hi) rfl h6 (fun g hg => (hr g hg).subs) hs.subs ?_
      refine ⟨ld 4 h6 rfl 6 _ rfl, pk_t ?_⟩
      by_cases q2 : rising most (-1) f.Subs
      · rw [decide_eq_true q2]
        rw [decide_eq_true ⟨q1, q2⟩] at hK
        exact hK
      · rw [decide_eq_false q2]
        rw [decide_eq_false fun h => q2 h.2] at hK
        exact hK
    · rw [decide_eq_false q1]
      rw [decide_eq_false fun h => q1 h.1] at hK
      exact gd_ft (gd_ft (gd_ft (gd_ft ⟨ld 4 h6 rfl 6 _ rfl, pk_f hK⟩)))
  refine hmid (fun w t33 _ => _) ?_
  clear hmid
  refine unless_s h6 fun c5 d5 w7 h7 => ?_
  refine ⟨ld 5 h7 rfl 6 _ rfl, ?_⟩
  have hmid : ∀ K : World → KV, (∀ w', Sat e w' (UN c5 d5 (decide (rising most (-1) f.Pubs ∧ rising most (-1) f.Subs)) 81 :: UN c3 d3 (decide (0 ≤ f.Start ∧ f.Start ≤ 7)) 70 :: UN c2 d2 (decide (1 ≤ f.Look ∧ f.Look ≤ 1048576)) 80 :: UN c1 d1 (decide (0 ≤ f.Kind ∧ f.Kind ≤ 1)) 1 :: blk c 3 [.int .i64 most] :: blk b 66 f.cs :: L) → ∀ q : Bool, (q = true ↔ okInit f.f) → K w' (.bool q) w') →
      gd (.bool (decide ((f.Init.length : Int) ≤ 4))) true (fun k => fld 6 (.pointer (some ⟨b, 0, none⟩)) w7 k) w7 fun t41 _ =>
      gd (.bool (decide ((f.Init.length : Int) ≤ 4))) true (fun k => ld1 t41 w7 k) w7 fun t42 _ =>
      gd (.bool (decide ((f.Init.length : Int) ≤ 4))) true (fun k => k (.func (.func 139) #[] #[.pointer (some ⟨b, 0, none⟩)]) w7) w7 fun t43 _ =>
      gd (.bool (decide ((f.Init.length : Int) ≤ 4))) true (fun k => Cl prog 142 #[t42, t43] w7 k) w7 fun t44 w =>
      gd (.bool (decide ((f.Init.length : Int) ≤ 4))) true (fun k => bnot t44 w k) w fun t45 _ =>
      pk (.bool (decide ((f.Init.length : Int) ≤ 4))) t45 (.bool false) w (K w) := by
    intro K hK
    by_cases q1 : (f.Init.length : Int) ≤ 4
    · rw [decide_eq_true q1]
      refine gd_tt (fld_at (gd_tt (ld1_at h7 5 rfl (v := f.iv) rfl (gd_tt (gd_tt ?_)))))
      refine containsOut_s (p := fun o => ¬ okIni f.f o) (i + 6) (by simpa using hi) h7 (fun g hg => (hr g hg).init) (by have := hs.init; omega) (fun o ho w K h hk => odd2_s (i + 6) 5 (by simpa using hi) rfl h hr hs hk) fun w8 h8 q hq => ?_
      refine gd_tt (not_d (pk_t (hK _ h8 _ ?_)))
      constructor
      · intro h
        refine ⟨by show f.Init.length ≤ 4; omega, fun o ho => Classical.not_not.1 fun hn => ?_⟩
        have := hq.2 ⟨o, ho, hn⟩
        rw [this] at h
        cases h
      · intro h
        cases q with
        | false => rfl
        | true =>
          obtain ⟨o, ho, hn⟩ := hq.1 rfl
          exact absurd (h.2 o ho) hn
    · rw [decide_eq_false q1]
      exact gd_ft (gd_ft (gd_ft (gd_ft (gd_ft (pk_f (hK _ h7 _ ⟨(fun h => by cases h), fun h => absurd (show (f.Init.length : Int) ≤ 4 from by have h2 : f.Init.length ≤ 4 := h.1; omega) q1⟩))))))
  refine hmid (fun w t46 _ => _) fun w8 h8 q hq => ?_
  clear hmid
  refine unless_s h8 fun c7 d7 w9 h9 => ?_
  refine bsl_s [unV c1 d1, unV c2 d2, unV c3 d3, .func (.func 140) #[] #[.pointer (some ⟨b, 0, none⟩)], unV c5 d5, .func (.func 137) #[] #[.pointer (some ⟨b, 0, none⟩), .pointer (some ⟨c, 0, none⟩)], unV c7 d7] h9 (by kernel_rfl) fun bb w10 h10 => ?_
  have hEs : fedEs f.f most = [if decide (0 ≤ f.Kind ∧ f.Kind ≤ 1) = true then 0 else 1, if decide (1 ≤ f.Look ∧ f.Look ≤ 1048576) = true then 0 else 80, if decide (0 ≤ f.Start ∧ f.Start ≤ 7) = true then 0 else 70, if okRules f.f.Rules then 0 else 70,
      if decide (rising most (-1) f.Pubs ∧ rising most (-1) f.Subs) = true then 0 else 81, rulesE f.f most f.f.Rules, if q = true then 0 else 82] := by
    unfold fedEs
    rw [ite_dec, ite_dec, ite_dec, ite_dec, ite_iff hq]
    rfl
  refine first_s (fs := [unV c1 d1, unV c2 d2, unV c3 d3, .func (.func 140) #[] #[.pointer (some ⟨b, 0, none⟩)], unV c5 d5, .func (.func 137) #[] #[.pointer (some ⟨b, 0, none⟩), .pointer (some ⟨c, 0, none⟩)], unV c7 d7]) (Es := fedEs f.f most) 0 rfl h10 (blk_rdn (f := fun v => [v]) [unV c1 d1, unV c2 d2, unV c3 d3, .func (.func 140) #[] #[.pointer (some ⟨b, 0, none⟩)], unV c5 d5, .func (.func 137) #[] #[.pointer (some ⟨b, 0, none⟩), .pointer (some ⟨c, 0, none⟩)], unV c7 d7] rfl (Nat.le_refl _)) (by simp) rfl (fun j fv E hf hE _ w K hw hK => ?_) fun w11 h11 => ?_
  · rw [hEs] at hE
    match j with
    | 0 =>
      simp only [List.getElem?_cons_zero, Option.some.injEq] at hf hE
      subst hf hE
      exact unless1_s 5 rfl hw (hK _ hw)
    | 1 =>
      simp only [List.getElem?_cons_succ, List.getElem?_cons_zero, Option.some.injEq] at hf hE
      subst hf hE
      exact unless1_s 4 rfl hw (hK _ hw)
    | 2 =>
      simp only [List.getElem?_cons_succ, List.getElem?_cons_zero, Option.some.injEq] at hf hE
      subst hf hE
      exact unless1_s 3 rfl hw (hK _ hw)
    | 3 =>
      simp only [List.getElem?_cons_succ, List.getElem?_cons_zero, Option.some.injEq] at hf hE
      subst hf hE
      exact fed4_s (i + 8) 7 (by simpa using hi) rfl hw hr hwf hs hK
    | 4 =>
      simp only [List.getElem?_cons_succ, List.getElem?_cons_zero, Option.some.injEq] at hf hE
      subst hf hE
      exact unless1_s 2 rfl hw (hK _ hw)
    | 5 =>
      simp only [List.getElem?_cons_succ, List.getElem?_cons_zero, Option.some.injEq] at hf hE
      subst hf hE
      exact rules_s (i + 8) 7 6 (by simpa using hi) rfl rfl hw hr hs hK
    | 6 =>
      simp only [List.getElem?_cons_succ, List.getElem?_cons_zero, Option.some.injEq] at hf hE
      subst hf hE
      exact unless1_s 1 rfl hw (hK _ hw)
    | j + 7 => simp at hf
  · exact hk _ (h11.selR [_, _, _, _, _, _, _, _] [] [] (by decide) rfl)

structure WdX.short (x : WdX) : Prop where
  feds : x.Feds.length ≤ 1000
  par : x.Parents.length ≤ 1000
  fed : ∀ f ∈ x.Feds, f.short
theorem fedsE_cons (most : Int) (i : Nat) (f : Fed) (l : List Fed) : fedsE most i (f :: l) = if fedE f most ≠ 0 then ((i : Int), fedE f most) else fedsE most (i + 1) l := rfl
theorem fedsE_app (most : Int) : ∀ (a b : List Fed) (i : Nat), (∀ f ∈ a, fedE f most = 0) → fedsE most i (a ++ b) = fedsE most (i + a.length) b
  | [], _, _, _ => rfl
  | f :: a, b, i, h => by
    rw [List.cons_append, fedsE_cons, if_neg (fun k => k (h f (by simp))), fedsE_app most a b (i + 1) fun g hg => h g (by simp [hg])]
    congr 1
    simp; omega
theorem wd_cells {x : WdX} (i : Nat) (hi : L[i]? = some S) (hS : Sat e w L) (hr : ∀ g, S g → RdWd x g) : ∀ c ∈ x.cs, flat c = true := by
  obtain ⟨g, hg, _⟩ := hS.get i hi
  obtain ⟨_, _, h1, _⟩ := (hr g hg).par
  obtain ⟨_, _, h2, _⟩ := (hr g hg).feds
  intro c hc
  simp only [WdX.cs, List.mem_cons, List.not_mem_nil, or_false] at hc
  rcases hc with rfl | rfl | rfl
  · rw [h1]; rfl
  · rw [h2]; rfl
  · rfl
theorem config_Check_s {x : WdX} (i : Nat) (hi : L[i]? = some S) (hS : Sat e w L) (hr : ∀ g, S g → RdWd x g) (hwf : x.wf) (hs : x.short)
    (hk : ∀ w', Sat e w' L → K (.tuple #[.int .i64 (checkW x.w).1, .int .i64 (checkW x.w).2]) w') : Cl prog 42 #[.agg x.cs.toArray] w K := by
  refine config_Check_calls ?_
  unfold config_Check
  refine al_s (cs := x.cs) hS rfl fun b w1 h1 => ?_
  have hi1 : (blk b 27 x.cs :: L)[i + 1]? = some S := by simpa using hi
  have hfl := hs.feds
  refine fld_at (ld1_at h1 0 rfl (v := .int .i64 x.End) rfl ?_)
  refine within_s ?_
  have hmid : ∀ K : KV, K (.bool (decide ((0 ≤ x.End ∧ x.End ≤ 1099511627776) ∧ (1 ≤ (x.Feds.length : Int) ∧ (x.Feds.length : Int) ≤ 8)))) w1 →
      gd (.bool (decide (0 ≤ x.End ∧ x.End ≤ 1099511627776))) true (fun k => fld 1 (.pointer (some ⟨b, 0, none⟩)) w1 k) w1 fun t13 w =>
      gd (.bool (decide (0 ≤ x.End ∧ x.End ≤ 1099511627776))) true (fun k => ld1 t13 w k) w fun t14 w =>
      gd (.bool (decide (0 ≤ x.End ∧ x.End ≤ 1099511627776))) true (fun k => lnS t14 w k) w fun t15 w =>
      gd (.bool (decide (0 ≤ x.End ∧ x.End ≤ 1099511627776))) true (fun k => Cl prog 93 #[t15, .int .i64 1, .int .i64 8] w k) w fun t16 w =>
      pk (.bool (decide (0 ≤ x.End ∧ x.End ≤ 1099511627776))) t16 (.bool false) w K := by
    intro K hK
    by_cases q1 : 0 ≤ x.End ∧ x.End ≤ 1099511627776
    · rw [decide_eq_true q1]
      refine gd_tt (fld_at (gd_tt (ld1_at h1 0 rfl (v := x.fv) rfl (gd_tt (lnS_rd h1 (i + 1) hi1 (fun g hg => (hr g hg).feds) ?_)))))
      refine gd_tt (within_s (pk_t ?_))
      by_cases q2 : 1 ≤ (x.Feds.length : Int) ∧ (x.Feds.length : Int) ≤ 8
      · rw [decide_eq_true q2]
        rw [decide_eq_true ⟨q1, q2⟩] at hK
        exact hK
      · rw [decide_eq_false q2]
        rw [decide_eq_false fun h => q2 h.2] at hK
        exact hK
    · rw [decide_eq_false q1]
      rw [decide_eq_false fun h => q1 h.1] at hK
      exact gd_ft (gd_ft (gd_ft (gd_ft (pk_f hK))))
  refine hmid _ ?_
  clear hmid
  refine unless_s h1 fun c1 d1 w2 h2 => ?_
  refine bsl_s [.func (.func 90) #[] #[.pointer (some ⟨b, 0, none⟩)], unV c1 d1] h2 (by kernel_rfl) fun bb w3 h3 => ?_
  refine first_s (fs := [.func (.func 90) #[] #[.pointer (some ⟨b, 0, none⟩)], unV c1 d1]) (Es := [treeE x.Parents, if decide ((0 ≤ x.End ∧ x.End ≤ 1099511627776) ∧ (1 ≤ (x.Feds.length : Int) ∧ (x.Feds.length : Int) ≤ 8)) = true then 0 else 1]) 0 rfl h3
    (blk_rdn (f := fun v => [v]) [.func (.func 90) #[] #[.pointer (some ⟨b, 0, none⟩)], unV c1 d1] rfl (Nat.le_refl _)) (by simp) rfl (fun j fv E hf hE _ w K hw hK => ?_) fun w4 h4 => ?_
  · match j with
    | 0 =>
      simp only [List.getElem?_cons_zero, Option.some.injEq] at hf hE
      subst hf hE
      refine ⟨_, _, _, rfl, ?_⟩
      refine config_Check_1_calls (t0 := .pointer (some ⟨b, 0, none⟩)) ?_
      unfold config_Check_1
      refine fld_at (ld1_at hw 2 rfl (v := x.pv) rfl ?_)
      exact tree_Check_s (i + 3) (by simpa using hi) hw (fun g hg => (hr g hg).par) (hK _ hw)
    | 1 =>
      simp only [List.getElem?_cons_succ, List.getElem?_cons_zero, Option.some.injEq] at hf hE
      subst hf hE
      exact unless1_s 1 rfl hw (hK _ hw)
    | j + 2 => simp at hf
  have h5 : Sat e w4 (blk b 27 x.cs :: L) := h4.drop.drop
  rw [firstE_cons, firstE_cons, firstE_nil]
  by_cases p1 : treeE x.Parents = 0
  case neg =>
    rw [if_neg p1]
    have := hk _ h5.drop
    unfold checkW at this
    rw [if_pos (show treeE x.w.Parents ≠ 0 from p1)] at this
    exact ne_t p1 (iff_t this)
  rw [if_pos p1]
  by_cases p2 : (0 ≤ x.End ∧ x.End ≤ 1099511627776) ∧ (1 ≤ (x.Feds.length : Int) ∧ (x.Feds.length : Int) ≤ 8)
  case neg =>
    rw [decide_eq_false p2, if_neg (by decide)]
    have := hk _ h5.drop
    unfold checkW at this
    rw [if_neg (show ¬ treeE x.w.Parents ≠ 0 from fun h => h p1), if_pos (by simp only [WdX.w, List.length_map]; exact p2)] at this
    refine ne_t (by decide) (iff_t ?_)
    exact this
  rw [decide_eq_true p2, if_pos rfl]
  have hk : ∀ w', Sat e w' L → K (.tuple #[.int .i64 (fedsE x.Parents.length 0 (x.Feds.map FedX.f)).1, .int .i64 (fedsE x.Parents.length 0 (x.Feds.map FedX.f)).2]) w' := by
    intro w' h'
    have := hk w' h'
    unfold checkW at this
    rw [if_neg (show ¬ treeE x.w.Parents ≠ 0 from fun h => h p1), if_neg (by simp only [WdX.w, List.length_map]; exact fun h => h p2)] at this
    exact this
  refine ne_f (by simp) (iff_f ?_)
  refine fld_at (ld1_at h5 0 rfl (v := x.fv) rfl ?_)
  refine lnS_rd h5 (i + 1) hi1 (fun g hg => (hr g hg).feds) ?_
  refine lpi1 (fun q t w => ∃ j : Nat, j ≤ x.Feds.length ∧ t = .int .i64 j ∧ q = x.Feds.length - j ∧ (∀ f ∈ (x.Feds.take j).map FedX.f, fedE f x.Parents.length = 0) ∧ Sat e w (blk b 27 x.cs :: L)) x.Feds.length ⟨0, Nat.zero_le _, rfl, rfl, by simp, h5⟩ ?_
  rintro q _ w g ⟨j, hj, rfl, rfl, hno, h6⟩ hg
  refine lt_c (fun c0 => iff_t ?_) (fun c0 => iff_f ?_)
  · obtain ⟨f, hf⟩ := get_of_lt (l := x.Feds) (j := j) (by omega)
    have hfm := List.mem_of_getElem? hf
    refine ixS_rd h6 (i + 1) hi1 (fun g hg => (hr g hg).feds) (fun _ => rfl) hf fun a ha => ?_
    refine ldN_of h6 (i + 1) hi1 ha rfl ?_
    rw [zero_66]
    refine al_s (cs := [.int .i64 0, .int .i64 0, .int .i64 0, .slice none 0 0, .slice none 0 0, .slice none 0 0, .slice none 0 0]) h6 rfl fun t w7 h7 => ?_
    refine stN_at h7 0 rfl (vs := f.cs) rfl rfl (by simp) (fed_cells i hi hS fun g hg => (hr g hg).fed f hfm) (cs' := f.cs) (by rfl) fun w8 h8 => ?_
    refine ldN_at h8 0 (vs := f.cs) rfl (by rfl) rfl ?_
    refine fld_at (ld1_at h8 1 rfl (v := x.pv) rfl ?_)
    have hi2 : (blk t 66 f.cs :: blk b 27 x.cs :: L)[i + 2]? = some S := by simpa using hi
    refine lnS_rd h8 (i + 2) hi2 (fun g hg => (hr g hg).par) ?_
    refine config_fed_s (i + 2) hi2 h8 (fun g hg => (hr g hg).fed f hfm) (hwf.2.1 f hfm) (hs.fed f hfm) fun w9 h9 => ?_
    have hsp : x.Feds.map FedX.f = (x.Feds.take j).map FedX.f ++ f.f :: (x.Feds.drop (j + 1)).map FedX.f := by
      conv => lhs; rw [take_split hf]
      simp
    have hlen : 0 + ((x.Feds.take j).map FedX.f).length = j := by rw [List.length_map, List.length_take]; omega
    refine ne_c (fun c2 => iff_t ?_) (fun c2 => iff_f (inc_s (by omega) ?_))
    · have := hk _ h9.drop.drop
      rw [hsp, fedsE_app _ _ _ _ hno, fedsE_cons, if_pos c2, hlen] at this
      exact this
    · refine hg _ _ _ (by omega) ⟨j + 1, by omega, rfl, rfl, fun y hy => ?_, h9.drop⟩
      rw [List.take_add_one, hf, List.map_append] at hy
      rcases List.mem_append.1 hy with h | h
      · exact hno y h
      · simp at h
        rw [h]; exact c2
  · have ej : j = x.Feds.length := by omega
    rw [ej, List.take_length] at hno
    have := hk _ h6.drop
    rw [← List.append_nil (x.Feds.map FedX.f), fedsE_app _ _ _ _ hno] at this
    exact this
end Go.Proofs.YtbopajpmadlmhaaGreat
end
