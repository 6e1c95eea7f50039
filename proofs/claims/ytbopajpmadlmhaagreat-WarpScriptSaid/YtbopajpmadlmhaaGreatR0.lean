/- Texts of the proof, joined: EngA, EngB, EngC, EngD, EngE, EngF, EngG, EngH. Conditions: none. -/
import Derived.WalkKit
import Derived.OrdersHeld
import Derived.OrdersIn
import Derived.TacticsIn
import Derived.RangeFuncCalls
import Derived.RangeFuncLeaves
import Derived.RangeFuncRecord
import Derived.RangeFuncIn
import Derived.Laws.StructEq
import Derived.Laws.Append
section
namespace Go.E

abbrev Ev := Nat → Value
abbrev KV := Value → World → Prop

def ex (P : Program) (s : Sem Next) (w : World) (K : KV) : Prop :=
  match s.run P w with
  | .ok (.value v) w' => K v w'
  | .ok .skip w' => K undef w'
  | .ok (.enter f args) w' => Calls P f args w' fun e w'' => ∃ v, e = .returned v ∧ K v w''
  | .ok (.round l f tmps assign body) w' => RoundIn Fence.wide 0 P l f tmps assign body w' fun e w'' => ∃ v, e = .returned v ∧ K v w''
  | _ => False

def CallsR (P : Program) (f : FuncId) (args : Array Value) (w : World) (K : KV) : Prop :=
  Calls P f args w fun e w' => ∃ v, e = .returned v ∧ K v w'

theorem CallsR.mono {P : Program} {f : FuncId} {args : Array Value} {w : World} {K K' : KV} (h : CallsR P f args w K) (hk : ∀ v w', K v w' → K' v w') : CallsR P f args w K' :=
  Calls.mono h fun _ _ ⟨v, he, hv⟩ => ⟨v, he, hk _ _ hv⟩

def hasBody (P : Program) (f : FuncId) : Bool :=
  match P.funcs[f]? with
  | some fn => fn.body.isSome && !(fn.name == "runtime.NumGoroutine")
  | none => false

def Cl (P : Program) (f : FuncId) (args : Array Value) (w : World) (K : KV) : Prop := ex P (callFunc f args) w K

def ld1 (x : Value) (w : World) (K : KV) : Prop := ∃ a v, x = .pointer (some a) ∧ w.cell? a = some v ∧ K v w
def CellsAt (w : World) (a : Addr) (vs : List Value) : Prop := ∀ i v, vs[i]? = some v → w.cell? (a.add i) = some v
def ldN (n : Nat) (x : Value) (w : World) (K : KV) : Prop := ∃ a vs, x = .pointer (some a) ∧ vs.length = n ∧ CellsAt w a vs ∧ K (.agg vs.toArray) w
def flat : Value → Bool
  | .agg _ => false
  | .tuple _ => false
  | _ => true
def setCs (w : World) (a : Addr) : Nat → List Value → World
  | _, [] => w
  | i, v :: l => setCs (w.setCell (a.add i) v) a (i + 1) l
def CanSet (w : World) (a : Addr) (n : Nat) : Prop := ∀ i, i < n → (w.cell? (a.add i)).isSome = true ∧ w.frozen? (a.add i) = false
def stN (n : Nat) (x v : Value) (w : World) (K : KV) : Prop :=
  ∃ a, x = .pointer (some a) ∧ v.cells.toList.length = n ∧ (∀ c ∈ v.cells.toList, flat c = true) ∧ CanSet w a n ∧ K undef (setCs w a 0 v.cells.toList)
def al (cells : Array Value) (t : TypeId) (w : World) (K : KV) : Prop := K (.pointer (some ⟨w.heap.size, 0, none⟩)) (w.alloc (.cells cells t))
def fld (off : Nat) (x : Value) (w : World) (K : KV) : Prop := ∃ a, x = .pointer (some a) ∧ K (.pointer (some (a.add off))) w
def ixS (size : Nat) (x i : Value) (w : World) (K : KV) : Prop :=
  ∃ a n c k j, x = .slice (some a) n c ∧ i = .int k j ∧ 0 ≤ j ∧ j < (n : Int) ∧ K (.pointer (some (a.add (j.toNat * size)))) w
def ixA (len size : Nat) (x i : Value) (w : World) (K : KV) : Prop :=
  ∃ a k j, x = .pointer (some a) ∧ i = .int k j ∧ 0 ≤ j ∧ j < (len : Int) ∧ K (.pointer (some (a.add (j.toNat * size)))) w
def fv1 (off : Nat) (x : Value) (w : World) (K : KV) : Prop := ∃ cs v, x = .agg cs ∧ cs[off]? = some v ∧ K v w
def fvN (off n : Nat) (x : Value) (w : World) (K : KV) : Prop := ∃ cs, x = .agg cs ∧ K (.agg (cs.extract off (off + n))) w
def xt (i : Nat) (x : Value) (w : World) (K : KV) : Prop := ∃ vs v, x = .tuple vs ∧ vs[i]? = some v ∧ K v w
def pk (c a b : Value) (w : World) (K : KV) : Prop := ∃ q, c = .bool q ∧ K (match q with | true => a | false => b) w
def notNil : Value → Bool
  | .pointer none => false
  | .nilIface => false
  | .nilFunc => false
  | .func (.method _) _ _ => false
  | _ => true
def nc (x : Value) (w : World) (K : KV) : Prop := notNil x = true ∧ K x w
def ncP (x : Value) (p : Prop) : Prop := notNil x = true ∧ p
def intBin (op : BinOp) (k : IntKind) (a b : Int) : Value :=
  match op with
  | .add => .int k (k.wrap (a + b))
  | .sub => .int k (k.wrap (a - b))
  | .mul => .int k (k.wrap (a * b))
  | .quo => .int k (k.wrap (a.tdiv b))
  | .rem => .int k (a.tmod b)
  | .eql => .bool (a == b)
  | .neq => .bool (a != b)
  | .lss => .bool (decide (a < b))
  | .leq => .bool (decide (a ≤ b))
  | .gtr => .bool (decide (a > b))
  | .geq => .bool (decide (a ≥ b))
  | _ => undef
def isDiv : BinOp → Bool
  | .quo => true
  | .rem => true
  | _ => false
def bi (op : BinOp) (k : IntKind) (x y : Value) (w : World) (K : KV) : Prop :=
  ∃ a b, x = .int k a ∧ y = .int k b ∧ (isDiv op = true → b ≠ 0) ∧ K (intBin op k a b) w
def bb (op : BinOp) (x y : Value) (w : World) (K : KV) : Prop :=
  ∃ a b, x = .bool a ∧ y = .bool b ∧ K (.bool (match op with | .neq => a != b | _ => a == b)) w
def bn (op : BinOp) (x : Value) (w : World) (K : KV) : Prop :=
  ∃ a, x = .pointer a ∧ K (.bool (match op with | .neq => !a.isNone | _ => a.isNone)) w
def bnot (x : Value) (w : World) (K : KV) : Prop := ∃ q, x = .bool q ∧ K (.bool !q) w
def cvI (k : IntKind) (x : Value) (w : World) (K : KV) : Prop := ∃ j n, x = .int j n ∧ K (.int k (k.wrap n)) w
def lnS (x : Value) (w : World) (K : KV) : Prop := ∃ a n c, x = .slice a n c ∧ K (.int .i64 (n : Int)) w
def lnStr (x : Value) (w : World) (K : KV) : Prop := ∃ s, x = .string s ∧ K (.int .i64 (s.size : Int)) w
def mnI (k : IntKind) (x y : Value) (w : World) (K : KV) : Prop := ∃ a b, x = .int k a ∧ y = .int k b ∧ K (.int k (if b < a then b else a)) w
def mxI (k : IntKind) (x y : Value) (w : World) (K : KV) : Prop := ∃ a b, x = .int k a ∧ y = .int k b ∧ K (.int k (if b > a then b else a)) w
def clF (P : Program) (fn : Fn) (first args captured : Array Value) (w : World) (K : KV) : Prop := match fn with
  | .func f => Cl P f (first ++ args ++ captured) w K
  | .yield l => ex P (Instr.yield l (first ++ args)) w K
  | _ => False
def clV (P : Program) (fv : Value) (args : Array Value) (w : World) (K : KV) : Prop :=
  ∃ fn first captured, fv = .func fn first captured ∧ clF P fn first args captured w K
def bld (zero : Array Value) (places : Array (Nat × Nat)) (parts : List (Nat × Value)) (w : World) (K : KV) : Prop :=
  ∃ cells, Instr.fill (places[·]?) zero parts = some cells ∧ K (.agg cells) w
def bldA (zero : Array Value) (size : Nat) (parts : List (Nat × Value)) (w : World) (K : KV) : Prop :=
  ∃ cells, Instr.fill (fun i => some (i * size, size)) zero parts = some cells ∧ K (.agg cells) w
def bsl (e : TypeId) (size len : Nat) (zero : Array Value) (parts : List (Nat × Value)) (w : World) (K : KV) : Prop :=
  ∃ cells, Instr.fill (fun i => some (i * size, size)) ((Array.range (len * size)).map (zero[· % zero.size]!)) parts = some cells ∧
    K (.slice (some ⟨w.heap.size, 0, none⟩) len len) (w.alloc (.cells cells e))
def mkMap (w : World) (K : KV) : Prop := K (.map (some w.heap.size)) (w.alloc (.map #[] 0))
def bnd (lo : Option Value) (d : Nat) (r : Nat) : Prop := match lo with | none => r = d | some v => ∃ k i, v = .int k i ∧ 0 ≤ i ∧ r = i.toNat
def slc (size : Nat) (x : Value) (lo hi : Option Value) (w : World) (K : KV) : Prop :=
  ∃ a n c l h, x = .slice a n c ∧ bnd lo 0 l ∧ bnd hi n h ∧ l ≤ h ∧ h ≤ c ∧ K (.slice (if c = l then a else a.map (·.add (l * size))) (h - l) (c - l)) w

def oV (s : Sem Value) : Sem Next := do pure (.value (← s))
def oU (s : Sem Unit) : Sem Next := do s; pure .skip

def isAggD : TypeDesc → Bool
  | .struct _ => true
  | .array .. => true
  | _ => false

def apS (P : Program) (ts : Array TypeId) (t : TypeId) (x y : Value) (w : World) (K : KV) : Prop := ex P (oV (Builtin.append_ ts t #[x, y])) w K
def dlM (P : Program) (ts : Array TypeId) (t : TypeId) (x y : Value) (w : World) (K : KV) : Prop := ex P (oV (Builtin.delete_ ts t #[x, y])) w K
def lkM (P : Program) (t : TypeId) (m k : Value) (ok : Bool) (w : World) (K : KV) : Prop := ex P (oV (Instr.lookup t m k ok)) w K
def upM (P : Program) (t : TypeId) (m k x : Value) (w : World) (K : KV) : Prop := ex P (oU (Instr.mapUpdate t m k x)) w K
def rgM (P : Program) (t : TypeId) (m : Value) (w : World) (K : KV) : Prop := ex P (oV (Instr.range t m)) w K
def nxM (P : Program) (it : Value) (s : Bool) (t : TypeId) (w : World) (K : KV) : Prop := ex P (oV (Instr.next it s t)) w K
def enM (P : Program) (it : Value) (w : World) (K : KV) : Prop := ex P (oV (Instr.entry it)) w K
def tyA (P : Program) (x : Value) (s t : TypeId) (ok : Bool) (w : World) (K : KV) : Prop := ex P (oV (Instr.typeAssert x s t ok)) w K
def bO (P : Program) (op : BinOp) (t : TypeId) (xo yo : Operand) (x y : Value) (w : World) (K : KV) : Prop := ex P (oV (do eqGuard op t xo yo x y; binOp op t x y)) w K

section
variable (P : Program)
def szD (t : TypeId) : Nat := match P.info? t with | some i => i.size | none => 0
def isAggT (t : TypeId) : Bool := match P.underlying t with | some d => isAggD d | none => false
def zeroD (t : TypeId) : Array Value := match (P.info? t).bind (·.zero) with | some z => z.cells | none => #[]
def okT (t : TypeId) : Bool := (P.underlying t).isSome && (P.info? t).isSome && ((P.info? t).bind (·.zero)).isSome

def fieldOf (s : TypeId) (f : Nat) : Option Field := match P.underlying s with | some (.struct fs) => fs[f]? | _ => none

def semOp (o : Oper) (f : Operand → Value) (w : World) (K : KV) : Prop :=
  match o.op with
  | .move x => K (f x) w
  | .assign x => K (f x) w
  | .pick c a b => pk (f c) (f a) (f b) w K
  | .alloc e => match okT P e with
    | true => al (zeroD P e) e w K
    | false => False
  | .box e x => al (f x).cells e w K
  | .build t parts => match P.underlying t, okT P t with
    | some (.struct fs), true => match fs.all fun g => okT P g.type with
      | true => bld (zeroD P t) (fs.map fun g => (g.offset, szD P g.type)) (parts.map fun (i, x) => (i, f x)).toList w K
      | false => False
    | some (.array _ e), true => match okT P e with
      | true => bldA (zeroD P t) (szD P e) (parts.map fun (i, x) => (i, f x)).toList w K
      | false => False
    | _, _ => False
  | .buildSlice t len parts => match P.underlying t with
    | some (.slice e) => match okT P e && decide (len * szD P e ≤ 65536), decide (len * szD P e = 0) with
      | true, true => bsl e (szD P e) len #[] (parts.map fun (i, x) => (i, f x)).toList w K
      | true, false => bsl e (szD P e) len (zeroD P e) (parts.map fun (i, x) => (i, f x)).toList w K
      | false, _ => False
    | _ => False
  | .load t a => match okT P t, isAggT P t with
    | true, true => ldN (szD P t) (f a) w K
    | true, false => ld1 (f a) w K
    | false, _ => False
  | .store t a x => match okT P t with
    | true => stN (szD P t) (f a) (f x) w K
    | false => False
  | .nilCheck x => nc (f x) w K
  | .binOp op t x y _ => match P.underlying t, op with
    | some (.int k), .add => bi .add k (f x) (f y) w K
    | some (.int k), .sub => bi .sub k (f x) (f y) w K
    | some (.int k), .mul => bi .mul k (f x) (f y) w K
    | some (.int k), .quo => bi .quo k (f x) (f y) w K
    | some (.int k), .rem => bi .rem k (f x) (f y) w K
    | some (.int k), .eql => bi .eql k (f x) (f y) w K
    | some (.int k), .neq => bi .neq k (f x) (f y) w K
    | some (.int k), .lss => bi .lss k (f x) (f y) w K
    | some (.int k), .leq => bi .leq k (f x) (f y) w K
    | some (.int k), .gtr => bi .gtr k (f x) (f y) w K
    | some (.int k), .geq => bi .geq k (f x) (f y) w K
    | some .bool, .eql => bb .eql (f x) (f y) w K
    | some .bool, .neq => bb .neq (f x) (f y) w K
    | some (.pointer _), .eql => match y with
      | .const (.pointer none) => bn .eql (f x) w K
      | _ => ex P (execOp f o) w K
    | some (.pointer _), .neq => match y with
      | .const (.pointer none) => bn .neq (f x) w K
      | _ => ex P (execOp f o) w K
    | _, _ => ex P (oV (do eqGuard op t x y (f x) (f y); binOp op t (f x) (f y))) w K
  | .unOp op _ x => match op with
    | .not => bnot (f x) w K
    | _ => ex P (oV (Op.unary op (f x))) w K
  | .convert src dst x => match P.underlying src, P.underlying dst with
    | some (.int _), some (.int k) => cvI k (f x) w K
    | _, _ => ex P (oV (convert src dst (f x))) w K
  | .makeInterface t x => match P.underlying t with
    | some (.interface _) => False
    | some _ => K (.iface t (f x)) w
    | none => False
  | .makeFunc fn first captured => K (.func fn (first.map f) (captured.map f)) w
  | .makeMap _ none => mkMap w K
  | .slice t x lo hi none => match P.underlying t with
    | some (.slice e) => match okT P e with
      | true => slc (szD P e) (f x) (lo.map f) (hi.map f) w K
      | false => False
    | _ => ex P (execOp f o) w K
  | .fieldAddr s x g => match fieldOf P s g with
    | some fd => match okT P fd.type, decide (szD P fd.type = 0) with
      | true, false => fld fd.offset (f x) w K
      | _, _ => False
    | none => False
  | .field s x g => match fieldOf P s g with
    | some fd => match okT P fd.type, isAggT P fd.type with
      | true, true => fvN fd.offset (szD P fd.type) (f x) w K
      | true, false => fv1 fd.offset (f x) w K
      | false, _ => False
    | none => False
  | .indexAddr t x i => match P.underlying t with
    | some (.slice e) => match okT P e with
      | true => ixS (szD P e) (f x) (f i) w K
      | false => False
    | some (.array len e) => match okT P e with
      | true => ixA len (szD P e) (f x) (f i) w K
      | false => False
    | _ => False
  | .extract x i => xt i (f x) w K
  | .index t x i => ex P (oV (Instr.index t (f x) (f i))) w K
  | .lookup t x i ok => ex P (oV (Instr.lookup t (f x) (f i) ok)) w K
  | .mapUpdate t m k x => ex P (oU (Instr.mapUpdate t (f m) (f k) (f x))) w K
  | .range t x => ex P (oV (Instr.range t (f x))) w K
  | .next it s => ex P (oV (Instr.next (f it) s o.type)) w K
  | .entry it => ex P (oV (Instr.entry (f it))) w K
  | .typeAssert x s t ok => ex P (oV (Instr.typeAssert (f x) s t ok)) w K
  | .makeSlice t l c => ex P (oV (Instr.makeSlice t (f l) (f c))) w K
  | .call c => match c.callee with
    | .value (.func g) => Cl P g (c.args.map f) w K
    | .value (.tmp t) => clV P (f (.tmp t)) (c.args.map f) w K
    | .builtin b => match b, c.args.toList, c.argTypes.toList with
      | .len, [x], [t] => match P.underlying t with
        | some (.slice _) => lnS (f x) w K
        | some .string => lnStr (f x) w K
        | _ => ex P (oV (Builtin.len_ c.argTypes o.type #[f x])) w K
      | .min, [x, y], [t, _] => match P.underlying t with
        | some (.int k) => mnI k (f x) (f y) w K
        | _ => ex P (execOp f o) w K
      | .max, [x, y], [t, _] => match P.underlying t with
        | some (.int k) => mxI k (f x) (f y) w K
        | _ => ex P (execOp f o) w K
      | .append, [x, y], _ => ex P (oV (Builtin.append_ c.argTypes o.type #[f x, f y])) w K
      | .copy, [x, y], _ => ex P (oV (Builtin.copy_ c.argTypes o.type #[f x, f y])) w K
      | .delete, [x, y], _ => ex P (oV (Builtin.delete_ c.argTypes o.type #[f x, f y])) w K
      | _, _, _ => ex P (execOp f o) w K
    | _ => ex P (execOp f o) w K
  | _ => ex P (execOp f o) w K
end

end Go.E
end
section
namespace Go.E
open Go.RowKit
section
variable {P : Program} {f : Operand → Value} {w : World} {K : KV}

theorem okT_inv {t : TypeId} (h : okT P t = true) : ∃ d i z, P.underlying t = some d ∧ P.info? t = some i ∧ i.zero = some z ∧ szD P t = i.size ∧ isAggT P t = isAggD d ∧ zeroD P t = z.cells := by
  unfold okT at h
  simp only [Bool.and_eq_true] at h
  obtain ⟨⟨h1, h2⟩, h3⟩ := h
  obtain ⟨d, hd⟩ := Option.isSome_iff_exists.1 h1
  obtain ⟨i, hi⟩ := Option.isSome_iff_exists.1 h2
  rw [hi] at h3
  obtain ⟨z, hz⟩ := Option.isSome_iff_exists.1 h3
  simp at hz
  exact ⟨d, i, z, hd, hi, hz, by simp [szD, hi], by simp [isAggT, hd], by simp [zeroD, hi, hz]⟩

theorem run_und {t : TypeId} {d : TypeDesc} (h : P.underlying t = some d) (w : World) : (underlying t).run P w = .ok d w := by
  simp [underlying, program, h, Sem.run]
theorem run_ti {t : TypeId} {i : TypeInfo} (h : P.info? t = some i) (w : World) : (typeInfo t).run P w = .ok i w := by
  simp [typeInfo, program, h, Sem.run]
theorem run_sz {t : TypeId} {i : TypeInfo} (h : P.info? t = some i) (w : World) : (sizeOf t).run P w = .ok i.size w := by
  simp [sizeOf, run_ti h]
theorem run_zero {t : TypeId} {i : TypeInfo} {z : Value} (h : P.info? t = some i) (hz : i.zero = some z) (w : World) : (zeroValue t).run P w = .ok z w := by
  simp [zeroValue, run_ti h, hz]
theorem run_isAgg {t : TypeId} {d : TypeDesc} (h : P.underlying t = some d) (w : World) : (isAgg t).run P w = .ok (isAggD d) w := by
  cases d <;> simp [isAgg, run_und h, isAggD]

theorem run_load1 {a : Addr} {v : Value} (h : w.cell? a = some v) : (load a).run P w = .ok v w := by simp [load, Sem.run, h]

theorem run_cellsFrom {a : Addr} : ∀ (vs : List Value) (i : Nat) (acc : Array Value), (∀ j v, vs[j]? = some v → w.cell? (a.add (i + j)) = some v) →
    (loadCellsFrom a i vs.length acc).run P w = .ok (acc ++ vs.toArray) w
  | [], i, acc, _ => by simp [loadCellsFrom]
  | v :: vs, i, acc, h => by
    have h0 := h 0 v rfl
    simp only [Nat.add_zero] at h0
    have ih := run_cellsFrom vs (i + 1) (acc.push v) (fun j u hj => by
      have := h (j + 1) u (by simpa using hj)
      rw [show i + 1 + j = i + (j + 1) from by omega]; exact this)
    simp only [List.length_cons, loadCellsFrom, Sem.run_bind, run_load1 h0, Result.andThen_ok]
    rw [ih]
    simp

theorem run_cells {a : Addr} {vs : List Value} (h : CellsAt w a vs) : (loadCells a vs.length).run P w = .ok vs.toArray w := by
  unfold loadCells
  rw [run_cellsFrom vs 0 #[] (fun j v hj => by rw [Nat.zero_add]; exact h j v hj)]
  simp

theorem run_loadVarN {t : TypeId} {d : TypeDesc} {i : TypeInfo} (hd : P.underlying t = some d) (hi : P.info? t = some i) (hg : isAggD d = true) {a : Addr} {vs : List Value} (hn : vs.length = i.size) (h : CellsAt w a vs) :
    (loadVar t a).run P w = .ok (.agg vs.toArray) w := by
  simp only [loadVar, Sem.run_bind, run_isAgg hd, Result.andThen_ok, hg, if_true, run_sz hi, ← hn, run_cells h, Sem.run_pure]
theorem run_loadVar1 {t : TypeId} {d : TypeDesc} (hd : P.underlying t = some d) (hg : isAggD d = false) {a : Addr} {v : Value} (h : w.cell? a = some v) :
    (loadVar t a).run P w = .ok v w := by
  simp only [loadVar, Sem.run_bind, run_isAgg hd, Result.andThen_ok, hg, Bool.false_eq_true, if_false, run_load1 h]

theorem run_store1 {a : Addr} {v u : Value} (hv : flat v = true) (h : w.cell? a = some u) (hf : w.frozen? a = false) : (store a v).run P w = .ok () (w.setCell a v) := by
  cases v <;> simp [flat] at hv <;> simp [store, Sem.run, h, hf]

theorem cell_isSome_setCell (a b : Addr) (v : Value) (h : (w.cell? b).isSome = true) : ((w.setCell a v).cell? b).isSome = true := by
  obtain ⟨u, hu⟩ := Option.isSome_iff_exists.1 h
  obtain ⟨v', hv'⟩ := cell?_setCell_some (w := w) (p := a) (x := v) (q := b) (v := u) hu
  rw [hv']
  rfl
theorem run_storeCells {a : Addr} : ∀ (vs : List Value) (i : Nat) (w : World), (∀ c ∈ vs, flat c = true) → (∀ j, i ≤ j → j < i + vs.length → (w.cell? (a.add j)).isSome = true ∧ w.frozen? (a.add j) = false) →
    (storeCells a vs i).run P w = .ok () (setCs w a i vs)
  | [], i, w, _, _ => by simp [storeCells, setCs]
  | v :: vs, i, w, hv, h => by
    obtain ⟨h1, h2⟩ := h i (Nat.le_refl _) (by simp)
    obtain ⟨u, hu⟩ := Option.isSome_iff_exists.1 h1
    have hs : (store (a.add i) v).run P w = .ok () (w.setCell (a.add i) v) := run_store1 (hv v (by simp)) hu h2
    have ih := run_storeCells vs (i + 1) (w.setCell (a.add i) v) (fun c hc => hv c (by simp [hc])) (fun j h3 h4 => by
      obtain ⟨h5, h6⟩ := h j (by omega) (by simp at h4 ⊢; omega)
      exact ⟨cell_isSome_setCell _ _ _ h5, by rw [World.frozen?_setCell]; exact h6⟩)
    simp only [storeCells, setCs, Sem.run_bind, hs, Result.andThen_ok]
    exact ih

theorem run_storeVar {t : TypeId} {i : TypeInfo} (hi : P.info? t = some i) {a : Addr} {v : Value} (hn : v.cells.toList.length = i.size) (hf : ∀ c ∈ v.cells.toList, flat c = true) (hc : CanSet w a i.size) :
    (storeVar t a v).run P w = .ok () (setCs w a 0 v.cells.toList) := by
  have hn' : v.cells.size = i.size := by simpa using hn
  have hs : (storeCells a v.cells.toList 0).run P w = .ok () (setCs w a 0 v.cells.toList) :=
    run_storeCells v.cells.toList 0 w hf (fun j _ h2 => hc j (by rw [hn] at h2; omega))
  simp only [storeVar, Sem.run_bind, run_sz hi, Result.andThen_ok, hn', ne_eq, not_true_eq_false, if_false]
  exact hs

theorem ex_oV {s : Sem Value} {v : Value} {w' : World} (h : s.run P w = .ok v w') (hk : K v w') : ex P (oV s) w K := by
  unfold ex oV
  simp only [Sem.run_bind, h, Result.andThen_ok, Sem.run_pure]
  exact hk
theorem ex_oU {s : Sem Unit} {w' : World} (h : s.run P w = .ok () w') (hk : K undef w') : ex P (oU s) w K := by
  unfold ex oU
  simp only [Sem.run_bind, h, Result.andThen_ok, Sem.run_pure]
  exact hk
theorem run_callFunc {g : FuncId} {args : Array Value} (hb : hasBody P g = true) : (callFunc g args).run P w = .ok (.enter g args) w := by
  unfold hasBody at hb
  cases hf : P.funcs[g]? with
  | none => rw [hf] at hb; simp at hb
  | some fn =>
    rw [hf] at hb
    simp only [Bool.and_eq_true, Bool.not_eq_true'] at hb
    obtain ⟨h1, h2⟩ := hb
    have h3 : fn.body.isNone = false := by cases hbd : fn.body <;> simp_all
    simp only [callFunc, program, Sem.run_bind, Sem.run, Result.andThen_ok, hf, h2, h3, Bool.false_eq_true, if_false]
    rfl

theorem ex_enter {s : Sem Next} {g : FuncId} {args : Array Value} (h : s.run P w = .ok (.enter g args) w) (hk : CallsR P g args w K) : ex P s w K := by
  unfold ex
  rw [h]
  exact hk

theorem Cl.mk {g : FuncId} {args : Array Value} (hb : hasBody P g = true) (h : CallsR P g args w K) : Cl P g args w K := ex_enter (run_callFunc hb) h
theorem Cl.ret {g : FuncId} {args : Array Value} (hb : hasBody P g = true) (h : Cl P g args w K) : CallsR P g args w K := by
  unfold Cl ex at h
  rw [run_callFunc hb] at h
  exact h
theorem ex_congr {s s' : Sem Next} (e : s.run P w = s'.run P w) (h : ex P s' w K) : ex P s w K := by
  unfold ex at h ⊢
  rw [e]
  exact h

theorem run_fields (w : World) : ∀ (l : List Field), l.all (fun g => okT P g.type) = true →
    (l.mapM (m := Sem) fun g => do pure (g.offset, ← sizeOf g.type)).run P w = .ok (l.map fun g => (g.offset, szD P g.type)) w
  | [], _ => by simp
  | g :: l, h => by
    simp only [List.all_cons, Bool.and_eq_true] at h
    obtain ⟨d, i, z, hd, hi, hz, hs, hg, hz'⟩ := okT_inv h.1
    have ih := run_fields w l h.2
    simp only [List.mapM_cons, Sem.run_bind, run_sz hi, Result.andThen_ok, Sem.run_pure, ih, hs, List.map_cons]

theorem run_bound {x : Value} {y r : Nat} {k : IntKind} {i : Int} (hx : x = .int k i) (h0 : 0 ≤ i) (hr : r = i.toNat) (hy : r ≤ y) (c : BoundsCode) : (Instr.sliceBound x y c).run P w = .ok r w := by
  subst hx
  have h2 : i ≤ y := by omega
  simp [Instr.sliceBound, asIntOf, h0, h2, hr]

theorem run_bounds {lo hi : Option Value} {n c l h : Nat} (hl : bnd lo 0 l) (hh : bnd hi n h) (h1 : l ≤ h) (h2 : h ≤ c) (b : Bool) :
    (Instr.sliceBounds b n c lo hi none).run P w = .ok (l, h, c) w := by
  unfold Instr.sliceBounds
  cases hi with
  | none =>
    unfold bnd at hh
    subst hh
    cases lo with
    | none => unfold bnd at hl; subst hl; simp
    | some v =>
      obtain ⟨k, i, hv, h0, hr⟩ := hl
      simp only [Sem.run_bind, Sem.run_pure, Result.andThen_ok, run_bound hv h0 hr h1]
  | some u =>
    obtain ⟨k', i', hv', h0', hr'⟩ := hh
    cases lo with
    | none => unfold bnd at hl; subst hl; simp only [Sem.run_bind, Sem.run_pure, Result.andThen_ok, run_bound hv' h0' hr' h2]
    | some v =>
      obtain ⟨k, i, hv, h0, hr⟩ := hl
      simp only [Sem.run_bind, Sem.run_pure, Result.andThen_ok, run_bound hv h0 hr h1, run_bound hv' h0' hr' h2]

theorem run_intBin {op : BinOp} {k : IntKind} {a b : Int} (t : TypeId) (hd : isDiv op = true → b ≠ 0) (hop : op = .add ∨ op = .sub ∨ op = .mul ∨ op = .quo ∨ op = .rem ∨ op = .eql ∨ op = .neq ∨ op = .lss ∨ op = .leq ∨ op = .gtr ∨ op = .geq) :
    (binOp op t (.int k a) (.int k b)).run P w = .ok (intBin op k a b) w := by
  rcases hop with rfl | rfl | rfl | rfl | rfl | rfl | rfl | rfl | rfl | rfl | rfl <;>
    simp [binOp, Op.intArith, Op.intDiv, Op.intCmp, intBin, isDiv] at hd ⊢ <;> simp [hd]

theorem run_guard_int {op : BinOp} {t : TypeId} {x y : Operand} {k : IntKind} {a b : Int} : (eqGuard op t x y (.int k a) (.int k b)).run P w = .ok () w := by
  cases op <;> rfl

theorem semOp_bi {op : BinOp} {k : IntKind} {t u : TypeId} {x y : Operand} {dst : Option Tmp} {ty : TypeId} {pos : String} {af : Array Edge} {g : Option (Nat × Bool)}
    (hop : op = .add ∨ op = .sub ∨ op = .mul ∨ op = .quo ∨ op = .rem ∨ op = .eql ∨ op = .neq ∨ op = .lss ∨ op = .leq ∨ op = .gtr ∨ op = .geq) (h : bi op k (f x) (f y) w K) :
    ex P (execOp f ⟨dst, .binOp op t x y u, ty, pos, af, g⟩) w K := by
  obtain ⟨a, b, hx, hy, hd, hk⟩ := h
  refine ex_oV (s := do eqGuard op t x y (f x) (f y); binOp op t (f x) (f y)) ?_ hk
  rw [hx, hy]
  simp only [Sem.run_bind, run_guard_int, Result.andThen_ok, run_intBin t hd hop]

section
variable {dst : Option Tmp} {ty : TypeId} {pos : String} {af : Array Edge} {g : Option (Nat × Bool)}
theorem so_pick {c a b : Operand} (h : pk (f c) (f a) (f b) w K) : ex P (execOp f ⟨dst, .pick c a b, ty, pos, af, g⟩) w K := by
  obtain ⟨q, hq, hk⟩ := h
  unfold ex execOp
  simp only [hq, asBool, Sem.run_bind, Sem.run_pure, Result.andThen_ok]
  cases q
  · exact hk
  · exact hk

theorem so_alloc {e : TypeId} (h : semOp P ⟨dst, .alloc e, ty, pos, af, g⟩ f w K) : ex P (execOp f ⟨dst, .alloc e, ty, pos, af, g⟩) w K := by
  unfold semOp at h
  simp only at h
  split at h
  · rename_i ho
    obtain ⟨d, i, z, hd, hi, hz, hs, hg, hz'⟩ := okT_inv ho
    unfold al at h
    refine ex_oV (s := Instr.alloc e true (.tuple #[])) ?_ h
    simp only [Instr.alloc, Sem.run_bind, run_zero hi hz, Result.andThen_ok, newVar, newRow, newObj, Sem.run, Sem.run_pure, hz', World.alloc]
  · exact h.elim

theorem so_box {e : TypeId} {x : Operand} (h : al (f x).cells e w K) : ex P (execOp f ⟨dst, .box e x, ty, pos, af, g⟩) w K := by
  refine ex_oV (s := Instr.box e (f x)) (w' := w.alloc (.cells (f x).cells e)) ?_ h
  simp only [Instr.box, newVar, newRow, newObj, Sem.run_bind, Sem.run, Sem.run_pure, Result.andThen_ok, World.alloc]

theorem run_buildS {t : TypeId} {i : TypeInfo} {z : Value} {fs : Array Field} {parts : Array (Nat × Value)} {cells : Array Value} (hi : P.info? t = some i) (hz : i.zero = some z) (hu : P.underlying t = some (.struct fs)) (hall : (fs.all fun g => okT P g.type) = true)
    (hc : Instr.fill ((fs.map fun g => (g.offset, szD P g.type))[·]?) z.cells parts.toList = some cells) : (Instr.build t parts).run P w = .ok (.agg cells) w := by
  have hfs := run_fields w fs.toList (by simpa using hall)
  have hm : (fs.mapM (m := Sem) fun g => do pure (g.offset, ← sizeOf g.type)).run P w = .ok (fs.map fun g => (g.offset, szD P g.type)) w := by
    rw [Array.mapM_eq_mapM_toList]
    simp only [Sem.run_map, hfs, Result.andThen_ok]
    simp
    rw [← Array.toList_map]
  simp only [Instr.build, Sem.run_bind, run_zero hi hz, Result.andThen_ok, run_und hu, hm, hc, Sem.run_pure]
theorem run_buildA {t e : TypeId} {len : Nat} {i i1 : TypeInfo} {z : Value} {parts : Array (Nat × Value)} {cells : Array Value} (hi : P.info? t = some i) (hz : i.zero = some z) (hu : P.underlying t = some (.array len e)) (hi1 : P.info? e = some i1)
    (hc : Instr.fill (fun j => some (j * i1.size, i1.size)) z.cells parts.toList = some cells) : (Instr.build t parts).run P w = .ok (.agg cells) w := by
  simp only [Instr.build, Sem.run_bind, run_zero hi hz, Result.andThen_ok, run_und hu, run_sz hi1, hc, Sem.run_pure]

theorem so_build {t : TypeId} {parts : Array (Nat × Operand)} (h : semOp P ⟨dst, .build t parts, ty, pos, af, g⟩ f w K) : ex P (execOp f ⟨dst, .build t parts, ty, pos, af, g⟩) w K := by
  unfold semOp at h
  simp only at h
  split at h
  · rename_i fs hu ho
    split at h
    · rename_i hall
      obtain ⟨d, i, z, hd, hi, hz, hs, hg, hz'⟩ := okT_inv ho
      obtain ⟨cells, hc, hk⟩ := h
      rw [hz'] at hc
      exact ex_oV (s := Instr.build t (parts.map fun (i, x) => (i, f x))) (run_buildS hi hz hu hall hc) hk
    · exact h.elim
  · rename_i len e hu ho
    split at h
    · rename_i hoe
      obtain ⟨d, i, z, hd, hi, hz, hs, hg, hz'⟩ := okT_inv ho
      obtain ⟨d1, i1, z1, hd1, hi1, hz1, hs1, hg1, hz1'⟩ := okT_inv hoe
      obtain ⟨cells, hc, hk⟩ := h
      rw [hz', hs1] at hc
      have hr := run_buildA (w := w) (parts := parts.map fun (i, x) => (i, f x)) hi hz hu hi1 hc
      have h3 := ex_oV (K := K) hr hk
      exact h3
    · exact h.elim
  · exact h.elim

theorem run_bsl {t e : TypeId} {len : Nat} {i : TypeInfo} {z : Value} {parts : Array (Nat × Value)} {cells zero : Array Value} (hi : P.info? e = some i) (hz : i.zero = some z) (hu : P.underlying t = some (.slice e)) (hl : len * i.size ≤ 65536)
    (hzz : zero = if len * i.size = 0 then #[] else z.cells)
    (hc : Instr.fill (fun j => some (j * i.size, i.size)) ((Array.range (len * i.size)).map (zero[· % zero.size]!)) parts.toList = some cells) :
    (Instr.buildSlice t len parts).run P w = .ok (.slice (some ⟨w.heap.size, 0, none⟩) len len) (w.alloc (.cells cells e)) := by
  have hl' : ¬ len * i.size > 2 ^ 24 := by omega
  subst hzz
  by_cases h0 : len * i.size = 0
  · rw [if_pos h0] at hc
    simp only [Instr.buildSlice, Sem.run_bind, run_und hu, Result.andThen_ok, run_sz hi, hl', if_false, Sem.run_pure, if_pos h0, hc, newRow, newObj, Sem.run, World.alloc]
  · rw [if_neg h0] at hc
    simp only [Instr.buildSlice, Sem.run_bind, run_und hu, Result.andThen_ok, run_sz hi, hl', if_false, Sem.run_pure, if_neg h0, run_zero hi hz, hc, newRow, newObj, Sem.run, World.alloc]

theorem so_buildSlice {t : TypeId} {len : Nat} {parts : Array (Nat × Operand)} (h : semOp P ⟨dst, .buildSlice t len parts, ty, pos, af, g⟩ f w K) : ex P (execOp f ⟨dst, .buildSlice t len parts, ty, pos, af, g⟩) w K := by
  unfold semOp at h
  simp only at h
  split at h
  · rename_i e hu
    split at h
    · rename_i ho h0
      simp only [Bool.and_eq_true, decide_eq_true_eq] at ho h0
      obtain ⟨d, i, z, hd, hi, hz, hs, hg, hz'⟩ := okT_inv ho.1
      obtain ⟨cells, hc, hk⟩ := h
      rw [hs] at hc h0 ho
      have hr := run_bsl (w := w) (parts := parts.map fun (i, x) => (i, f x)) hi hz hu ho.2 (by rw [if_pos h0]) hc
      have h3 := ex_oV (K := K) hr hk
      exact h3
    · rename_i ho h0
      simp only [Bool.and_eq_true, decide_eq_true_eq, decide_eq_false_iff_not] at ho h0
      obtain ⟨d, i, z, hd, hi, hz, hs, hg, hz'⟩ := okT_inv ho.1
      obtain ⟨cells, hc, hk⟩ := h
      rw [hs, hz'] at hc
      rw [hs] at h0 ho
      have hr := run_bsl (w := w) (parts := parts.map fun (i, x) => (i, f x)) hi hz hu ho.2 (by rw [if_neg h0]) hc
      have h3 := ex_oV (K := K) hr hk
      exact h3
    · exact h.elim
  · exact h.elim

theorem so_load {t : TypeId} {a : Operand} (h : semOp P ⟨dst, .load t a, ty, pos, af, g⟩ f w K) : ex P (execOp f ⟨dst, .load t a, ty, pos, af, g⟩) w K := by
  unfold semOp at h
  simp only at h
  split at h
  · rename_i ho ha
    obtain ⟨d, i, z, hd, hi, hz, hs, hg, hz'⟩ := okT_inv ho
    obtain ⟨a', vs, hx, hn, hc, hk⟩ := h
    refine ex_oV (s := Instr.loadAt t (f a)) ?_ hk
    rw [hx]
    simp only [Instr.loadAt, Instr.sureAddr, Sem.run_bind, Sem.run_pure, Result.andThen_ok]
    exact run_loadVarN hd hi (hg ▸ ha) (hs ▸ hn) hc
  · rename_i ho ha
    obtain ⟨d, i, z, hd, hi, hz, hs, hg, hz'⟩ := okT_inv ho
    obtain ⟨a', v, hx, hc, hk⟩ := h
    refine ex_oV (s := Instr.loadAt t (f a)) ?_ hk
    rw [hx]
    simp only [Instr.loadAt, Instr.sureAddr, Sem.run_bind, Sem.run_pure, Result.andThen_ok]
    exact run_loadVar1 hd (hg ▸ ha) hc
  · exact h.elim

theorem so_store {t : TypeId} {a x : Operand} (h : semOp P ⟨dst, .store t a x, ty, pos, af, g⟩ f w K) : ex P (execOp f ⟨dst, .store t a x, ty, pos, af, g⟩) w K := by
  unfold semOp at h
  simp only at h
  split at h
  · rename_i ho
    obtain ⟨d, i, z, hd, hi, hz, hs, hg, hz'⟩ := okT_inv ho
    obtain ⟨a', hx, hn, hf, hc, hk⟩ := h
    refine ex_oU (s := Instr.storeAt t (f a) (f x)) ?_ hk
    rw [hx]
    simp only [Instr.storeAt, Instr.sureAddr, Sem.run_bind, Sem.run_pure, Result.andThen_ok]
    exact run_storeVar hi (hs ▸ hn) hf (hs ▸ hc)
  · exact h.elim

theorem so_nilCheck {x : Operand} (h : nc (f x) w K) : ex P (execOp f ⟨dst, .nilCheck x, ty, pos, af, g⟩) w K := by
  obtain ⟨h1, h2⟩ := h
  unfold execOp ex
  simp only
  generalize f x = v at *
  cases v with
  | pointer a => cases a <;> simp [notNil] at h1 ⊢; exact h2
  | func fn first captured => cases fn <;> simp [notNil] at h1 ⊢ <;> exact h2
  | nilFunc => simp [notNil] at h1
  | nilIface => simp [notNil] at h1
  | _ => exact h2

theorem eqIn_bool {t : TypeId} (n : Nat) (a b : Bool) (hu : P.underlying t = some .bool) : (Op.equalIn (n + 1) t (.bool a) (.bool b)).run P w = .ok (a == b) w := by
  simp only [Op.equalIn, Sem.run_bind, run_und hu, Result.andThen_ok, Sem.run_pure]
theorem eqIn_nil {t e : TypeId} (n : Nat) (a : Option Addr) (hu : P.underlying t = some (.pointer e)) : (Op.equalIn (n + 1) t (.pointer a) (.pointer none)).run P w = .ok a.isNone w := by
  cases a <;> simp [Op.equalIn, run_und hu]
theorem run_eq_bool {t : TypeId} (a b : Bool) (hu : P.underlying t = some .bool) : (Op.equal t (.bool a) (.bool b)).run P w = .ok (a == b) w := eqIn_bool 9999 a b hu
theorem run_eq_nil {t e : TypeId} (a : Option Addr) (hu : P.underlying t = some (.pointer e)) : (Op.equal t (.pointer a) (.pointer none)).run P w = .ok a.isNone w := eqIn_nil 9999 a hu
theorem so_bb {op : BinOp} {t u : TypeId} {x y : Operand} (hop : op = .eql ∨ op = .neq) (hu : P.underlying t = some .bool) (h : bb op (f x) (f y) w K) : ex P (execOp f ⟨dst, .binOp op t x y u, ty, pos, af, g⟩) w K := by
  obtain ⟨a, b, hx, hy, hk⟩ := h
  refine ex_oV (s := do eqGuard op t x y (f x) (f y); binOp op t (f x) (f y)) ?_ hk
  rw [hx, hy]
  rcases hop with rfl | rfl
  · simp only [eqGuard, binOp, Sem.run_bind, run_eq_bool a b hu, Result.andThen_ok, Sem.run_pure]; rfl
  · simp only [eqGuard, binOp, Sem.run_bind, run_eq_bool a b hu, Result.andThen_ok, Sem.run_pure]; rfl
theorem so_bn {op : BinOp} {t e u : TypeId} {x : Operand} (hc : ∀ v, f (.const v) = v) (hop : op = .eql ∨ op = .neq) (hu : P.underlying t = some (.pointer e)) (h : bn op (f x) w K) : ex P (execOp f ⟨dst, .binOp op t x (.const (.pointer none)) u, ty, pos, af, g⟩) w K := by
  obtain ⟨a, hx, hk⟩ := h
  refine ex_oV (s := do eqGuard op t x (.const (.pointer none)) (f x) (f (.const (.pointer none))); binOp op t (f x) (f (.const (.pointer none)))) ?_ hk
  rw [hx, hc]
  rcases hop with rfl | rfl
  · simp only [eqGuard, binOp, Sem.run_bind, run_eq_nil a hu, Result.andThen_ok, Sem.run_pure]; rfl
  · simp only [eqGuard, binOp, Sem.run_bind, run_eq_nil a hu, Result.andThen_ok, Sem.run_pure]; rfl

theorem so_not {t : TypeId} {x : Operand} (h : bnot (f x) w K) : ex P (execOp f ⟨dst, .unOp .not t x, ty, pos, af, g⟩) w K := by
  obtain ⟨q, hx, hk⟩ := h
  refine ex_oV (s := Op.unary .not (f x)) ?_ hk
  rw [hx]
  rfl
theorem so_cvI {s d : TypeId} {x : Operand} {j k : IntKind} (hs : P.underlying s = some (.int j)) (hd : P.underlying d = some (.int k)) (h : cvI k (f x) w K) : ex P (execOp f ⟨dst, .convert s d x, ty, pos, af, g⟩) w K := by
  obtain ⟨j', n, hx, hk⟩ := h
  refine ex_oV (s := convert s d (f x)) ?_ hk
  rw [hx]
  simp only [convert, Sem.run_bind, run_und hs, run_und hd, Result.andThen_ok, Conv.intToInt, Sem.run_pure]
theorem so_mkI {t : TypeId} {x : Operand} (h : semOp P ⟨dst, .makeInterface t x, ty, pos, af, g⟩ f w K) : ex P (execOp f ⟨dst, .makeInterface t x, ty, pos, af, g⟩) w K := by
  unfold semOp at h
  simp only at h
  split at h
  · exact h.elim
  · rename_i d hne hd
    refine ex_oV (s := Instr.makeInterface t (f x)) ?_ h
    cases d <;> simp_all [Instr.makeInterface, run_und hd]
  · exact h.elim
theorem so_mkMap {t : TypeId} (h : mkMap w K) : ex P (execOp f ⟨dst, .makeMap t none, ty, pos, af, g⟩) w K := by
  refine ex_oV (s := Instr.makeMap t (Option.map f none)) (w' := w.alloc (.map #[] 0)) ?_ h
  simp only [Instr.makeMap, Option.map_none, newObj, Sem.run_bind, Sem.run, Sem.run_pure, Result.andThen_ok, World.alloc]
theorem so_slice {t : TypeId} {x : Operand} {lo hi : Option Operand} {e : TypeId} (hu : P.underlying t = some (.slice e)) (ho : okT P e = true) (h : slc (szD P e) (f x) (lo.map f) (hi.map f) w K) :
    ex P (execOp f ⟨dst, .slice t x lo hi none, ty, pos, af, g⟩) w K := by
  obtain ⟨d, i, z, hd, hi', hz, hs, hg, hz'⟩ := okT_inv ho
  obtain ⟨a, n, c, l, hh, hx, hl, hh', h1, h2, hk⟩ := h
  refine ex_oV (s := Instr.sliceAt t (f x) (lo.map f) (hi.map f) (Option.map f none)) ?_ hk
  rw [hx, hs]
  simp only [Instr.sliceAt, Instr.slice, Option.map_none, Sem.run_bind, run_und hu, Result.andThen_ok, run_bounds hl hh' h1 h2, run_sz hi', Sem.run_pure]
theorem so_fieldAddr {s : TypeId} {x : Operand} {n : Nat} (h : semOp P ⟨dst, .fieldAddr s x n, ty, pos, af, g⟩ f w K) : ex P (execOp f ⟨dst, .fieldAddr s x n, ty, pos, af, g⟩) w K := by
  unfold semOp at h
  simp only at h
  split at h
  · rename_i fd hfd
    split at h
    · rename_i ho h0
      obtain ⟨d, i, z, hd, hi, hz, hs, hg, hz'⟩ := okT_inv ho
      obtain ⟨a, hx, hk⟩ := h
      refine ex_oV (s := Instr.fieldAt s (f x) n) ?_ hk
      unfold fieldOf at hfd
      split at hfd
      · rename_i fs hfs
        have h0' : ¬ i.size = 0 := by rw [← hs]; simpa using h0
        rw [hx]
        simp only [Instr.fieldAt, Sem.run_bind, run_und hfs, Result.andThen_ok, hfd, Instr.sureAddr, Sem.run_pure, fieldPlace, run_sz hi, if_neg h0']
      · cases hfd
    · exact h.elim
  · exact h.elim
theorem run_part1 {t : TypeId} {d : TypeDesc} {cs : Array Value} {off : Nat} {v : Value} (hd : P.underlying t = some d) (hg : isAggD d = false) (hv : cs[off]? = some v) : (part t cs off).run P w = .ok v w := by
  simp only [part, Sem.run_bind, run_isAgg hd, Result.andThen_ok, hg, Bool.false_eq_true, if_false, hv, Sem.run_pure]
theorem run_partN {t : TypeId} {d : TypeDesc} {i : TypeInfo} {cs : Array Value} {off : Nat} (hd : P.underlying t = some d) (hi : P.info? t = some i) (hg : isAggD d = true) : (part t cs off).run P w = .ok (.agg (cs.extract off (off + i.size))) w := by
  simp only [part, Sem.run_bind, run_isAgg hd, Result.andThen_ok, hg, if_true, run_sz hi, Sem.run_pure]
theorem so_field {s : TypeId} {x : Operand} {n : Nat} (h : semOp P ⟨dst, .field s x n, ty, pos, af, g⟩ f w K) : ex P (execOp f ⟨dst, .field s x n, ty, pos, af, g⟩) w K := by
  unfold semOp at h
  simp only at h
  split at h
  · rename_i fd hfd
    unfold fieldOf at hfd
    split at hfd
    · rename_i fs hfs
      split at h
      · rename_i ho h0
        obtain ⟨d, i, z, hd, hi, hz, hs, hg, hz'⟩ := okT_inv ho
        obtain ⟨cs, hx, hk⟩ := h
        refine ex_oV (s := Instr.field s (f x) n) ?_ hk
        rw [hx, hs]
        simp only [Instr.field, Sem.run_bind, run_und hfs, Result.andThen_ok, hfd, asAgg, Sem.run_pure]
        exact run_partN hd hi (hg ▸ h0)
      · rename_i ho h0
        obtain ⟨d, i, z, hd, hi, hz, hs, hg, hz'⟩ := okT_inv ho
        obtain ⟨cs, v, hx, hv, hk⟩ := h
        refine ex_oV (s := Instr.field s (f x) n) ?_ hk
        rw [hx]
        simp only [Instr.field, Sem.run_bind, run_und hfs, Result.andThen_ok, hfd, asAgg, Sem.run_pure]
        exact run_part1 hd (hg ▸ h0) hv
      · exact h.elim
    · cases hfd
  · exact h.elim
theorem so_indexAddr {t : TypeId} {x i : Operand} (h : semOp P ⟨dst, .indexAddr t x i, ty, pos, af, g⟩ f w K) : ex P (execOp f ⟨dst, .indexAddr t x i, ty, pos, af, g⟩) w K := by
  unfold semOp at h
  simp only at h
  split at h
  · rename_i e hu
    split at h
    · rename_i ho
      obtain ⟨d, i', z, hd, hi, hz, hs, hg, hz'⟩ := okT_inv ho
      obtain ⟨a, n, c, k, j, hx, hj, h0, h1, hk⟩ := h
      refine ex_oV (s := Instr.indexAt t (f x) (f i)) ?_ hk
      rw [hx, hj, hs]
      simp [Instr.indexAt, asIntOf, run_und hu, h0, h1, run_sz hi]
    · exact h.elim
  · rename_i len e hu
    split at h
    · rename_i ho
      obtain ⟨d, i', z, hd, hi, hz, hs, hg, hz'⟩ := okT_inv ho
      obtain ⟨a, k, j, hx, hj, h0, h1, hk⟩ := h
      refine ex_oV (s := Instr.indexAt t (f x) (f i)) ?_ hk
      rw [hx, hj, hs]
      simp [Instr.indexAt, asIntOf, run_und hu, h0, h1, run_sz hi, Instr.sureAddr]
    · exact h.elim
  · exact h.elim
theorem so_extract {x : Operand} {i : Nat} (h : xt i (f x) w K) : ex P (execOp f ⟨dst, .extract x i, ty, pos, af, g⟩) w K := by
  obtain ⟨vs, v, hx, hv, hk⟩ := h
  refine ex_oV (s := Instr.extract (f x) i) ?_ hk
  rw [hx]
  simp only [Instr.extract, hv, Sem.run_pure]
theorem so_call {g' : FuncId} {c : Call} (hfn : ∀ g, f (.func g) = .func (.func g) #[] #[]) (hcal : c.callee = .value (.func g')) (h : Cl P g' (c.args.map f) w K) : ex P (execOp f ⟨dst, .call c, ty, pos, af, g⟩) w K := by
  refine ex_congr ?_ h
  simp only [execOp, resolve, hcal, hfn, Deferred.ofValue, Sem.run_bind, Sem.run_pure, Result.andThen_ok, invoke]
  simp
theorem so_clV {t : Tmp} {c : Call} (hcal : c.callee = .value (.tmp t)) (h : clV P (f (.tmp t)) (c.args.map f) w K) : ex P (execOp f ⟨dst, .call c, ty, pos, af, g⟩) w K := by
  obtain ⟨fn, first, captured, hx, hk⟩ := h
  unfold clF at hk
  split at hk
  · refine ex_congr ?_ hk
    simp only [execOp, resolve, hcal, hx, Deferred.ofValue, Sem.run_bind, Sem.run_pure, Result.andThen_ok, invoke]
  · refine ex_congr ?_ hk
    simp only [execOp, resolve, hcal, hx, Deferred.ofValue, Sem.run_bind, Sem.run_pure, Result.andThen_ok, invoke]
  · exact hk.elim

theorem so_binOp {op : BinOp} {t u : TypeId} {x y : Operand} (hc : ∀ v, f (.const v) = v) (h : semOp P ⟨dst, .binOp op t x y u, ty, pos, af, g⟩ f w K) : ex P (execOp f ⟨dst, .binOp op t x y u, ty, pos, af, g⟩) w K := by
  unfold semOp at h
  simp only at h
  split at h
  all_goals first
    | exact semOp_bi (by simp) h
    | (rename_i hu; exact so_bb (by simp) hu h)
    | (rename_i hu; split at h; · exact so_bn hc (by simp) hu h
       · exact h)
    | exact h

theorem run_len_slice {t e : TypeId} {a : Option Addr} {n c : Nat} (ty : TypeId) (hu : P.underlying t = some (.slice e)) : (Builtin.len_ #[t] ty #[.slice a n c]).run P w = .ok (.int .i64 n) w := by
  simp [Builtin.len_, run_und hu, goInt]
theorem run_len_str {t : TypeId} {s : ByteArray} (ty : TypeId) (hu : P.underlying t = some .string) : (Builtin.len_ #[t] ty #[.string s]).run P w = .ok (.int .i64 s.size) w := by
  simp [Builtin.len_, run_und hu, goInt]

theorem so_builtin {b : Builtin} {c : Call} {s : Array Value → Sem Value} (hcal : c.callee = .builtin b) {v : Value} {w' : World}
    (hb : ∀ cs, builtin b c.argTypes ty cs (c.args.map f) = (do pure (.value (← s (c.args.map f))))) (h : (s (c.args.map f)).run P w = .ok v w') (hk : K v w') : ex P (execOp f ⟨dst, .call c, ty, pos, af, g⟩) w K := by
  refine (ex_oV (s := s (c.args.map f)) h hk : ex P (oV (s (c.args.map f))) w K) |> fun h2 => ?_
  unfold ex at h2 ⊢
  have e : (execOp f ⟨dst, .call c, ty, pos, af, g⟩ : Sem Next).run P w = (oV (s (c.args.map f))).run P w := by
    simp only [execOp, resolve, hcal, Sem.run_bind, Sem.run_pure, Result.andThen_ok, invoke, hb, oV]
  rw [e]
  exact h2

theorem so_builtin2 {b : Builtin} {c : Call} {s : Sem Value} (hcal : c.callee = .builtin b) 
    (hb : ∀ cs, builtin b c.argTypes ty cs (c.args.map f) = (do pure (.value (← s)))) (h : ex P (oV s) w K) : ex P (execOp f ⟨dst, .call c, ty, pos, af, g⟩) w K := by
  unfold ex at h ⊢
  have e : (execOp f ⟨dst, .call c, ty, pos, af, g⟩ : Sem Next).run P w = (oV s).run P w := by
    simp only [execOp, resolve, hcal, Sem.run_bind, Sem.run_pure, Result.andThen_ok, invoke, hb, oV]
  rw [e]
  exact h

theorem so_calls {c : Call} (hfn : ∀ g, f (.func g) = .func (.func g) #[] #[]) (h : semOp P ⟨dst, .call c, ty, pos, af, g⟩ f w K) : ex P (execOp f ⟨dst, .call c, ty, pos, af, g⟩) w K := by
  obtain ⟨callee, args, argTypes⟩ := c
  unfold semOp at h
  simp only at h
  split at h
  · rename_i g'
    exact so_call hfn rfl h
  · rename_i t
    exact so_clV rfl h
  · rename_i b
    split at h
    · rename_i x t ha ht
      obtain rfl : args = #[x] := by simpa using congrArg List.toArray ha
      obtain rfl : argTypes = #[t] := by simpa using congrArg List.toArray ht
      split at h
      · rename_i e hu
        obtain ⟨a, n, c, hx, hk⟩ := h
        refine so_builtin (s := fun vs => Builtin.len_ #[t] ty vs) rfl (fun cs => rfl) (v := .int .i64 n) (w' := w) ?_ hk
        simp only [List.map_toArray, List.map_cons, List.map_nil, hx]
        exact run_len_slice ty hu
      · rename_i hu
        obtain ⟨s, hx, hk⟩ := h
        refine so_builtin (s := fun vs => Builtin.len_ #[t] ty vs) rfl (fun cs => rfl) (v := .int .i64 s.size) (w' := w) ?_ hk
        simp only [List.map_toArray, List.map_cons, List.map_nil, hx]
        exact run_len_str ty hu
      · exact so_builtin2 rfl (fun cs => by simp [builtin]) h
    · rename_i x y t t' ha ht
      obtain rfl : args = #[x, y] := by simpa using congrArg List.toArray ha
      split at h
      · obtain ⟨a, b, hx, hy, hk⟩ := h
        refine so_builtin (s := fun vs => Builtin.min_ argTypes ty vs) rfl (fun cs => rfl) (w' := w) ?_ hk
        simp only [List.map_toArray, List.map_cons, List.map_nil, hx, hy]
        simp [Builtin.min_, Builtin.min2]
      · exact h
    · rename_i x y t t' ha ht
      obtain rfl : args = #[x, y] := by simpa using congrArg List.toArray ha
      split at h
      · obtain ⟨a, b, hx, hy, hk⟩ := h
        refine so_builtin (s := fun vs => Builtin.max_ argTypes ty vs) rfl (fun cs => rfl) (w' := w) ?_ hk
        simp only [List.map_toArray, List.map_cons, List.map_nil, hx, hy]
        simp [Builtin.max_, Builtin.max2]
      · exact h
    · rename_i x y ha
      obtain rfl : args = #[x, y] := by simpa using congrArg List.toArray ha
      exact so_builtin2 rfl (fun cs => by simp [builtin]) h
    · rename_i x y ha
      obtain rfl : args = #[x, y] := by simpa using congrArg List.toArray ha
      exact so_builtin2 rfl (fun cs => by simp [builtin]) h
    · rename_i x y ha
      obtain rfl : args = #[x, y] := by simpa using congrArg List.toArray ha
      exact so_builtin2 rfl (fun cs => by simp [builtin]) h
    · exact h
  · exact h
end

theorem semOp_sound (hc : ∀ v, f (.const v) = v) (hfn : ∀ g, f (.func g) = .func (.func g) #[] #[]) (o : Oper) (h : semOp P o f w K) : ex P (execOp f o) w K := by
  obtain ⟨dst, op, ty, pos, af, g⟩ := o
  cases op with
  | move x => exact h
  | assign x => exact h
  | pick c a b => exact so_pick h
  | alloc e => exact so_alloc h
  | box e x => exact so_box h
  | build t parts => exact so_build h
  | buildSlice t len parts => exact so_buildSlice h
  | load t a => exact so_load h
  | store t a x => exact so_store h
  | nilCheck x => exact so_nilCheck h
  | binOp op t x y u => exact so_binOp hc h
  | unOp op t x => cases op <;> first | exact so_not h | exact h
  | convert s d x =>
    unfold semOp at h
    simp only at h
    split at h
    · rename_i h1 h2
      exact so_cvI h1 h2 h
    · exact h
  | makeInterface t x => exact so_mkI h
  | makeFunc fn first captured => exact h
  | makeMap t r => cases r with
    | none => exact so_mkMap h
    | some r => exact h
  | slice t x lo hi mx => cases mx with
    | some m => exact h
    | none =>
      unfold semOp at h
      simp only at h
      split at h
      · rename_i e hu
        split at h
        · rename_i ho
          exact so_slice hu ho h
        · exact h.elim
      · exact h
  | fieldAddr s x n => exact so_fieldAddr h
  | field s x n => exact so_field h
  | indexAddr t x i => exact so_indexAddr h
  | extract x i => exact so_extract h
  | index t x i => exact h
  | lookup t x i ok => exact h
  | mapUpdate t m k x => exact h
  | range t x => exact h
  | next it s => exact h
  | entry it => exact h
  | typeAssert x s t ok => exact h
  | makeSlice t l c => exact h
  | call c => exact so_calls hfn h
  | _ => exact h
end
end Go.E
end
section
namespace Go.E
open Go.RowKit

def Ev.opd (ρ : Ev) : Operand → Value
  | .tmp t => ρ t
  | .const v => v
  | .global g => .pointer (some ⟨g, 0, none⟩)
  | .func f => .func (.func f) #[] #[]
def Ev.upd (ρ : Ev) (d : Nat) (v : Value) : Ev := fun t => match Nat.beq t d with | true => v | false => ρ t
def Ev.put (ρ : Ev) : Option Tmp → Value → Ev
  | some d, v => Ev.upd ρ d v
  | none, _ => ρ
def idx (t : Nat) : List Nat → Nat → Option Nat
  | [], _ => none
  | m :: ms, i => match Nat.beq t m with | true => some i | false => idx t ms (i + 1)
def Ev.over (ρ : Ev) (ms : List Nat) (vs : List Value) : Ev := fun t => match idx t ms 0 with | some i => vs.getD i undef | none => ρ t

def AgrD (ds : List Deferred) (n m : Nat) (a : Act) (ρ : Ev) : Prop := a.tmps.size = n ∧ a.defers = ds ∧ ∀ t, m.testBit t = true → a.tmps.getD t undef = ρ t

abbrev Agr := AgrD []
variable {ds : List Deferred}
theorem AgrD.mono {n m m' : Nat} {a : Act} {ρ : Ev} (h : AgrD ds n m a ρ) (hm : ∀ t, m'.testBit t = true → m.testBit t = true) : AgrD ds n m' a ρ :=
  ⟨h.1, h.2.1, fun t ht => h.2.2 t (hm t ht)⟩

def bitO : Operand → Nat
  | .tmp t => 2 ^ t
  | _ => 0
def bitsO (l : List Operand) : Nat := l.foldr (fun x m => bitO x ||| m) 0
def gslot (ops : Array Oper) (j : Nat) : Option Nat := (ops[j]?).bind (·.dst)
def gbit (ops : Array Oper) (o : Oper) : Nat :=
  match o.guard with
  | none => 0
  | some (j, _) => match gslot ops j with | some d => 2 ^ d | none => 0
def uses (ops : Array Oper) (o : Oper) : Nat := bitsO o.op.operands.toList ||| gbit ops o
def dbit : Option Tmp → Nat
  | some d => 2 ^ d
  | none => 0
def del (m : Nat) (d : Option Tmp) : Nat := m ^^^ (m &&& dbit d)

theorem two_pow_bit (a b : Nat) : (2 ^ a).testBit b = decide (a = b) := Nat.testBit_two_pow

theorem bitsO_mem {l : List Operand} {t : Nat} (h : Operand.tmp t ∈ l) : (bitsO l).testBit t = true := by
  induction l with
  | nil => cases h
  | cons x l ih =>
    simp only [bitsO, List.foldr_cons, Nat.testBit_or, Bool.or_eq_true]
    cases h with
    | head => left; simp [bitO]
    | tail _ h => right; exact ih h

theorem AgrD.opd {n m : Nat} {a : Act} {ρ : Ev} (h : AgrD ds n m a ρ) {l : List Operand} (hl : ∀ t, (bitsO l).testBit t = true → m.testBit t = true) : ∀ x ∈ l, a.eval x = ρ.opd x := by
  intro x hx
  cases x with
  | tmp t => exact h.2.2 t (hl t (bitsO_mem hx))
  | const v => rfl
  | global g => rfl
  | func f => rfl

theorem AgrD.put {n m : Nat} {a : Act} {ρ : Ev} (h : AgrD ds n m a ρ) {d : Option Tmp} {v : Value} (hd : ∀ t, d = some t → t < n) : AgrD ds n (m ||| dbit d) (a.put d v) (ρ.put d v) := by
  obtain ⟨h1, h2, h3⟩ := h
  cases d with
  | none => exact ⟨h1, h2, fun t ht => h3 t (by simpa [dbit] using ht)⟩
  | some d =>
    have hlt := hd d rfl
    refine ⟨by simp [Act.put, h1], h2, fun t ht => ?_⟩
    simp only [Act.put, Ev.put, Ev.upd, dbit, Nat.testBit_or, two_pow_bit, Bool.or_eq_true, decide_eq_true_eq] at ht ⊢
    by_cases e : t = d
    · subst e
      simp [Nat.beq_refl, h1, hlt]
    · have e2 : Nat.beq t d = false := by
        cases hb : Nat.beq t d with
        | false => rfl
        | true => exact absurd (Nat.eq_of_beq_eq_true hb) e
      rw [e2]
      rcases ht with ht | ht
      · rw [← h3 t ht]
        simp [Array.getElem?_setIfInBounds_ne (Ne.symm e)]
      · exact absurd ht.symm e

theorem AgrD.put_del {n m : Nat} {a : Act} {ρ : Ev} {d : Option Tmp} {v : Value} (h : AgrD ds n (del m d) a ρ) (hd : ∀ t, d = some t → t < n) : AgrD ds n m (a.put d v) (ρ.put d v) :=
  (h.put hd).mono fun t ht => by
    simp only [del, Nat.testBit_or, Nat.testBit_xor, Nat.testBit_and, ht, Bool.true_and]
    cases (dbit d).testBit t <;> rfl

def okD (n : Nat) : Option Tmp → Bool
  | some d => decide (d < n)
  | none => true
theorem okD_spec {n : Nat} {d : Option Tmp} (h : okD n d = true) : ∀ t, d = some t → t < n := by
  rintro t rfl
  simpa [okD] using h

def Fr (m : Nat) (ρ ρ' : Ev) : Prop := ∀ t, m.testBit t = false → ρ' t = ρ t
theorem Fr.refl (m : Nat) (ρ : Ev) : Fr m ρ ρ := fun _ _ => rfl
theorem Fr.trans {m m' : Nat} {a b c : Ev} (h : Fr m a b) (h' : Fr m' b c) : Fr (m ||| m') a c := fun t ht => by
  simp only [Nat.testBit_or, Bool.or_eq_false_iff] at ht
  exact (h' t ht.2).trans (h t ht.1)
theorem Fr.mono {m m' : Nat} {a b : Ev} (h : Fr m a b) (hm : ∀ t, m.testBit t = true → m'.testBit t = true) : Fr m' a b := fun t ht => h t (by
  cases hx : m.testBit t with
  | false => rfl
  | true => rw [hm t hx] at ht; cases ht)
theorem Fr.put {m : Nat} {a b : Ev} (h : Fr m a b) {d : Option Tmp} (v : Value) (hd : ∀ t, (dbit d).testBit t = true → m.testBit t = true) : Fr m a (b.put d v) := by
  intro t ht
  cases d with
  | none => exact h t ht
  | some d =>
    simp only [Ev.put, Ev.upd]
    cases hb : Nat.beq t d with
    | false => exact h t ht
    | true =>
      have e := Nat.eq_of_beq_eq_true hb
      subst e
      rw [hd t (by simp [dbit])] at ht
      cases ht

def wantd : Value → Bool → Bool
  | .bool b, want => b == want
  | _, _ => false
def gval (ops : Array Oper) (ρ : Ev) (j : Nat) : Value := match gslot ops j with | some d => ρ d | none => undef
def gd (c : Value) (want : Bool) (body : KV → Prop) (w : World) (k : KV) : Prop :=
  (wantd c want = true → body k) ∧ (wantd c want = false → k undef w)

theorem wanted_gval {ops : Array Oper} {n m : Nat} {a : Act} {ρ : Ev} {o : Oper} {j : Nat} {want : Bool} (hg : o.guard = some (j, want)) (h : AgrD ds n m a ρ) (hm : ∀ t, (gbit ops o).testBit t = true → m.testBit t = true) :
    Region.wanted o (yielded ops a.tmps) = wantd (gval ops ρ j) want := by
  unfold Region.wanted
  rw [hg]
  simp only [yielded, gval, gslot]
  cases hs : (ops[j]?).bind (·.dst) with
  | none => simp [wantd, undef]
  | some d =>
    have hb : m.testBit d = true := hm d (by simp [gbit, hg, gslot, hs])
    have he := h.2.2 d hb
    simp only [← he, Option.bind_some, Array.getD_eq_getD_getElem?]
    cases hv : a.tmps[d]? with
    | none => simp [wantd, undef]
    | some v => cases v <;> simp [wantd]

def gop (P : Program) (ops : Array Oper) (o : Oper) (ρ : Ev) (w : World) (K : KV) : Prop :=
  match o.guard with
  | none => semOp P o ρ.opd w K
  | some (j, want) => gd (gval ops ρ j) want (fun k => semOp P o ρ.opd w k) w K

def seqOps (P : Program) (ops : Array Oper) (K : Ev → World → Prop) : List Oper → Ev → World → Prop
  | [], ρ, w => K ρ w
  | o :: r, ρ, w => gop P ops o ρ w fun v w' => seqOps P ops K r (ρ.put o.dst v) w'

def noSel (o : Oper) : Bool := match o.op with | .select .. => false | _ => true
theorem noSel_spec {o : Oper} (h : noSel o = true) : ∀ cs b, o.op ≠ .select cs b := by
  intro cs b e
  simp [noSel, e] at h

def fen : Option Nat → Fence
  | none => Fence.wide
  | some l => Fence.wide.inRound l
theorem fen_fn (ro : Option Nat) (f : FuncId) : (fen ro).fn f := by cases ro <;> trivial
theorem fen_depth (ro : Option Nat) : (fen ro).depth.isSome = true → 1 ≤ 0 := by cases ro <;> (intro h; cases h)
theorem callsIn_fen {P : Program} (ro : Option Nat) {n : Nat} {f : FuncId} {args : Array Value} {w : World} {R : Ending → World → Prop} (h : Calls P f args w R) : CallsIn (fen ro) n P f args w R := by
  cases ro with
  | none => exact callsIn_wide.2 h
  | some l => exact CallsIn.inRound l (callsIn_wide.2 h)
theorem roundIn_fen {P : Program} (ro : Option Nat) {l : Nat} {f : FuncId} {tmps : Array Value} {asx bd : Code} {w : World} {R : Ending → World → Prop} (h : RoundIn Fence.wide 0 P l f tmps asx bd w R) : RoundIn (fen ro) 0 P l f tmps asx bd w R := by
  cases ro with
  | none => exact h
  | some l => exact h
theorem wp_of_ex {P : Program} {ro : Option Nat} {o : Oper} {a : Act} {w : World} {next : Act → World → Prop} {Q : Exit → Act → World → Prop} {K : KV}
    (h : ex P (execOp a.eval o) w K) (hk : ∀ v w', K v w' → next (a.put o.dst v) w') : o.wpIn (fen ro) 0 P a w next Q := by
  refine ⟨fun f _ => fen_fn ro f, ?_⟩
  have hse : o.semAt (fen ro).round a.eval = execOp a.eval o := by
    refine Oper.semAt_eq _ _ _ fun c hc => ?_
    unfold ex at h
    simp only [execOp, hc, Sem.run_bind] at h
    cases hr : (resolve a.eval c o.type).run P w with
    | ok d w' => rw [hr] at h; simp at h
    | halt x w' => rw [hr] at h; simp at h
  rw [hse]
  unfold ex at h
  generalize (execOp a.eval o).run P w = r at *
  cases r with
  | ok nx w' =>
    cases nx <;> simp only [Oper.uponIn] at h ⊢
    case value v => exact hk _ _ h
    case skip => exact hk _ _ h
    case enter f args => exact ⟨fen_depth ro, callsIn_fen ro (Calls.mono h fun e w'' ⟨v, he, hv⟩ => by subst he; exact hk _ _ hv)⟩
    case round l f tmps asx bd => exact ⟨fen_depth ro, roundIn_fen ro (RoundIn.mono h fun e w'' ⟨v, he, hv⟩ => by subst he; exact hk _ _ hv)⟩
  | halt x w' => simp at h

theorem gop_sound {P : Program} {ro : Option Nat} {ops : Array Oper} {n m : Nat} {a : Act} {ρ : Ev} {o : Oper} {w : World} {K : KV} {next : Act → World → Prop} {Q : Exit → Act → World → Prop}
    (ha : AgrD ds n m a ρ) (hs : noSel o = true) (hu : ∀ t, (uses ops o).testBit t = true → m.testBit t = true) (h : gop P ops o ρ w K) (hk : ∀ v w', K v w' → next (a.put o.dst v) w') :
    if Region.wanted o (yielded ops a.tmps) then o.wpIn (fen ro) 0 P a w next Q else next (a.put o.dst undef) w := by
  have e : execOp a.eval o = execOp ρ.opd o := execOp_congr o (noSel_spec hs) (by
    intro x hx
    exact ha.opd (l := o.op.operands.toList) (fun t ht => hu t (by simp [uses, ht])) x (by simpa using hx))
  have run : ∀ K', (∀ v w', K' v w' → K v w') → semOp P o ρ.opd w K' → o.wpIn (fen ro) 0 P a w next Q := fun K' hk' hso =>
    wp_of_ex (K := K') (by rw [e]; exact semOp_sound (fun _ => rfl) (fun _ => rfl) o hso) fun v w' hv => hk _ _ (hk' _ _ hv)
  unfold gop at h
  split at h
  · rename_i hg
    rw [if_pos (by simp [Region.wanted, hg])]
    exact run K (fun _ _ h => h) h
  · rename_i j want hg
    rw [wanted_gval hg ha (fun t ht => hu t (by simp [uses, ht]))]
    obtain ⟨h1, h2⟩ := h
    cases hw : wantd (gval ops ρ j) want with
    | true => rw [if_pos rfl]; exact run K (fun _ _ h => h) (h1 hw)
    | false => rw [if_neg (by simp)]; exact hk _ _ (h2 hw)

def lvOps (ops : Array Oper) : List Oper → Nat → Nat
  | [], out => out
  | o :: r, out => del (lvOps ops r out) o.dst ||| uses ops o

theorem seqOps_sound {P : Program} {ro : Option Nat} {ops : Array Oper} {n out W : Nat} {ρ0 : Ev} {Q : Exit → Act → World → Prop} {K : Ev → World → Prop} (hk : ∀ ρ a w, AgrD ds n out a ρ → Fr W ρ0 ρ → K ρ w → Q .normal a w) :
    ∀ (l : List Oper) (a : Act) (ρ : Ev) (w : World), (∀ o ∈ l, ∀ t, (dbit o.dst).testBit t = true → W.testBit t = true) → l.all (fun o => noSel o && okD n o.dst) = true → AgrD ds n (lvOps ops l out) a ρ → Fr W ρ0 ρ → seqOps P ops K l ρ w → wpListIn (fen ro) 0 P ops Q l a w
  | [], a, ρ, w, _, _, ha, hf, h => hk _ _ _ ha hf h
  | o :: r, a, ρ, w, hW, hs, ha, hf, h => by
    simp only [List.all_cons, Bool.and_eq_true] at hs
    obtain ⟨⟨hs1, hs2⟩, hs3⟩ := hs
    simp only [lvOps] at ha
    have hg := gop_sound (P := P) (ops := ops) (ro := ro) (Q := Q) (next := wpListIn (fen ro) 0 P ops Q r) ha hs1 (fun t ht => by simp [ht]) h
      (fun v w' hv => seqOps_sound hk r (a.put o.dst v) (ρ.put o.dst v) w' (fun o' ho' => hW o' (by simp [ho'])) hs3 ((ha.mono (fun t ht => by simp [ht])).put_del (okD_spec hs2)) (hf.put v (hW o (by simp))) hv)
    unfold wpListIn
    split
    · rename_i hw; rw [if_pos hw] at hg; exact hg
    · rename_i hw; rw [if_neg hw] at hg; exact ⟨fun f _ => fen_fn ro f, hg⟩

def quiet (P : Program) (o : Oper) : Bool :=
  match o.op with
  | .move _ | .assign _ | .pick .. | .load .. | .nilCheck _ | .unOp .not _ _ | .fieldAddr .. | .field .. | .indexAddr .. | .extract .. | .makeFunc .. | .makeInterface .. => true
  | .slice t _ _ _ none => match P.underlying t with | some (.slice _) => true | _ => false
  | .binOp op t _ y _ => match P.underlying t, op with
    | some (.int _), .add | some (.int _), .sub | some (.int _), .mul | some (.int _), .quo | some (.int _), .rem | some (.int _), .eql | some (.int _), .neq | some (.int _), .lss | some (.int _), .leq | some (.int _), .gtr | some (.int _), .geq => true
    | some .bool, .eql | some .bool, .neq => true
    | some (.pointer _), .eql | some (.pointer _), .neq => match y with | .const (.pointer none) => true | _ => false
    | _, _ => false
  | .convert s d _ => match P.underlying s, P.underlying d with | some (.int _), some (.int _) => true | _, _ => false
  | .call c => match c.callee with
    | .builtin .len => match c.args.toList, c.argTypes.toList with
      | [_], [t] => match P.underlying t with | some (.slice _) => true | some .string => true | _ => false
      | _, _ => false
    | _ => false
  | _ => false

def reads (o : Oper) : Bool := match o.op with | .load .. => true | _ => false

section
variable {P : Program} {f : Operand → Value} {w : World} {K : KV}
theorem quiet_spec (o : Oper) (hq : quiet P o = true) (h : semOp P o f w K) :
    ∃ v, K v w ∧ semOp P o f w (fun v' w' => v' = v ∧ w' = w) ∧ (reads o = false → ∀ w2, semOp P o f w2 (fun v' w' => v' = v ∧ w' = w2)) := by
  obtain ⟨dst, op, ty, pos, af, g⟩ := o
  cases op with
  | move x => exact ⟨_, h, ⟨rfl, rfl⟩, fun _ _ => ⟨rfl, rfl⟩⟩
  | assign x => exact ⟨_, h, ⟨rfl, rfl⟩, fun _ _ => ⟨rfl, rfl⟩⟩
  | pick c a b => obtain ⟨q, h1, hk⟩ := h; exact ⟨_, hk, ⟨q, h1, rfl, rfl⟩, fun _ _ => ⟨q, h1, rfl, rfl⟩⟩
  | load t a =>
    refine (?_ : ∃ v, K v w ∧ semOp P _ f w (fun v' w' => v' = v ∧ w' = w)) |> fun ⟨v, h1, h2⟩ => ⟨v, h1, h2, fun hr => by cases hr⟩
    unfold semOp at h ⊢
    simp only at h ⊢
    split at h
    · rename_i h1 h2
      obtain ⟨a', vs, hx, hn, hc, hk⟩ := h; exact ⟨_, hk, a', vs, hx, hn, hc, rfl, rfl⟩
    · rename_i h1 h2
      obtain ⟨a', v, hx, hc, hk⟩ := h; exact ⟨_, hk, a', v, hx, hc, rfl, rfl⟩
    · exact h.elim
  | nilCheck x => exact ⟨_, h.2, ⟨h.1, rfl, rfl⟩, fun _ _ => ⟨h.1, rfl, rfl⟩⟩
  | binOp op t x y u =>
    have e1 : ∀ op k, bi op k (f x) (f y) w K → ∃ v, K v w ∧ bi op k (f x) (f y) w (fun v' w' => v' = v ∧ w' = w) ∧ (False = False → ∀ w2, bi op k (f x) (f y) w2 (fun v' w' => v' = v ∧ w' = w2)) :=
      fun op k ⟨a, b, h1, h2, h3, hk⟩ => ⟨_, hk, ⟨a, b, h1, h2, h3, rfl, rfl⟩, fun _ _ => ⟨a, b, h1, h2, h3, rfl, rfl⟩⟩
    have e2 : ∀ op, bb op (f x) (f y) w K → ∃ v, K v w ∧ bb op (f x) (f y) w (fun v' w' => v' = v ∧ w' = w) ∧ (False = False → ∀ w2, bb op (f x) (f y) w2 (fun v' w' => v' = v ∧ w' = w2)) :=
      fun op ⟨a, b, h1, h2, hk⟩ => ⟨_, hk, ⟨a, b, h1, h2, rfl, rfl⟩, fun _ _ => ⟨a, b, h1, h2, rfl, rfl⟩⟩
    have e3 : ∀ op, bn op (f x) w K → ∃ v, K v w ∧ bn op (f x) w (fun v' w' => v' = v ∧ w' = w) ∧ (False = False → ∀ w2, bn op (f x) w2 (fun v' w' => v' = v ∧ w' = w2)) :=
      fun op ⟨a, h1, hk⟩ => ⟨_, hk, ⟨a, h1, rfl, rfl⟩, fun _ _ => ⟨a, h1, rfl, rfl⟩⟩
    simp only [quiet] at hq
    simp only [semOp, reads, forall_const] at h ⊢
    simp only [forall_const] at e1 e2 e3
    cases hu : P.underlying t with
    | none => rw [hu] at hq; simp at hq
    | some d =>
      rw [hu] at hq h
      cases d <;> cases op <;> simp only [Bool.false_eq_true] at hq
      all_goals first
        | exact e1 _ _ h
        | exact e2 _ h
        | skip
      all_goals
        split at hq
        · exact e3 _ h
        · cases hq
  | unOp op t x => cases op <;> first | (cases hq; done) | (obtain ⟨q, h1, hk⟩ := h; exact ⟨_, hk, ⟨q, h1, rfl, rfl⟩, fun _ _ => ⟨q, h1, rfl, rfl⟩⟩)
  | convert s d x =>
    simp only [quiet] at hq
    simp only [semOp, reads, forall_const] at h ⊢
    cases h1 : P.underlying s with
    | none => rw [h1] at hq; simp at hq
    | some s' =>
      cases h2 : P.underlying d with
      | none => rw [h1, h2] at hq; cases s' <;> simp at hq
      | some d' =>
        rw [h1, h2] at hq h
        cases s' <;> cases d' <;> simp only [Bool.false_eq_true] at hq
        obtain ⟨j, n, h1, hk⟩ := h; exact ⟨_, hk, ⟨j, n, h1, rfl, rfl⟩, fun _ => ⟨j, n, h1, rfl, rfl⟩⟩
  | makeInterface t x =>
    simp only [semOp, reads, forall_const] at h ⊢
    cases h1 : P.underlying t with
    | none => rw [h1] at h; exact h.elim
    | some d =>
      rw [h1] at h
      cases d <;> first | exact h.elim | exact ⟨_, h, by simp⟩
  | makeFunc fn first captured => exact ⟨_, h, ⟨rfl, rfl⟩, fun _ _ => ⟨rfl, rfl⟩⟩
  | slice t x lo hi mx => cases mx with
    | some m => cases hq
    | none =>
      unfold semOp at h ⊢
      simp only at h ⊢
      split at h
      · split at h
        · obtain ⟨a, n, c, l, hh, h1, h2, h3, h4, h5, hk⟩ := h
          exact ⟨_, hk, ⟨a, n, c, l, hh, h1, h2, h3, h4, h5, rfl, rfl⟩, fun _ _ => ⟨a, n, c, l, hh, h1, h2, h3, h4, h5, rfl, rfl⟩⟩
        · exact h.elim
      · rename_i hne
        simp only [quiet] at hq
        cases hq
  | fieldAddr s x n =>
    simp only [semOp, reads, forall_const] at h ⊢
    cases h1 : fieldOf P s n with
    | none => rw [h1] at h; exact h.elim
    | some fd =>
      simp only [h1] at h
      cases h2 : okT P fd.type <;> cases h3 : decide (szD P fd.type = 0) <;> simp only [h2, h3] at h ⊢ <;> first | exact h.elim | skip
      obtain ⟨a, h1, hk⟩ := h; exact ⟨_, hk, ⟨a, h1, rfl, rfl⟩, fun _ => ⟨a, h1, rfl, rfl⟩⟩
  | field s x n =>
    simp only [semOp, reads, forall_const] at h ⊢
    cases h1 : fieldOf P s n with
    | none => rw [h1] at h; exact h.elim
    | some fd =>
      simp only [h1] at h
      cases h2 : okT P fd.type <;> cases h3 : isAggT P fd.type <;> simp only [h2, h3] at h ⊢ <;> first | exact h.elim | skip
      · obtain ⟨a, v, h1, h4, hk⟩ := h; exact ⟨_, hk, ⟨a, v, h1, h4, rfl, rfl⟩, fun _ => ⟨a, v, h1, h4, rfl, rfl⟩⟩
      · obtain ⟨a, h1, hk⟩ := h; exact ⟨_, hk, ⟨a, h1, rfl, rfl⟩, fun _ => ⟨a, h1, rfl, rfl⟩⟩
  | indexAddr t x i =>
    simp only [semOp, reads, forall_const] at h ⊢
    split at h
    · split at h
      · obtain ⟨a, n, c, k, j, h1, h2, h3, h4, hk⟩ := h; exact ⟨_, hk, ⟨a, n, c, k, j, h1, h2, h3, h4, rfl, rfl⟩, fun _ => ⟨a, n, c, k, j, h1, h2, h3, h4, rfl, rfl⟩⟩
      · exact h.elim
    · split at h
      · obtain ⟨a, k, j, h1, h2, h3, h4, hk⟩ := h; exact ⟨_, hk, ⟨a, k, j, h1, h2, h3, h4, rfl, rfl⟩, fun _ => ⟨a, k, j, h1, h2, h3, h4, rfl, rfl⟩⟩
      · exact h.elim
    · exact h.elim
  | extract x i => obtain ⟨vs, v, h1, h2, hk⟩ := h; exact ⟨_, hk, ⟨vs, v, h1, h2, rfl, rfl⟩, fun _ _ => ⟨vs, v, h1, h2, rfl, rfl⟩⟩
  | call c =>
    obtain ⟨callee, args, argTypes⟩ := c
    simp only [quiet] at hq
    simp only [semOp, reads, forall_const] at h ⊢
    cases callee with
    | builtin b =>
      cases b <;> simp only [Bool.false_eq_true] at hq
      split at hq
      · rename_i x t ha ht
        simp only [ha, ht] at h ⊢
        cases hu : P.underlying t with
        | none => rw [hu] at hq; simp at hq
        | some d =>
          rw [hu] at hq h
          cases d <;> simp only [Bool.false_eq_true] at hq
          · obtain ⟨s, h1, hk⟩ := h; exact ⟨_, hk, ⟨s, h1, rfl, rfl⟩, fun _ => ⟨s, h1, rfl, rfl⟩⟩
          · obtain ⟨a, n, c, h1, hk⟩ := h; exact ⟨_, hk, ⟨a, n, c, h1, rfl, rfl⟩, fun _ => ⟨a, n, c, h1, rfl, rfl⟩⟩
      · cases hq
    | _ => simp at hq
  | _ => cases hq
end

section
variable {P : Program} {ops : Array Oper}

theorem gop_quiet {o : Oper} {ρ : Ev} {w : World} {K : KV} (hq : quiet P o = true) (h : gop P ops o ρ w K) :
    ∃ v, K v w ∧ gop P ops o ρ w (fun v' w' => v' = v ∧ w' = w) ∧ (reads o = false → ∀ w2, gop P ops o ρ w2 (fun v' w' => v' = v ∧ w' = w2)) := by
  unfold gop at h ⊢
  split at h
  · rename_i hg
    exact quiet_spec o hq h
  · rename_i j want hg
    unfold gd at h ⊢
    cases hw : wantd (gval ops ρ j) want with
    | true =>
      obtain ⟨v, h1, h2, h3⟩ := quiet_spec o hq (h.1 hw)
      exact ⟨v, h1, ⟨fun _ => h2, fun e => by cases e⟩, fun hr w2 => ⟨fun _ => h3 hr w2, fun e => by cases e⟩⟩
    | false => exact ⟨undef, h.2 hw, ⟨(fun e => by cases e), fun _ => ⟨rfl, rfl⟩⟩, fun _ _ => ⟨(fun e => by cases e), fun _ => ⟨rfl, rfl⟩⟩⟩

def ancRow (ms : List Nat) (o : Oper) : Nat := o.after.toList.foldl (fun m e => match Region.binds .any e with | true => m ||| (1 <<< e.on) ||| ms.getD e.on 0 | false => m) 0
def ancM : List Oper → List Nat → List Nat
  | [], ms => ms
  | o :: l, ms => ancM l (ms ++ [ancRow ms o])
def anc (ops : Array Oper) (_n i j : Nat) : Bool := ((ancM ops.toList []).getD j 0).testBit i

def Down (ops : Array Oper) (listed : Array Bool) : Prop :=
  ∀ k o, ops[k]? = some o → listed.getD k true = true → ∀ e ∈ o.after, Region.binds .any e = true → listed.getD e.on false = true

theorem ancRow_spec {ms : List Nat} {o : Oper} {i : Nat} (h : (ancRow ms o).testBit i = true) : ∃ e ∈ o.after, Region.binds .any e = true ∧ (e.on = i ∨ (ms.getD e.on 0).testBit i = true) := by
  have key : ∀ (l : List Edge) (acc : Nat), (l.foldl (fun m e => match Region.binds .any e with | true => m ||| (1 <<< e.on) ||| ms.getD e.on 0 | false => m) acc).testBit i = true →
      acc.testBit i = true ∨ ∃ e ∈ l, Region.binds .any e = true ∧ (e.on = i ∨ (ms.getD e.on 0).testBit i = true) := by
    intro l
    induction l with
    | nil => intro acc h; exact .inl h
    | cons e l ih =>
      intro acc h
      simp only [List.foldl_cons] at h
      rcases ih _ h with h | ⟨e', he', h⟩
      · cases hb : Region.binds .any e with
        | false => rw [hb] at h; exact .inl h
        | true =>
          rw [hb] at h
          simp only [Nat.testBit_or, Bool.or_eq_true] at h
          rcases h with (h | h) | h
          · exact .inl h
          · refine .inr ⟨e, by simp, hb, .inl ?_⟩
            rw [Nat.one_shiftLeft, Nat.testBit_two_pow] at h
            simpa using h
          · exact .inr ⟨e, by simp, hb, .inr h⟩
      · exact .inr ⟨e', by simp [he'], h⟩
  rcases key _ _ h with h | ⟨e, he, h⟩
  · simp at h
  · exact ⟨e, by simpa using he, h⟩
theorem anc_listed {listed : Array Bool} (hd : Down ops listed) (n i j : Nat) (hj : j ∈ Region.ready .any ops listed ∨ listed.getD j false = true) (h : anc ops n i j = true) : listed.getD i false = true := by
  have hedge : ∀ (j : Nat) (o : Oper), ops[j]? = some o → (j ∈ Region.ready .any ops listed ∨ listed.getD j false = true) → ∀ e ∈ o.after, Region.binds .any e = true → listed.getD e.on false = true := by
    intro j o ho hj e he hb
    rcases hj with hj | hj
    · obtain ⟨hjun, oj, hoj, hall⟩ := mem_ready.1 hj
      rw [ho] at hoj
      cases hoj
      exact hall e he hb
    · refine hd j o ho ?_ e he hb
      rw [Array.getD_eq_getD_getElem?] at hj ⊢
      cases hx : listed[j]? <;> simp_all
  have key : ∀ (l : List Oper) (ms : List Nat), (∀ k o, l[k]? = some o → ops[ms.length + k]? = some o) →
      (∀ j m, ms[j]? = some m → ∀ i, m.testBit i = true → (j ∈ Region.ready .any ops listed ∨ listed.getD j false = true) → listed.getD i false = true) →
      ∀ j m, (ancM l ms)[j]? = some m → ∀ i, m.testBit i = true → (j ∈ Region.ready .any ops listed ∨ listed.getD j false = true) → listed.getD i false = true := by
    intro l
    induction l with
    | nil => intro ms _ hG; exact hG
    | cons o l ih =>
      intro ms hl hG
      refine ih (ms ++ [ancRow ms o]) (fun k o' hk => ?_) (fun j m hm i hi hj => ?_)
      · have := hl (k + 1) o' (by simpa using hk)
        rw [List.length_append, List.length_singleton, Nat.add_assoc, Nat.add_comm 1 k]
        exact this
      · by_cases hlt : j < ms.length
        · rw [List.getElem?_append_left hlt] at hm
          exact hG j m hm i hi hj
        · have hje : j = ms.length := by
            have := (List.getElem?_eq_some_iff.1 hm).1
            simp at this
            omega
          subst hje
          rw [List.getElem?_append_right (Nat.le_refl _), Nat.sub_self] at hm
          simp at hm
          subst hm
          obtain ⟨e, he, hb, h⟩ := ancRow_spec hi
          have ho : ops[ms.length]? = some o := by simpa using hl 0 o rfl
          have hon := hedge _ o ho hj e he hb
          rcases h with rfl | h
          · exact hon
          · rw [List.getD_eq_getElem?_getD] at h
            cases hx : ms[e.on]? with
            | none => rw [hx] at h; simp at h
            | some m' => rw [hx] at h; exact hG e.on m' hx i h (.inr hon)
  unfold anc at h
  rw [List.getD_eq_getElem?_getD] at h
  cases hx : (ancM ops.toList [])[j]? with
  | none => rw [hx] at h; simp at h
  | some m => rw [hx] at h; exact key ops.toList [] (fun k o hk => by simpa using hk) (fun j m hm => by simp at hm) j m hx i h hj

theorem Down.set {listed : Array Bool} (hd : Down ops listed) {j : Nat} (hj : j ∈ Region.ready .any ops listed) : Down ops (listed.setIfInBounds j true) := by
  intro k o hk hl e he hb
  refine getD_set_true ?_
  by_cases hkj : j = k
  · subst hkj
    obtain ⟨hjun, oj, hoj, hall⟩ := mem_ready.1 hj
    rw [hk] at hoj
    cases hoj
    exact hall e he hb
  · rw [getD_set_ne true hkj] at hl
    exact hd k o hk hl e he hb

theorem wpOp_comm {Q : Exit → Act → World → Prop} {j : Nat} {oi oj : Oper} {v : Value} (hj : ops[j]? = some oj) (hap : oi.apart ops oj = true)
    (hsi : ∀ cs b, oi.op ≠ .select cs b) (hsj : ∀ cs b, oj.op ≠ .select cs b)
    (hQ : ∀ c a w, Q (.panic c) (a.put oi.dst v) w → Q (.panic c) a w) {K : Act → World → Prop} {a : Act} {w : World}
    (h : wpOpIn (fen none) 0 P ops Q j K (a.put oi.dst v) w) :
    wpOpIn (fen none) 0 P ops Q j (fun a' w' => (execOp a'.eval oi = execOp a.eval oi ∧ Region.wanted oi (yielded ops a'.tmps) = Region.wanted oi (yielded ops a.tmps)) ∧ K (a'.put oi.dst v) w') a w := by
  obtain ⟨h1, h2, h3⟩ := Oper.apart_spec hap
  have keep : ∀ (a0 : Act), (execOp a0.eval oi = execOp a.eval oi ∧ Region.wanted oi (yielded ops a0.tmps) = Region.wanted oi (yielded ops a.tmps)) →
      ∀ u, (execOp (a0.put oj.dst u).eval oi = execOp a.eval oi ∧ Region.wanted oi (yielded ops (a0.put oj.dst u).tmps) = Region.wanted oi (yielded ops a.tmps)) := fun a0 hy u =>
    ⟨(execOp_put oi hsi a0 oj.dst u h3).trans hy.1, (wanted_put oi a0 oj.dst u h3).trans hy.2⟩
  unfold wpOpIn at *
  simp only [hj] at *
  rw [wanted_put oj a oi.dst v h1] at h
  split
  · rename_i hw
    simp only [hw, if_true] at h
    unfold Oper.wpIn at *
    refine ⟨fun f _ => fen_fn none f, ?_⟩
    replace h := h.2
    have hse : ∀ ρ, oj.semAt (fen none).round ρ = execOp ρ oj := fun _ => rfl
    rw [hse] at h ⊢
    rw [execOp_put oj hsj a oi.dst v h1] at h
    generalize (execOp a.eval oj).run P w = r at *
    cases r with
    | ok n w' =>
      cases n <;> simp only [Oper.uponIn] at h ⊢
      case value u => exact ⟨keep a ⟨rfl, rfl⟩ u, by rw [← Act.put_comm a v u h2]; exact h⟩
      case skip => exact ⟨keep a ⟨rfl, rfl⟩ _, by rw [← Act.put_comm a v undef h2]; exact h⟩
      case defer d =>
        refine ⟨keep { a with defers := d :: a.defers } ⟨rfl, rfl⟩ _, ?_⟩
        rw [← Act.put_comm _ v undef h2, ← Act.put_defers]
        exact h
      case enter f args =>
        refine ⟨h.1, CallsIn.mono h.2 fun e w'' he => ?_⟩
        cases e with
        | returned u => exact ⟨keep a ⟨rfl, rfl⟩ u, by rw [← Act.put_comm a v u h2]; exact he⟩
        | panicked c => exact hQ _ _ _ he
        | outgrown => exact he
      case row row args => exact ⟨h.1, RowsIn.mono h.2 fun u w'' he => ⟨keep a ⟨rfl, rfl⟩ u, by rw [← Act.put_comm a v u h2]; exact he⟩⟩
      case round l f tmps assign body =>
        refine ⟨h.1, RoundIn.mono h.2 fun e w'' he => ?_⟩
        cases e with
        | returned u => exact ⟨keep a ⟨rfl, rfl⟩ u, by rw [← Act.put_comm a v u h2]; exact he⟩
        | panicked c => exact hQ _ _ _ he
        | outgrown => exact he
    | halt x w' =>
      cases x <;> simp only [Oper.uponIn] at h ⊢
      case panic u => exact hQ _ _ _ h
  · rename_i hw
    simp only [hw] at h
    exact ⟨fun f _ => fen_fn none f, keep a ⟨rfl, rfl⟩ _, by rw [← Act.put_comm a v undef h2]; exact h.2⟩

def wpAnyS (P : Program) (ops : Array Oper) (Q : Exit → Act → World → Prop) (qt : Nat → Bool) (S : Nat → World → Prop) : Nat → Array Bool → Act → World → Prop
  | 0, listed, a, w => Region.ready .any ops listed = [] ∧ Q .normal a w
  | n + 1, listed, a, w =>
    (Region.ready .any ops listed = [] → Q .normal a w) ∧
    ∀ j ∈ Region.ready .any ops listed, wpOpIn (fen none) 0 P ops Q j (fun a' w' => (qt j = true → w' = w) ∧ (qt j = false → S j w') ∧ wpAnyS P ops Q qt S n (listed.setIfInBounds j true) a' w') a w

variable {Q : Exit → Act → World → Prop} {qt : Nat → Bool}
theorem wpAny_of_S {S : Nat → World → Prop} : ∀ (n : Nat) (listed : Array Bool) (a : Act) (w : World), wpAnyS P ops Q qt S n listed a w → wpAnyIn (fen none) 0 P .any ops Q n listed a w
  | 0, _, _, _, h => h
  | n + 1, _, _, _, h => ⟨h.1, fun i hi => wpOpIn_mono (fun a' w' h' => wpAny_of_S n _ a' w' h'.2.2) (h.2 i hi)⟩
theorem wpAnyS_mono {S S' : Nat → World → Prop} (hs : ∀ j w, S j w → S' j w) : ∀ (n : Nat) (listed : Array Bool) (a : Act) (w : World), wpAnyS P ops Q qt S n listed a w → wpAnyS P ops Q qt S' n listed a w
  | 0, _, _, _, h => h
  | n + 1, _, _, _, h => ⟨h.1, fun i hi => wpOpIn_mono (fun a' w' h' => ⟨h'.1, fun q => hs _ _ (h'.2.1 q), wpAnyS_mono hs n _ a' w' h'.2.2⟩) (h.2 i hi)⟩

def Yl (P : Program) (ops : Array Oper) (oi : Oper) (v : Value) (a : Act) (w : World) : Prop :=
  if Region.wanted oi (yielded ops a.tmps) then ex P (execOp a.eval oi) w (fun v' w' => v' = v ∧ w' = w) else v = undef

theorem wpOp_Yl {i : Nat} {oi : Oper} {v : Value} {a : Act} {w : World} (hi : ops[i]? = some oi) (h : Yl P ops oi v a w) {K : Act → World → Prop} (hk : K (a.put oi.dst v) w) : wpOpIn (fen none) 0 P ops Q i K a w := by
  unfold wpOpIn
  simp only [hi]
  unfold Yl at h
  split
  · rename_i hw
    rw [if_pos hw] at h
    exact wp_of_ex h fun v' w' ⟨h1, h2⟩ => by subst h1; subst h2; exact hk
  · rename_i hw
    rw [if_neg hw] at h
    subst h
    exact ⟨fun f _ => fen_fn none f, hk⟩

theorem wpAnyS_first {N i : Nat} {oi : Oper} {v : Value} {S S' : Nat → World → Prop} {T : World → Prop} (hi : ops[i]? = some oi) (hqi : qt i = true) (hsel : ∀ (j : Nat) (o : Oper) cs b, ops[j]? = some o → o.op ≠ .select cs b)
    (hQ : ∀ c a w, Q (.panic c) (a.put oi.dst v) w → Q (.panic c) a w) (hST : ∀ j w, anc ops N i j = false → S j w → T w) (hSS : ∀ j w, S j w → S' j w) :
    ∀ (n : Nat) (listed : Array Bool) (a : Act) (w : World), Down ops listed →
      (∀ j oj, ops[j]? = some oj → j ≠ i → listed.getD j true = false → (∀ e ∈ oj.after, Region.binds .any e = true → e.on ≠ i) → oi.apart ops oj = true) →
      i ∈ Region.ready .any ops listed → (∀ w, T w → Yl P ops oi v a w) → T w →
      wpAnyS P ops Q qt S n (listed.setIfInBounds i true) (a.put oi.dst v) w → wpAnyS P ops Q qt S' (n + 1) listed a w := by
  intro n
  induction n with
  | zero =>
    intro listed a w hd _ hr hy hT H
    refine ⟨fun h => (by rw [h] at hr; cases hr), fun j hj => ?_⟩
    by_cases hji : j = i
    · subst hji; exact wpOp_Yl hi (hy w hT) ⟨fun _ => rfl, fun q => absurd (hqi.symm.trans q) (by simp), H⟩
    · have := ready_mono hj hji
      rw [H.1] at this
      cases this
  | succ n ih =>
    intro listed a w hd hfree hr hy hT H
    refine ⟨fun h => (by rw [h] at hr; cases hr), fun j hj => ?_⟩
    by_cases hji : j = i
    · subst hji; exact wpOp_Yl hi (hy w hT) ⟨fun _ => rfl, fun q => absurd (hqi.symm.trans q) (by simp), wpAnyS_mono hSS _ _ _ _ H⟩
    · have h1 := H.2 j (ready_mono hj hji)
      obtain ⟨hjun, oj, hoj, hall⟩ := mem_ready.1 hj
      have hiun : listed.getD i true = false := (mem_ready.1 hr).1
      have hif : listed.getD i false = false := by
        rw [Array.getD_eq_getD_getElem?] at hiun ⊢
        cases hx : listed[i]? <;> simp_all
      have hnot : ∀ e ∈ oj.after, Region.binds .any e = true → e.on ≠ i := fun e he hb heq => by
        have h1 := hall e he hb
        rw [heq, hif] at h1
        cases h1
      have hanc : anc ops N i j = false := by
        cases ha : anc ops N i j with
        | false => rfl
        | true => have := anc_listed hd N i j (.inl hj) ha; rw [hif] at this; cases this
      have h2 := wpOp_comm hoj (hfree j oj hoj hji hjun hnot) (fun cs b => hsel i oi cs b hi) (fun cs b => hsel j oj cs b hoj) hQ h1
      have hfree' : ∀ k ok, ops[k]? = some ok → k ≠ i → (listed.setIfInBounds j true).getD k true = false →
          (∀ e ∈ ok.after, Region.binds .any e = true → e.on ≠ i) → oi.apart ops ok = true := fun k ok hk hki hun hno => by
        refine hfree k ok hk hki ?_ hno
        by_cases hjk : j = k
        · subst hjk; exact hjun
        · rw [getD_set_ne true hjk] at hun; exact hun
      refine wpOpIn_mono (fun a' w' h3 => ⟨h3.2.1, fun q => hSS _ _ (h3.2.2.1 q), ?_⟩) h2
      obtain ⟨⟨e1, e2⟩, h4, h5, h6⟩ := h3
      refine ih (listed.setIfInBounds j true) a' w' (hd.set hj) hfree' (ready_mono hr (Ne.symm hji)) (fun w3 h7 => ?_) ?_ ?_
      · have := hy w3 h7
        unfold Yl at this ⊢
        rw [e1, e2]
        exact this
      · cases hq : qt j with
        | true => rw [h4 hq]; exact hT
        | false => exact hST j w' hanc (h5 hq)
      · rw [Array.setIfInBounds_comm _ _ hji]
        exact h6

def quietAt (P : Program) (ops : Array Oper) (i : Nat) : Bool := match ops[i]? with | some o => quiet P o | none => false

def owed (ops : Array Oper) (j : Nat) (w : World) (rest : Prop) : List (Nat × (World → Prop)) → Prop
  | [] => rest
  | (i, T) :: l => match anc ops ops.size i j with
    | true => owed ops j w rest l
    | false => T w ∧ owed ops j w rest l

def allP : List Nat → (Nat → Prop) → Prop
  | [], _ => True
  | [i], f => f i
  | i :: j :: l, f => f i ∧ allP (j :: l) f
theorem allP_mem {f : Nat → Prop} : ∀ {l : List Nat}, allP l f → ∀ i ∈ l, f i
  | [], _, _, h => by cases h
  | [_], h, _, hi => by simp at hi; subst hi; exact h
  | a :: b :: l, h, i, hi => by
    cases hi with
    | head => exact h.1
    | tail _ hi => exact allP_mem (l := b :: l) h.2 i hi
def drawW (P : Program) (ops : Array Oper) (K : Ev → World → Prop) : Nat → Array Bool → List (Nat × (World → Prop)) → Ev → World → Prop
  | 0, _, _, ρ, w => K ρ w
  | n + 1, listed, tk, ρ, w =>
    match (Region.ready .any ops listed).find? (quietAt P ops) with
    | some i => match ops[i]? with
      | some o => gop P ops o ρ w fun v _ => drawW P ops K n (listed.setIfInBounds i true) (match reads o with | true => (i, fun w' => gop P ops o ρ w' fun v' w'' => v' = v ∧ w'' = w') :: tk | false => tk) (ρ.put o.dst v) w
      | none => False
    | none => match Region.ready .any ops listed with
      | [] => K ρ w
      | i :: l => allP (i :: l) fun i => match ops[i]? with
        | some o => gop P ops o ρ w fun v w' => owed ops i w' (drawW P ops K n (listed.setIfInBounds i true) tk (ρ.put o.dst v) w') tk
        | none => False

def sub (m A : Nat) : Bool := Nat.beq (m &&& A) m
theorem sub_spec {m A : Nat} (h : sub m A = true) : ∀ t, m.testBit t = true → A.testBit t = true := by
  intro t ht
  have := Nat.eq_of_beq_eq_true h
  rw [← this, Nat.testBit_and, Bool.and_eq_true] at ht
  exact ht.2

def drawOk (P : Program) (ops : Array Oper) (nt out : Nat) : Nat → Array Bool → Nat → Bool
  | 0, listed, A => (Region.ready .any ops listed).isEmpty && sub out A
  | n + 1, listed, A =>
    match (Region.ready .any ops listed).find? (quietAt P ops) with
    | some i => match ops[i]? with
      | some o => okD nt o.dst && sub (uses ops o) A && Region.free .any ops listed i && drawOk P ops nt out n (listed.setIfInBounds i true) (A ||| dbit o.dst)
      | none => false
    | none => match Region.ready .any ops listed with
      | [] => sub out A
      | i :: l => (i :: l).all fun i => match ops[i]? with
        | some o => okD nt o.dst && sub (uses ops o) A && drawOk P ops nt out n (listed.setIfInBounds i true) (A ||| dbit o.dst)
        | none => false

def SofT (ops : Array Oper) (tk : List (Nat × (World → Prop))) (j : Nat) (w : World) : Prop := ∀ x ∈ tk, anc ops ops.size x.1 j = false → x.2 w

theorem owed_spec {j : Nat} {w : World} {rest : Prop} : ∀ (l : List (Nat × (World → Prop))), owed ops j w rest l → SofT ops l j w ∧ rest
  | [], h => ⟨(fun _ h => by cases h), h⟩
  | (i, T) :: l, h => by
    unfold owed at h
    split at h
    · rename_i ha
      obtain ⟨h1, h2⟩ := owed_spec l h
      refine ⟨fun x hx hb => ?_, h2⟩
      cases hx with
      | head => rw [ha] at hb; cases hb
      | tail _ hx => exact h1 x hx hb
    · obtain ⟨h0, h⟩ := h
      obtain ⟨h1, h2⟩ := owed_spec l h
      refine ⟨fun x hx hb => ?_, h2⟩
      cases hx with
      | head => exact h0
      | tail _ hx => exact h1 x hx hb

theorem gop_Yl {n m : Nat} {a : Act} {ρ : Ev} {o : Oper} {v : Value} {w : World} (ha : AgrD ds n m a ρ) (hs : noSel o = true) (hu : ∀ t, (uses ops o).testBit t = true → m.testBit t = true)
    (h : gop P ops o ρ w fun v' w' => v' = v ∧ w' = w) : Yl P ops o v a w := by
  have e : execOp a.eval o = execOp ρ.opd o := execOp_congr o (noSel_spec hs) (by
    intro x hx
    exact ha.opd (l := o.op.operands.toList) (fun t ht => hu t (by simp [uses, ht])) x (by simpa using hx))
  unfold Yl
  unfold gop at h
  split at h
  · rename_i hg
    rw [if_pos (by simp [Region.wanted, hg]), e]
    exact semOp_sound (fun _ => rfl) (fun _ => rfl) o h
  · rename_i j want hg
    rw [wanted_gval hg ha (fun t ht => hu t (by simp [uses, ht]))]
    obtain ⟨h1, h2⟩ := h
    cases hw : wantd (gval ops ρ j) want with
    | true => rw [if_pos rfl, e]; exact semOp_sound (fun _ => rfl) (fun _ => rfl) o (h1 hw)
    | false => rw [if_neg (by simp)]; exact (h2 hw).1.symm

theorem draw_sound {K : Ev → World → Prop} {nt out W : Nat} {ρ0 : Ev} (hW : ∀ o ∈ ops, ∀ t, (dbit o.dst).testBit t = true → W.testBit t = true) (hs : ops.all noSel = true) (hQ : ∀ c a w, ¬ Q (.panic c) a w) (hk : ∀ ρ a w, AgrD ds nt out a ρ → Fr W ρ0 ρ → K ρ w → Q .normal a w) :
    ∀ (n : Nat) (listed : Array Bool) (tk : List (Nat × (World → Prop))) (A : Nat) (a : Act) (ρ : Ev) (w : World), Down ops listed → drawOk P ops nt out n listed A = true → AgrD ds nt A a ρ → Fr W ρ0 ρ →
      drawW P ops K n listed tk ρ w → wpAnyS P ops Q (quietAt P ops) (SofT ops tk) n listed a w := by
  have hsel : ∀ (j : Nat) (o : Oper) cs b, ops[j]? = some o → o.op ≠ .select cs b := fun j o cs b ho => by
    have hm : o ∈ ops := Array.mem_of_getElem? ho
    exact noSel_spec (by have := Array.all_eq_true_iff_forall_mem.1 hs o hm; exact this) cs b
  have hsel' : ∀ (j : Nat) (o : Oper), ops[j]? = some o → noSel o = true := fun j o ho => Array.all_eq_true_iff_forall_mem.1 hs o (Array.mem_of_getElem? ho)
  intro n
  induction n with
  | zero =>
    intro listed tk A a ρ w hd hok ha hfr h
    simp only [drawOk, Bool.and_eq_true, List.isEmpty_iff] at hok
    exact ⟨hok.1, hk ρ a w (ha.mono (sub_spec hok.2)) hfr h⟩
  | succ n ih =>
    intro listed tk A a ρ w hd hok ha hfr h
    unfold drawOk at hok
    unfold drawW at h
    cases hf : (Region.ready .any ops listed).find? (quietAt P ops) with
    | some i =>
      simp only [hf] at hok h
      have hir : i ∈ Region.ready .any ops listed := List.mem_of_find?_eq_some hf
      have hiq : quietAt P ops i = true := List.find?_some hf
      cases ho : ops[i]? with
      | none => rw [ho] at h; exact h.elim
      | some o =>
        simp only [ho, Bool.and_eq_true] at hok h
        obtain ⟨⟨⟨ho1, ho2⟩, ho3⟩, ho4⟩ := hok
        have hq : quiet P o = true := by simpa [quietAt, ho] using hiq
        obtain ⟨v, hv, h1, h2⟩ := gop_quiet hq h
        have ha' := (ha.put (v := v) (okD_spec ho1))
        have hH := ih _ _ _ (a.put o.dst v) (ρ.put o.dst v) w (hd.set hir) ho4 ha' (hfr.put v (hW o (Array.mem_of_getElem? ho))) hv
        cases hr : reads o with
        | false =>
          rw [hr] at hH
          exact wpAnyS_first (N := ops.size) (T := fun _ => True) ho hiq hsel (fun c a w hp => absurd hp (hQ _ _ _)) (fun _ _ _ _ => trivial) (fun _ _ h => h) n listed a w hd (Region.free_spec ho ho3) hir
            (fun w2 _ => gop_Yl ha (hsel' i o ho) (sub_spec ho2) (h2 hr w2)) trivial hH
        | true =>
          rw [hr] at hH
          refine wpAnyS_first (N := ops.size) (T := fun w' => gop P ops o ρ w' fun v' w'' => v' = v ∧ w'' = w') ho hiq hsel (fun c a w hp => absurd hp (hQ _ _ _)) (fun j w' hanc hS => hS (i, _) (List.mem_cons_self ..) hanc)
            (fun j w' hS x hx => hS x (List.mem_cons_of_mem _ hx)) n listed a w hd (Region.free_spec ho ho3) hir ?_ ?_ hH
          · intro w2 hT
            exact gop_Yl ha (hsel' i o ho) (sub_spec ho2) hT
          · exact h1
    | none =>
      simp only [hf] at hok h
      cases hr : Region.ready .any ops listed with
      | nil =>
        simp only [hr] at hok h
        exact ⟨fun _ => hk ρ a w (ha.mono (sub_spec hok)) hfr h, fun j hj => by rw [hr] at hj; cases hj⟩
      | cons i0 l0 =>
        simp only [hr] at hok h
        refine ⟨fun h0 => by (rw [hr] at h0; cases h0), fun i hi => ?_⟩
        have hir : i ∈ Region.ready .any ops listed := hi
        rw [hr] at hi
        replace h := allP_mem h i hi
        replace hok := List.all_eq_true.1 hok i hi
        have hiq : quietAt P ops i = false := by
          cases hx : quietAt P ops i with
          | false => rfl
          | true =>
            have := List.find?_eq_none.1 hf i hir
            rw [hx] at this
            exact absurd rfl this
        cases ho : ops[i]? with
        | none => rw [ho] at h; exact h.elim
        | some o =>
          simp only [ho, Bool.and_eq_true] at hok h
          obtain ⟨⟨ho1, ho2⟩, ho4⟩ := hok
          have hg := gop_sound (P := P) (ro := none) (ops := ops) (Q := Q) (next := fun a' w' => (quietAt P ops i = true → w' = w) ∧ (quietAt P ops i = false → SofT ops tk i w') ∧ wpAnyS P ops Q (quietAt P ops) (SofT ops tk) n (listed.setIfInBounds i true) a' w')
            ha (hsel' i o ho) (sub_spec ho2) h (fun v w' hv => ⟨fun q => by (rw [hiq] at q; cases q), fun _ => (owed_spec tk hv).1, ih _ _ _ _ _ _ (hd.set hir) ho4 (ha.put (okD_spec ho1)) (hfr.put v (hW o (Array.mem_of_getElem? ho))) (owed_spec tk hv).2⟩)
          unfold wpOpIn
          simp only [ho]
          split
          · rename_i hw; rw [if_pos hw] at hg; exact hg
          · rename_i hw; rw [if_neg hw] at hg; exact ⟨fun f _ => fen_fn none f, fun _ => trivial, hg.2⟩
end

end Go.E
end
section
namespace Go.E
open Go.RowKit
variable {ds : List Deferred}

def wrOps (l : List Oper) : Nat := l.foldr (fun o m => dbit o.dst ||| m) 0
def wr : Code → Nat
  | .region _ ops _ => wrOps ops.toList
  | .seq a b => wr a ||| wr b
  | .cond _ a b => wr a ||| wr b
  | .block _ a => wr a
  | .loop a => wr a
  | _ => 0
def lv (rl : Nat) : Code → (out : Nat) → (ex : Nat → Nat) → Nat
  | .skip, out, _ => out
  | .region _ ops _, out, _ => lvOps ops ops.toList out
  | .seq a b, out, ex => lv rl a (lv rl b out ex) ex
  | .cond c a b, out, ex => bitO c ||| (lv rl a out ex ||| lv rl b out ex)
  | .block id a, out, ex => lv rl a out (fun i => match Nat.beq i id with | true => out | false => ex i)
  | .exit id, _, ex => ex id
  | .loop a, _, ex => lv rl a 0 ex
  | .ret, _, _ => rl
  | _, _, _ => 0
def slots (n m : Nat) : List Nat := (List.range n).filter fun t => m.testBit t

theorem mem_slots {n m t : Nat} : t ∈ slots n m ↔ t < n ∧ m.testBit t = true := by simp [slots]

def exits (id : Nat) : Code → Nat
  | .exit i => match Nat.beq i id with | true => 1 | false => 0
  | .seq a b => exits id a + exits id b
  | .cond _ a b => exits id a + exits id b
  | .block _ a => exits id a
  | .loop a => exits id a
  | _ => 0
def ends : Code → Nat
  | .skip => 1
  | .region .. => 1
  | .seq a b => match ends a with | 0 => 0 | _ => ends b
  | .cond _ a b => ends a + ends b
  | .block id a => ends a + exits id a
  | _ => 0

structure KS where
  nrm : Ev → World → Prop
  ext : Nat → Ev → World → Prop
  ret : Ev → World → Prop

def jn (rest : List Value → World → Prop) (body : (List Value → World → Prop) → Prop) : Prop := body rest
def lp (init : List Value) (w : World) (body : List Value → World → (List Value → World → Prop) → Prop) : Prop :=
  ∃ (I : List Value → World → Prop) (μ : List Value → World → Nat), I init w ∧ ∀ vs w, vs.length = init.length → I vs w → body vs w (fun vs' w' => I vs' w' ∧ μ vs' w' < μ vs w)
def iff' (c : Value) (A B : Prop) : Prop := ∃ b, c = .bool b ∧ (b = true → A) ∧ (b = false → B)
def dr (w : World) (K : World → Prop) : Prop := K w.drew

def cw (P : Program) (nt rl : Nat) : Code → (out : Nat) → (ex : Nat → Nat) → KS → Ev → World → Prop
  | .skip, _, _, K, ρ, w => K.nrm ρ w
  | .region _ ops false, _, _, K, ρ, w => seqOps P ops K.nrm ops.toList ρ w
  | .region _ ops true, _, _, K, ρ, w => dr w fun w => drawW P ops K.nrm ops.size (Array.replicate ops.size false) [] ρ w
  | .seq a b, out, ex, K, ρ, w => cw P nt rl a (lv rl b out ex) ex { K with nrm := fun ρ' w' => cw P nt rl b out ex K ρ' w' } ρ w
  | .cond c a b, out, ex, K, ρ, w =>
    match Nat.ble (ends a + ends b) 1 with
    | true => iff' (ρ.opd c) (cw P nt rl a out ex K ρ w) (cw P nt rl b out ex K ρ w)
    | false =>
      jn (fun vs w' => K.nrm (ρ.over (slots nt ((wr a ||| wr b) &&& out)) vs) w') fun k =>
        iff' (ρ.opd c) (cw P nt rl a out ex { K with nrm := fun ρ' w' => k ((slots nt ((wr a ||| wr b) &&& out)).map ρ') w' } ρ w) (cw P nt rl b out ex { K with nrm := fun ρ' w' => k ((slots nt ((wr a ||| wr b) &&& out)).map ρ') w' } ρ w)
  | .block id a, out, ex, K, ρ, w =>
    match Nat.ble (ends a + exits id a) 1 with
    | true => cw P nt rl a out (fun i => match Nat.beq i id with | true => out | false => ex i) { K with ext := fun i => match Nat.beq i id with | true => K.nrm | false => K.ext i } ρ w
    | false =>
      jn (fun vs w' => K.nrm (ρ.over (slots nt (wr a &&& out)) vs) w') fun k =>
        cw P nt rl a out (fun i => match Nat.beq i id with | true => out | false => ex i)
          { K with nrm := fun ρ' w' => k ((slots nt (wr a &&& out)).map ρ') w', ext := fun i => match Nat.beq i id with | true => fun ρ' w' => k ((slots nt (wr a &&& out)).map ρ') w' | false => K.ext i } ρ w
  | .exit id, _, _, K, ρ, w => K.ext id ρ w
  | .loop a, out, ex, K, ρ, w =>
    lp ((slots nt (wr a &&& lv rl (.loop a) out ex)).map ρ) w fun vs w' again =>
      cw P nt rl a (lv rl (.loop a) out ex) ex { K with nrm := fun ρ' w'' => again ((slots nt (wr a &&& lv rl (.loop a) out ex)).map ρ') w'' } (ρ.over (slots nt (wr a &&& lv rl (.loop a) out ex)) vs) w'
  | .ret, _, _, K, ρ, w => K.ret ρ w
  | _, _, _, _, _, _ => False

def cwOk (P : Program) (nt rl : Nat) : Code → (out : Nat) → (ex : Nat → Nat) → Bool
  | .skip, _, _ => true
  | .region _ ops false, _, _ => ops.toList.all fun o => noSel o && okD nt o.dst
  | .region _ ops true, out, _ => ops.all noSel && (ops.toList.all fun o => okD nt o.dst) && drawOk P ops nt out ops.size (Array.replicate ops.size false) (lvOps ops ops.toList out)
  | .seq a b, out, ex => cwOk P nt rl a (lv rl b out ex) ex && cwOk P nt rl b out ex
  | .cond _ a b, out, ex => cwOk P nt rl a out ex && cwOk P nt rl b out ex
  | .block id a, out, ex => cwOk P nt rl a out (fun i => match Nat.beq i id with | true => out | false => ex i)
  | .exit _, _, _ => true
  | .loop a, out, ex => cwOk P nt rl a (lv rl (.loop a) out ex) ex && sub (lv rl a (lv rl (.loop a) out ex) ex) (lv rl (.loop a) out ex)
  | .ret, _, _ => true
  | _, _, _ => true

theorem idx_none : ∀ (ms : List Nat) (i t : Nat), t ∉ ms → idx t ms i = none
  | [], _, _, _ => rfl
  | m :: ms, i, t, h => by
    unfold idx
    cases hb : Nat.beq t m with
    | true => exact absurd (Nat.eq_of_beq_eq_true hb) (fun e => h (by simp [e]))
    | false => exact idx_none ms (i + 1) t (fun e => h (by simp [e]))
theorem idx_some : ∀ (ms : List Nat) (i t : Nat), t ∈ ms → ∃ j, idx t ms i = some (i + j) ∧ ms[j]? = some t
  | [], _, _, h => by cases h
  | m :: ms, i, t, h => by
    unfold idx
    cases hb : Nat.beq t m with
    | true => exact ⟨0, rfl, by rw [Nat.eq_of_beq_eq_true hb]; rfl⟩
    | false =>
      have h' : t ∈ ms := by
        cases h with
        | head => simp at hb
        | tail _ h => exact h
      obtain ⟨j, h1, h2⟩ := idx_some ms (i + 1) t h'
      refine ⟨j + 1, ?_, by simpa using h2⟩
      simp only [h1]
      congr 1
      omega
theorem over_not_mem (ms : List Nat) (vs : List Value) (ρ : Ev) (t : Nat) (h : t ∉ ms) : ρ.over ms vs t = ρ t := by
  simp only [Ev.over, idx_none ms 0 t h]
theorem over_map (ms : List Nat) (ρ ρ' : Ev) (t : Nat) (h : t ∈ ms) : ρ.over ms (ms.map ρ') t = ρ' t := by
  obtain ⟨j, h1, h2⟩ := idx_some ms 0 t h
  simp only [Ev.over, h1, Nat.zero_add]
  simp [h2]
theorem over_Fr {n m : Nat} (ms : List Nat) (h : ms = slots n m) (vs : List Value) (ρ : Ev) : Fr m ρ (ρ.over ms vs) := fun t ht =>
  over_not_mem ms vs ρ t (fun hm => by rw [h, mem_slots] at hm; rw [hm.2] at ht; cases ht)

theorem AgrD.over {n out W : Nat} {a : Act} {ρ ρ' : Ev} (h : AgrD ds n out a ρ') (hW : ∀ t, W.testBit t = true → t < n) (hf : Fr W ρ ρ') : AgrD ds n out a (ρ.over (slots n (W &&& out)) ((slots n (W &&& out)).map ρ')) := by
  refine ⟨h.1, h.2.1, fun t ht => ?_⟩
  by_cases hm : t ∈ slots n (W &&& out)
  · rw [over_map _ _ _ _ hm]; exact h.2.2 t ht
  · rw [over_not_mem _ _ _ _ hm]
    cases hw : W.testBit t with
    | false => rw [← hf t hw]; exact h.2.2 t ht
    | true => exact absurd (mem_slots.2 ⟨hW t hw, by simp [Nat.testBit_and, hw, ht]⟩) hm

theorem wrOps_spec {l : List Oper} {o : Oper} (h : o ∈ l) : ∀ t, (dbit o.dst).testBit t = true → (wrOps l).testBit t = true := by
  intro t ht
  induction l with
  | nil => cases h
  | cons x l ih =>
    simp only [wrOps, List.foldr_cons, Nat.testBit_or, Bool.or_eq_true]
    cases h with
    | head => exact .inl ht
    | tail _ h => exact .inr (ih h)
theorem wrOps_lt {n : Nat} : ∀ {l : List Oper}, l.all (fun o => okD n o.dst) = true → ∀ t, (wrOps l).testBit t = true → t < n
  | [], _, t, h => by simp [wrOps] at h
  | o :: l, hs, t, h => by
    simp only [List.all_cons, Bool.and_eq_true] at hs
    simp only [wrOps, List.foldr_cons, Nat.testBit_or, Bool.or_eq_true] at h
    rcases h with h | h
    · cases hd : o.dst with
      | none => rw [hd] at h; simp [dbit] at h
      | some d =>
        rw [hd] at h
        simp only [dbit, two_pow_bit, decide_eq_true_eq] at h
        subst h
        exact okD_spec hs.1 _ hd
    · exact wrOps_lt hs.2 t h

theorem wr_lt {P : Program} {nt rl : Nat} : ∀ (c : Code) (out : Nat) (ex : Nat → Nat), cwOk P nt rl c out ex = true → ∀ t, (wr c).testBit t = true → t < nt
  | .region _ ops d, out, ex, h, t, ht => by
    cases d with
    | false =>
      refine wrOps_lt (l := ops.toList) ?_ t ht
      simp only [cwOk, List.all_eq_true, Bool.and_eq_true] at h ⊢
      exact fun o ho => (h o ho).2
    | true =>
      simp only [cwOk, Bool.and_eq_true] at h
      exact wrOps_lt h.1.2 t ht
  | .seq a b, out, ex, h, t, ht => by
    simp only [cwOk, Bool.and_eq_true] at h
    simp only [wr, Nat.testBit_or, Bool.or_eq_true] at ht
    rcases ht with ht | ht
    · exact wr_lt a _ _ h.1 t ht
    · exact wr_lt b _ _ h.2 t ht
  | .cond _ a b, out, ex, h, t, ht => by
    simp only [cwOk, Bool.and_eq_true] at h
    simp only [wr, Nat.testBit_or, Bool.or_eq_true] at ht
    rcases ht with ht | ht
    · exact wr_lt a _ _ h.1 t ht
    · exact wr_lt b _ _ h.2 t ht
  | .block _ a, out, ex, h, t, ht => wr_lt a _ _ h t ht
  | .loop a, out, ex, h, t, ht => by
    simp only [cwOk, Bool.and_eq_true] at h
    exact wr_lt a _ _ h.1 t ht
  | .skip, _, _, _, t, ht => by simp [wr] at ht
  | .exit _, _, _, _, t, ht => by simp [wr] at ht
  | .ret, _, _, _, t, ht => by simp [wr] at ht
  | .label _, _, _, _, t, ht => by simp [wr] at ht
  | .goto _, _, _, _, t, ht => by simp [wr] at ht
  | .scope _, _, _, _, t, ht => by simp [wr] at ht
  | .refuse _, _, _, _, t, ht => by simp [wr] at ht
  | .rangeFunc .., _, _, _, t, ht => by simp [wr] at ht

def noP (Q : Exit → Act → World → Prop) : Exit → Act → World → Prop
  | .panic _, _, _ => False
  | e, a, w => Q e a w
theorem noP_imp {Q : Exit → Act → World → Prop} : ∀ (e : Exit) (a : Act) (w : World), noP Q e a w → Q e a w := fun e a w h => by
  cases e <;> first | exact h | exact (h : False).elim

theorem Down.start (ops : Array Oper) : Down ops (Array.replicate ops.size false) := by
  intro k o hk hl
  have hlt : k < ops.size := (Array.getElem?_eq_some_iff.1 hk).1
  simp [hlt] at hl

def noDraw : Code → Bool
  | .region _ _ d => !d
  | .seq a b => noDraw a && noDraw b
  | .cond _ a b => noDraw a && noDraw b
  | .block _ a => noDraw a
  | .loop a => noDraw a
  | _ => true

theorem cw_sound {P : Program} {ro : Option Nat} {nt rl : Nat} (hm : P.follows .mixedOrders = true) : ∀ (c : Code) (out : Nat) (ex : Nat → Nat) (K : KS) (ρ : Ev) (a : Act) (w : World) (Q : Exit → Act → World → Prop),
    (ro = none ∨ noDraw c = true) → cwOk P nt rl c out ex = true → AgrD ds nt (lv rl c out ex) a ρ →
    (∀ ρ' a' w', K.nrm ρ' w' → AgrD ds nt out a' ρ' → Fr (wr c) ρ ρ' → Q .normal a' w') →
    (∀ id ρ' a' w', K.ext id ρ' w' → AgrD ds nt (ex id) a' ρ' → Fr (wr c) ρ ρ' → Q (.exit id) a' w') →
    (∀ ρ' a' w', K.ret ρ' w' → AgrD ds nt rl a' ρ' → Q .ret a' w') →
    cw P nt rl c out ex K ρ w → c.wpIn (fen ro) 0 P Q a w
  | .skip, out, ex, K, ρ, a, w, Q, hd, _, ha, hn, _, _, h => wpIn_skip (hn _ _ _ h ha (Fr.refl _ _))
  | .exit id, out, ex, K, ρ, a, w, Q, hd, _, ha, _, hx, _, h => wpIn_exit (hx _ _ _ _ h ha (Fr.refl _ _))
  | .ret, out, ex, K, ρ, a, w, Q, hd, _, ha, _, _, hr, h => wpIn_ret (hr _ _ _ h ha)
  | .region id ops false, out, ex, K, ρ, a, w, Q, hd, hok, ha, hn, _, _, h =>
    wpIn_region_list (seqOps_sound (W := wrOps ops.toList) (ρ0 := ρ) (fun ρ' a' w' h1 h2 h3 => hn _ _ _ h3 h1 h2) ops.toList a ρ w (fun o ho => wrOps_spec ho) hok ha (Fr.refl _ _) h)
  | .region id ops true, out, ex, K, ρ, a, w, Q, hd, hok, ha, hn, _, _, h => by
    simp only [cwOk, Bool.and_eq_true] at hok
    obtain rfl : ro = none := hd.resolve_right (by simp [noDraw])
    refine Code.wpIn_mono noP_imp (wpIn_region_any hm (wpAny_of_S (qt := quietAt P ops) (S := SofT ops []) _ _ _ _ ?_))
    exact draw_sound (Q := noP Q) (W := wrOps ops.toList) (ρ0 := ρ) (fun o ho => wrOps_spec (by simpa using ho)) hok.1.1 (fun _ _ _ h => h) (fun ρ' a' w' h1 h2 h3 => hn _ _ _ h3 h1 h2) ops.size _ [] _ a ρ _ (Down.start ops) hok.2 ha (Fr.refl _ _) h
  | .seq x y, out, ex, K, ρ, a, w, Q, hd, hok, ha, hn, hx, hr, h => by
    have hdx : ro = none ∨ noDraw x = true := hd.imp (fun h => h) (fun h => by simp only [noDraw, Bool.and_eq_true] at h; exact h.1)
    have hdy : ro = none ∨ noDraw y = true := hd.imp (fun h => h) (fun h => by simp only [noDraw, Bool.and_eq_true] at h; exact h.2)
    simp only [cwOk, Bool.and_eq_true] at hok
    refine wpIn_seq (cw_sound hm x _ ex _ ρ a w _ hdx hok.1 ha ?_ ?_ ?_ h)
    · intro ρ1 a1 w1 h1 ha1 hf1
      refine cw_sound hm y out ex K ρ1 a1 w1 Q hdy hok.2 ha1 ?_ ?_ hr h1
      · intro ρ2 a2 w2 h2 ha2 hf2
        exact hn _ _ _ h2 ha2 (hf1.trans hf2)
      · intro id ρ2 a2 w2 h2 ha2 hf2
        exact hx _ _ _ _ h2 ha2 (hf1.trans hf2)
    · intro id ρ1 a1 w1 h1 ha1 hf1
      exact hx _ _ _ _ h1 ha1 (hf1.mono fun t ht => by simp [wr, ht])
    · exact hr
  | .cond c x y, out, ex, K, ρ, a, w, Q, hd, hok, ha, hn, hx, hr, h => by
    have hdx : ro = none ∨ noDraw x = true := hd.imp (fun h => h) (fun h => by simp only [noDraw, Bool.and_eq_true] at h; exact h.1)
    have hdy : ro = none ∨ noDraw y = true := hd.imp (fun h => h) (fun h => by simp only [noDraw, Bool.and_eq_true] at h; exact h.2)
    have hwl := wr_lt (.cond c x y) out ex hok
    simp only [cwOk, Bool.and_eq_true] at hok
    have hax : AgrD ds nt (lv rl x out ex) a ρ := ha.mono fun t ht => by simp [lv, ht]
    have hay : AgrD ds nt (lv rl y out ex) a ρ := ha.mono fun t ht => by simp [lv, ht]
    have hc : a.eval c = ρ.opd c := ha.opd (l := [c]) (fun t ht => by
      simp only [bitsO, List.foldr_cons, List.foldr_nil, Nat.or_zero] at ht
      simp [lv, ht]) c (by simp)
    unfold cw at h
    split at h
    · obtain ⟨b, hb, h1, h2⟩ := h
      refine wpIn_cond_split (t := b) (hc.trans hb) (fun e => ?_) (fun e => ?_)
      · exact cw_sound hm x out ex K ρ a w Q hdx hok.1 hax (fun _ _ _ k1 k2 k3 => hn _ _ _ k1 k2 (k3.mono fun t ht => by simp [wr, ht])) (fun _ _ _ _ k1 k2 k3 => hx _ _ _ _ k1 k2 (k3.mono fun t ht => by simp [wr, ht])) hr (h1 e)
      · exact cw_sound hm y out ex K ρ a w Q hdy hok.2 hay (fun _ _ _ k1 k2 k3 => hn _ _ _ k1 k2 (k3.mono fun t ht => by simp [wr, ht])) (fun _ _ _ _ k1 k2 k3 => hx _ _ _ _ k1 k2 (k3.mono fun t ht => by simp [wr, ht])) hr (h2 e)
    · obtain ⟨b, hb, h1, h2⟩ := h
      have hn' : ∀ ρ' a' w', K.nrm (ρ.over (slots nt ((wr x ||| wr y) &&& out)) ((slots nt ((wr x ||| wr y) &&& out)).map ρ')) w' → AgrD ds nt out a' ρ' → Fr (wr x ||| wr y) ρ ρ' → Q .normal a' w' := fun ρ' a' w' k1 k2 k3 =>
        hn _ _ _ k1 (k2.over hwl k3) ((over_Fr _ rfl _ _).mono fun t ht => by simp only [Nat.testBit_and, Bool.and_eq_true] at ht; exact ht.1)
      refine wpIn_cond_split (t := b) (hc.trans hb) (fun e => ?_) (fun e => ?_)
      · refine cw_sound hm x out ex _ ρ a w Q hdx hok.1 hax ?_ ?_ ?_ (h1 e)
        · exact fun ρ' a' w' k1 k2 k3 => hn' ρ' a' w' k1 k2 (k3.mono fun t ht => by simp [ht])
        · exact fun _ _ _ _ k1 k2 k3 => hx _ _ _ _ k1 k2 (k3.mono fun t ht => by simp [wr, ht])
        · exact hr
      · refine cw_sound hm y out ex _ ρ a w Q hdy hok.2 hay ?_ ?_ ?_ (h2 e)
        · exact fun ρ' a' w' k1 k2 k3 => hn' ρ' a' w' k1 k2 (k3.mono fun t ht => by simp [ht])
        · exact fun _ _ _ _ k1 k2 k3 => hx _ _ _ _ k1 k2 (k3.mono fun t ht => by simp [wr, ht])
        · exact hr
  | .block id x, out, ex, K, ρ, a, w, Q, hd, hok, ha, hn, hx, hr, h => by
    have hdx : ro = none ∨ noDraw x = true := hd.imp (fun h => h) (fun h => by simpa only [noDraw] using h)
    have hwl := wr_lt (.block id x) out ex hok
    unfold cw at h
    split at h
    · refine wpIn_block ?_
      refine cw_sound hm x out _ _ ρ a w _ hdx hok ha ?_ ?_ ?_ h
      · exact fun _ _ _ k1 k2 k3 => hn _ _ _ k1 k2 k3
      rotate_left
      · exact hr
      intro i ρ' a' w' k1 k2 k3
      show Exit.inBlock id Q (.exit i) a' w'
      simp only [Exit.inBlock]
      cases hb : Nat.beq i id with
      | true =>
        rw [if_pos (Nat.eq_of_beq_eq_true hb)]
        simp only [hb] at k1 k2
        exact hn _ _ _ k1 k2 k3
      | false =>
        rw [if_neg (fun e => by rw [e, Nat.beq_refl] at hb; cases hb)]
        simp only [hb] at k1 k2
        exact hx _ _ _ _ k1 k2 k3
    · have hn' : ∀ ρ' a' w', K.nrm (ρ.over (slots nt (wr x &&& out)) ((slots nt (wr x &&& out)).map ρ')) w' → AgrD ds nt out a' ρ' → Fr (wr x) ρ ρ' → Q .normal a' w' := fun ρ' a' w' k1 k2 k3 =>
        hn _ _ _ k1 (k2.over hwl k3) ((over_Fr _ rfl _ _).mono fun t ht => by simp only [Nat.testBit_and, Bool.and_eq_true] at ht; exact ht.1)
      refine wpIn_block ?_
      refine cw_sound hm x out _ _ ρ a w _ hdx hok ha ?_ ?_ ?_ h
      · exact fun ρ' a' w' k1 k2 k3 => hn' ρ' a' w' k1 k2 k3
      rotate_left
      · exact hr
      intro i ρ' a' w' k1 k2 k3
      show Exit.inBlock id Q (.exit i) a' w'
      simp only [Exit.inBlock]
      cases hb : Nat.beq i id with
      | true =>
        rw [if_pos (Nat.eq_of_beq_eq_true hb)]
        simp only [hb] at k1 k2
        exact hn' _ _ _ k1 k2 k3
      | false =>
        rw [if_neg (fun e => by rw [e, Nat.beq_refl] at hb; cases hb)]
        simp only [hb] at k1 k2
        exact hx _ _ _ _ k1 k2 k3
  | .loop x, out, ex, K, ρ, a, w, Q, hd, hok, ha, hn, hx, hr, h => by
    have hdx : ro = none ∨ noDraw x = true := hd.imp (fun h => h) (fun h => by simpa only [noDraw] using h)
    have hwl := wr_lt (.loop x) out ex hok
    simp only [cwOk, Bool.and_eq_true] at hok
    obtain ⟨I, μ, h0, hround⟩ := h
    generalize hL : lv rl (.loop x) out ex = L at *
    generalize hms : slots nt (wr x &&& L) = ms at *
    have hmem : ∀ t, t ∈ ms → L.testBit t = true := fun t ht => by
      rw [← hms, mem_slots, Nat.testBit_and, Bool.and_eq_true] at ht
      exact ht.2.2
    have hvs : ∀ {a' : Act} {ρ' : Ev}, AgrD ds nt L a' ρ' → ms.map (fun t => a'.tmps.getD t undef) = ms.map ρ' := fun h1 =>
      List.map_congr_left fun t ht => h1.2.2 t (hmem t ht)
    refine wpIn_loop (fun a' w' => I (ms.map fun t => a'.tmps.getD t undef) w' ∧ AgrD ds nt L a' (ρ.over ms (ms.map fun t => a'.tmps.getD t undef))) (fun a' w' => μ (ms.map fun t => a'.tmps.getD t undef) w') ?_ ?_
    · refine ⟨by rw [hvs ha]; exact h0, ?_⟩
      rw [hvs ha]
      have := ha.over (W := wr x) (ρ := ρ) hwl (Fr.refl (wr x) ρ)
      rw [hms] at this
      exact this
    · intro a1 w1 ⟨h1, ha1⟩
      have hb := hround (ms.map fun t => a1.tmps.getD t undef) w1 (by simp) h1
      have hfo : Fr (wr x) ρ (ρ.over ms (ms.map fun t => a1.tmps.getD t undef)) := (over_Fr ms hms.symm _ _).mono fun t ht => by simp only [Nat.testBit_and, Bool.and_eq_true] at ht; exact ht.1
      refine cw_sound hm x L ex _ _ a1 w1 _ hdx hok.1 (ha1.mono (sub_spec hok.2)) ?_ ?_ ?_ hb
      rotate_right
      · exact hr
      · intro ρ' a' w' ⟨k1, k1'⟩ k2 k3
        have k4 : Fr (wr x) ρ ρ' := (hfo.trans k3).mono fun t ht => by simpa using ht
        refine ⟨⟨by rw [hvs k2]; exact k1, ?_⟩, by rw [hvs k2]; exact k1'⟩
        rw [hvs k2]
        have := k2.over (W := wr x) hwl k4
        rw [hms] at this
        exact this
      · intro id ρ' a' w' k1 k2 k3
        exact hx _ _ _ _ k1 k2 ((hfo.trans k3).mono fun t ht => by simpa [wr] using ht)
  | .label _, _, _, _, _, _, _, _, _, _, _, _, _, _, h => (h : False).elim
  | .goto _, _, _, _, _, _, _, _, _, _, _, _, _, _, h => (h : False).elim
  | .scope _, _, _, _, _, _, _, _, _, _, _, _, _, _, h => (h : False).elim
  | .refuse _, _, _, _, _, _, _, _, _, _, _, _, _, _, h => (h : False).elim
  | .rangeFunc .., _, _, _, _, _, _, _, _, _, _, _, _, _, h => (h : False).elim

def Ev.init (args : Array Value) : Ev := fun t => args.getD t undef
def retV (rs : List Nat) (ρ : Ev) : Value :=
  match rs with
  | [t] => ρ t
  | _ => .tuple (rs.map ρ).toArray

theorem run_results {P : Program} {fn : Func} {rs : List Nat} (hr : fn.results = (rs.map ResultVar.tmp).toArray) {nt m : Nat} {a : Act} {ρ : Ev} (ha : AgrD ds nt m a ρ) (hm : ∀ t ∈ rs, m.testBit t = true) (w : World) :
    (results fn a.tmps).run P w = .ok (retV rs ρ) w := by
  have h1 : ∀ (g : ResultVar → Sem Value), (∀ t, g (.tmp t) = pure (a.tmps.getD t undef)) → ∀ l : List Nat, (∀ t ∈ l, m.testBit t = true) → ((l.map ResultVar.tmp).mapM g).run P w = .ok (l.map ρ) w := by
    intro g hg l
    induction l with
    | nil => intro _; simp
    | cons t l ih =>
      intro hl
      simp only [List.map_cons, List.mapM_cons, Sem.run_bind, hg, Sem.run_pure, Result.andThen_ok, ih (fun u hu => hl u (by simp [hu])), ha.2.2 t (hl t (by simp))]
  unfold results
  rw [hr, Array.mapM_eq_mapM_toList]
  simp only [Sem.run_bind, Sem.run_map]
  rw [h1 _ (fun t => rfl) rs hm]
  simp only [Result.andThen_ok, Sem.run_pure]
  congr 1
  unfold retV
  match rs with
  | [] => rfl
  | [t] => rfl
  | t :: u :: l => simp

def bitsL (l : List Nat) : Nat := l.foldr (fun t m => 2 ^ t ||| m) 0
theorem bitsL_mem {l : List Nat} {t : Nat} (h : t ∈ l) : (bitsL l).testBit t = true := by
  induction l with
  | nil => cases h
  | cons x l ih =>
    simp only [bitsL, List.foldr_cons, Nat.testBit_or, Bool.or_eq_true]
    cases h with
    | head => left; simp
    | tail _ h => right; exact ih h

def fnW (P : Program) (nt : Nat) (rs : List Nat) (c : Code) (args : Array Value) (w : World) (K : KV) : Prop :=
  cw P nt (bitsL rs) c (bitsL rs) (fun _ => 0) ⟨fun ρ w => K (retV rs ρ) w, fun _ _ _ => False, fun ρ w => K (retV rs ρ) w⟩ (Ev.init args) w
def fnOk (P : Program) (nt : Nat) (rs : List Nat) (c : Code) : Bool := cwOk P nt (bitsL rs) c (bitsL rs) (fun _ => 0)

theorem calls_of_fnW {P : Program} {f : FuncId} {fn : Func} {c : Code} {args : Array Value} {w : World} {K : KV} {nt : Nat} {rs : List Nat} (hm : P.follows .mixedOrders = true)
    (hf : P.funcs[f]? = some fn) (hb : fn.body = some c) (hn : fn.ntmps = nt) (hr : fn.results = (rs.map ResultVar.tmp).toArray) (hargs : args.size ≤ nt) (hok : fnOk P nt rs c = true)
    (h : fnW P nt rs c args w K) : CallsR P f args w K := by
  refine calls_of_wp hf hb (wpIn_wide (n := 0).1 (cw_sound (ro := none) hm c _ _ _ (Ev.init args) _ w _ (.inl rfl) hok ⟨by simp [hn]; omega, rfl, fun t _ => ?_⟩ ?_ ?_ ?_ h))
  · simp only [Ev.init, Array.getD_eq_getD_getElem?, Array.getElem?_append]
    split
    · rfl
    · rename_i hge
      rw [Array.getElem?_eq_none (xs := args) (by omega)]
      cases hx : (Array.replicate (fn.ntmps - args.size) undef)[t - args.size]? with
      | none => rfl
      | some v =>
        simp only [Array.getElem?_replicate] at hx
        split at hx
        · cases hx; rfl
        · cases hx
  · intro ρ' a' w' k1 k2 _
    exact ⟨k2.2.1, _, run_results hr k2 (fun t ht => bitsL_mem ht) w', _, rfl, k1⟩
  · intro id ρ' a' w' k1
    exact k1.elim
  · intro ρ' a' w' k1 k2
    exact ⟨k2.2.1, _, run_results hr k2 (fun t ht => bitsL_mem ht) w', _, rfl, k1⟩

theorem calls_of_F {P : Program} {f : FuncId} {fn : Func} {args : Array Value} {w : World} {K : KV} {nt : Nat} {rs : List Nat} {F : Prop} (hm : P.follows .mixedOrders = true)
    (hf : P.funcs[f]? = some fn) (hs : (match fn.body with | some _ => true | none => false) = true) (hn : fn.ntmps = nt) (hr : fn.results = (rs.map ResultVar.tmp).toArray) (hargs : args.size ≤ nt)
    (hok : fnOk P nt rs (match fn.body with | some c => c | none => .skip) = true) (he : F = fnW P nt rs (match fn.body with | some c => c | none => .skip) args w K) (h : F) : CallsR P f args w K := by
  cases hb : fn.body with
  | none => rw [hb] at hs; cases hs
  | some c =>
    rw [hb] at hok he
    exact calls_of_fnW hm hf hb hn hr hargs hok (he ▸ h)

abbrev Again := List Value → World → Prop
def J0 (rest : World → Prop) (body : (World → Prop) → Prop) : Prop := body rest
def b0 (f : World → Again → Prop) : List Value → World → Again → Prop := fun _ w g => f w g
theorem J0.cut {rest : World → Prop} {body : (World → Prop) → Prop} (A : World → Prop) (h2 : ∀ k, (∀ w, A w → k w) → body k) (h1 : ∀ w, A w → rest w) : J0 rest body := h2 rest h1
theorem lp0 {w : World} {f : World → Again → Prop} (I : World → Prop) (μ : World → Nat) (h0 : I w)
    (hr : ∀ w (g : Again), I w → (∀ w', I w' → μ w' < μ w → g [] w') → f w g) : lp [] w (b0 f) := by
  refine ⟨fun vs w => vs = [] ∧ I w, fun _ w => μ w, ⟨rfl, h0⟩, ?_⟩
  rintro vs w _ ⟨rfl, hI⟩
  exact hr w _ hI fun w' k1 k2 => ⟨⟨rfl, k1⟩, k2⟩
def J1 (rest : Value → World → Prop) (body : (Value → World → Prop) → Prop) : Prop := body rest
def b1 (f : Value → World → Again → Prop) : List Value → World → Again → Prop := fun vs w g => f (vs.getD 0 undef) w g
theorem J1.cut {rest : Value → World → Prop} {body : (Value → World → Prop) → Prop} (A : Value → World → Prop) (h2 : ∀ k, (∀ x0 w, A x0 w → k x0 w) → body k) (h1 : ∀ x0 w, A x0 w → rest x0 w) : J1 rest body := h2 rest h1
theorem lp1 {x0 : Value} {w : World} {f : Value → World → Again → Prop} (I : Value → World → Prop) (μ : Value → World → Nat) (h0 : I x0 w)
    (hr : ∀ x0 w (g : Again), I x0 w → (∀ x0' w', I x0' w' → μ x0' w' < μ x0 w → g [x0'] w') → f x0 w g) : lp [x0] w (b1 f) := by
  refine ⟨fun vs w => ∃ x0, vs = [x0] ∧ I x0 w, fun vs w => μ (vs.getD 0 undef) w, ⟨x0, rfl, h0⟩, ?_⟩
  rintro vs w _ ⟨x0, rfl, hI⟩
  exact hr x0 w _ hI fun x0' w' k1 k2 => ⟨⟨x0', rfl, k1⟩, k2⟩
def J2 (rest : Value → Value → World → Prop) (body : (Value → Value → World → Prop) → Prop) : Prop := body rest
def b2 (f : Value → Value → World → Again → Prop) : List Value → World → Again → Prop := fun vs w g => f (vs.getD 0 undef) (vs.getD 1 undef) w g
theorem J2.cut {rest : Value → Value → World → Prop} {body : (Value → Value → World → Prop) → Prop} (A : Value → Value → World → Prop) (h2 : ∀ k, (∀ x0 x1 w, A x0 x1 w → k x0 x1 w) → body k) (h1 : ∀ x0 x1 w, A x0 x1 w → rest x0 x1 w) : J2 rest body := h2 rest h1
theorem lp2 {x0 x1 : Value} {w : World} {f : Value → Value → World → Again → Prop} (I : Value → Value → World → Prop) (μ : Value → Value → World → Nat) (h0 : I x0 x1 w)
    (hr : ∀ x0 x1 w (g : Again), I x0 x1 w → (∀ x0' x1' w', I x0' x1' w' → μ x0' x1' w' < μ x0 x1 w → g [x0', x1'] w') → f x0 x1 w g) : lp [x0, x1] w (b2 f) := by
  refine ⟨fun vs w => ∃ x0 x1, vs = [x0, x1] ∧ I x0 x1 w, fun vs w => μ (vs.getD 0 undef) (vs.getD 1 undef) w, ⟨x0, x1, rfl, h0⟩, ?_⟩
  rintro vs w _ ⟨x0, x1, rfl, hI⟩
  exact hr x0 x1 w _ hI fun x0' x1' w' k1 k2 => ⟨⟨x0', x1', rfl, k1⟩, k2⟩
def J3 (rest : Value → Value → Value → World → Prop) (body : (Value → Value → Value → World → Prop) → Prop) : Prop := body rest
def b3 (f : Value → Value → Value → World → Again → Prop) : List Value → World → Again → Prop := fun vs w g => f (vs.getD 0 undef) (vs.getD 1 undef) (vs.getD 2 undef) w g
theorem J3.cut {rest : Value → Value → Value → World → Prop} {body : (Value → Value → Value → World → Prop) → Prop} (A : Value → Value → Value → World → Prop) (h2 : ∀ k, (∀ x0 x1 x2 w, A x0 x1 x2 w → k x0 x1 x2 w) → body k) (h1 : ∀ x0 x1 x2 w, A x0 x1 x2 w → rest x0 x1 x2 w) : J3 rest body := h2 rest h1
theorem lp3 {x0 x1 x2 : Value} {w : World} {f : Value → Value → Value → World → Again → Prop} (I : Value → Value → Value → World → Prop) (μ : Value → Value → Value → World → Nat) (h0 : I x0 x1 x2 w)
    (hr : ∀ x0 x1 x2 w (g : Again), I x0 x1 x2 w → (∀ x0' x1' x2' w', I x0' x1' x2' w' → μ x0' x1' x2' w' < μ x0 x1 x2 w → g [x0', x1', x2'] w') → f x0 x1 x2 w g) : lp [x0, x1, x2] w (b3 f) := by
  refine ⟨fun vs w => ∃ x0 x1 x2, vs = [x0, x1, x2] ∧ I x0 x1 x2 w, fun vs w => μ (vs.getD 0 undef) (vs.getD 1 undef) (vs.getD 2 undef) w, ⟨x0, x1, x2, rfl, h0⟩, ?_⟩
  rintro vs w _ ⟨x0, x1, x2, rfl, hI⟩
  exact hr x0 x1 x2 w _ hI fun x0' x1' x2' w' k1 k2 => ⟨⟨x0', x1', x2', rfl, k1⟩, k2⟩
def J4 (rest : Value → Value → Value → Value → World → Prop) (body : (Value → Value → Value → Value → World → Prop) → Prop) : Prop := body rest
def b4 (f : Value → Value → Value → Value → World → Again → Prop) : List Value → World → Again → Prop := fun vs w g => f (vs.getD 0 undef) (vs.getD 1 undef) (vs.getD 2 undef) (vs.getD 3 undef) w g
theorem J4.cut {rest : Value → Value → Value → Value → World → Prop} {body : (Value → Value → Value → Value → World → Prop) → Prop} (A : Value → Value → Value → Value → World → Prop) (h2 : ∀ k, (∀ x0 x1 x2 x3 w, A x0 x1 x2 x3 w → k x0 x1 x2 x3 w) → body k) (h1 : ∀ x0 x1 x2 x3 w, A x0 x1 x2 x3 w → rest x0 x1 x2 x3 w) : J4 rest body := h2 rest h1
def J5 (rest : Value → Value → Value → Value → Value → World → Prop) (body : (Value → Value → Value → Value → Value → World → Prop) → Prop) : Prop := body rest
def b5 (f : Value → Value → Value → Value → Value → World → Again → Prop) : List Value → World → Again → Prop := fun vs w g => f (vs.getD 0 undef) (vs.getD 1 undef) (vs.getD 2 undef) (vs.getD 3 undef) (vs.getD 4 undef) w g
theorem J5.cut {rest : Value → Value → Value → Value → Value → World → Prop} {body : (Value → Value → Value → Value → Value → World → Prop) → Prop} (A : Value → Value → Value → Value → Value → World → Prop) (h2 : ∀ k, (∀ x0 x1 x2 x3 x4 w, A x0 x1 x2 x3 x4 w → k x0 x1 x2 x3 x4 w) → body k) (h1 : ∀ x0 x1 x2 x3 x4 w, A x0 x1 x2 x3 x4 w → rest x0 x1 x2 x3 x4 w) : J5 rest body := h2 rest h1
def J6 (rest : Value → Value → Value → Value → Value → Value → World → Prop) (body : (Value → Value → Value → Value → Value → Value → World → Prop) → Prop) : Prop := body rest
def b6 (f : Value → Value → Value → Value → Value → Value → World → Again → Prop) : List Value → World → Again → Prop := fun vs w g => f (vs.getD 0 undef) (vs.getD 1 undef) (vs.getD 2 undef) (vs.getD 3 undef) (vs.getD 4 undef) (vs.getD 5 undef) w g
theorem J6.cut {rest : Value → Value → Value → Value → Value → Value → World → Prop} {body : (Value → Value → Value → Value → Value → Value → World → Prop) → Prop} (A : Value → Value → Value → Value → Value → Value → World → Prop) (h2 : ∀ k, (∀ x0 x1 x2 x3 x4 x5 w, A x0 x1 x2 x3 x4 x5 w → k x0 x1 x2 x3 x4 x5 w) → body k) (h1 : ∀ x0 x1 x2 x3 x4 x5 w, A x0 x1 x2 x3 x4 x5 w → rest x0 x1 x2 x3 x4 x5 w) : J6 rest body := h2 rest h1
def J7 (rest : Value → Value → Value → Value → Value → Value → Value → World → Prop) (body : (Value → Value → Value → Value → Value → Value → Value → World → Prop) → Prop) : Prop := body rest
def b7 (f : Value → Value → Value → Value → Value → Value → Value → World → Again → Prop) : List Value → World → Again → Prop := fun vs w g => f (vs.getD 0 undef) (vs.getD 1 undef) (vs.getD 2 undef) (vs.getD 3 undef) (vs.getD 4 undef) (vs.getD 5 undef) (vs.getD 6 undef) w g
theorem J7.cut {rest : Value → Value → Value → Value → Value → Value → Value → World → Prop} {body : (Value → Value → Value → Value → Value → Value → Value → World → Prop) → Prop} (A : Value → Value → Value → Value → Value → Value → Value → World → Prop) (h2 : ∀ k, (∀ x0 x1 x2 x3 x4 x5 x6 w, A x0 x1 x2 x3 x4 x5 x6 w → k x0 x1 x2 x3 x4 x5 x6 w) → body k) (h1 : ∀ x0 x1 x2 x3 x4 x5 x6 w, A x0 x1 x2 x3 x4 x5 x6 w → rest x0 x1 x2 x3 x4 x5 x6 w) : J7 rest body := h2 rest h1
def J8 (rest : Value → Value → Value → Value → Value → Value → Value → Value → World → Prop) (body : (Value → Value → Value → Value → Value → Value → Value → Value → World → Prop) → Prop) : Prop := body rest
def b8 (f : Value → Value → Value → Value → Value → Value → Value → Value → World → Again → Prop) : List Value → World → Again → Prop := fun vs w g => f (vs.getD 0 undef) (vs.getD 1 undef) (vs.getD 2 undef) (vs.getD 3 undef) (vs.getD 4 undef) (vs.getD 5 undef) (vs.getD 6 undef) (vs.getD 7 undef) w g
theorem J8.cut {rest : Value → Value → Value → Value → Value → Value → Value → Value → World → Prop} {body : (Value → Value → Value → Value → Value → Value → Value → Value → World → Prop) → Prop} (A : Value → Value → Value → Value → Value → Value → Value → Value → World → Prop) (h2 : ∀ k, (∀ x0 x1 x2 x3 x4 x5 x6 x7 w, A x0 x1 x2 x3 x4 x5 x6 x7 w → k x0 x1 x2 x3 x4 x5 x6 x7 w) → body k) (h1 : ∀ x0 x1 x2 x3 x4 x5 x6 x7 w, A x0 x1 x2 x3 x4 x5 x6 x7 w → rest x0 x1 x2 x3 x4 x5 x6 x7 w) : J8 rest body := h2 rest h1
def J9 (rest : Value → Value → Value → Value → Value → Value → Value → Value → Value → World → Prop) (body : (Value → Value → Value → Value → Value → Value → Value → Value → Value → World → Prop) → Prop) : Prop := body rest
def b9 (f : Value → Value → Value → Value → Value → Value → Value → Value → Value → World → Again → Prop) : List Value → World → Again → Prop := fun vs w g => f (vs.getD 0 undef) (vs.getD 1 undef) (vs.getD 2 undef) (vs.getD 3 undef) (vs.getD 4 undef) (vs.getD 5 undef) (vs.getD 6 undef) (vs.getD 7 undef) (vs.getD 8 undef) w g
theorem J9.cut {rest : Value → Value → Value → Value → Value → Value → Value → Value → Value → World → Prop} {body : (Value → Value → Value → Value → Value → Value → Value → Value → Value → World → Prop) → Prop} (A : Value → Value → Value → Value → Value → Value → Value → Value → Value → World → Prop) (h2 : ∀ k, (∀ x0 x1 x2 x3 x4 x5 x6 x7 x8 w, A x0 x1 x2 x3 x4 x5 x6 x7 x8 w → k x0 x1 x2 x3 x4 x5 x6 x7 x8 w) → body k) (h1 : ∀ x0 x1 x2 x3 x4 x5 x6 x7 x8 w, A x0 x1 x2 x3 x4 x5 x6 x7 x8 w → rest x0 x1 x2 x3 x4 x5 x6 x7 x8 w) : J9 rest body := h2 rest h1
def J10 (rest : Value → Value → Value → Value → Value → Value → Value → Value → Value → Value → World → Prop) (body : (Value → Value → Value → Value → Value → Value → Value → Value → Value → Value → World → Prop) → Prop) : Prop := body rest
def b10 (f : Value → Value → Value → Value → Value → Value → Value → Value → Value → Value → World → Again → Prop) : List Value → World → Again → Prop := fun vs w g => f (vs.getD 0 undef) (vs.getD 1 undef) (vs.getD 2 undef) (vs.getD 3 undef) (vs.getD 4 undef) (vs.getD 5 undef) (vs.getD 6 undef) (vs.getD 7 undef) (vs.getD 8 undef) (vs.getD 9 undef) w g
theorem J10.cut {rest : Value → Value → Value → Value → Value → Value → Value → Value → Value → Value → World → Prop} {body : (Value → Value → Value → Value → Value → Value → Value → Value → Value → Value → World → Prop) → Prop} (A : Value → Value → Value → Value → Value → Value → Value → Value → Value → Value → World → Prop) (h2 : ∀ k, (∀ x0 x1 x2 x3 x4 x5 x6 x7 x8 x9 w, A x0 x1 x2 x3 x4 x5 x6 x7 x8 x9 w → k x0 x1 x2 x3 x4 x5 x6 x7 x8 x9 w) → body k) (h1 : ∀ x0 x1 x2 x3 x4 x5 x6 x7 x8 x9 w, A x0 x1 x2 x3 x4 x5 x6 x7 x8 x9 w → rest x0 x1 x2 x3 x4 x5 x6 x7 x8 x9 w) : J10 rest body := h2 rest h1
end Go.E
end
section
namespace Go.E
open Go.RowKit

abbrev Hp := Nat → Option Obj
abbrev HP := Hp → Prop
def hp (w : World) : Hp := fun b => w.heap[b]?
def Sub (h g : Hp) : Prop := ∀ b o, h b = some o → g b = some o
def Dis (h g : Hp) : Prop := ∀ b, h b = none ∨ g b = none

def SatH : List HP → Hp → Prop
  | [], _ => True
  | P :: l, h => ∃ h1 h2, Dis h1 h2 ∧ Sub h1 h ∧ Sub h2 h ∧ P h1 ∧ SatH l h2

theorem Sub.refl (h : Hp) : Sub h h := fun _ _ e => e
theorem Sub.trans {a b c : Hp} (h : Sub a b) (k : Sub b c) : Sub a c := fun x o e => k x o (h x o e)
theorem Dis.symm {a b : Hp} (h : Dis a b) : Dis b a := fun x => (h x).symm
theorem Dis.sub {a b c : Hp} (h : Dis a b) (k : Sub c b) : Dis a c := fun x => by
  cases hc : c x with
  | none => exact .inr rfl
  | some o =>
    rcases h x with h | h
    · exact .inl h
    · rw [k x o hc] at h; cases h

theorem SatH.up {l : List HP} {h g : Hp} (hl : SatH l h) (hs : Sub h g) : SatH l g := by
  cases l with
  | nil => trivial
  | cons P l =>
    obtain ⟨h1, h2, d, s1, s2, p, r⟩ := hl
    exact ⟨h1, h2, d, s1.trans hs, s2.trans hs, p, r⟩

theorem SatH.swap {P Q : HP} {l : List HP} {h : Hp} (hl : SatH (P :: Q :: l) h) : SatH (Q :: P :: l) h := by
  obtain ⟨h1, h2, d, s1, s2, p, g1, g2, d', t1, t2, q, r⟩ := hl
  let u : Hp := fun b => match h1 b with | some o => some o | none => g2 b
  have u1 : Sub h1 u := fun b o e => by simp only [u, e]
  have u2 : Sub g2 u := fun b o e => by
    rcases d b with k | k
    · simp only [u, k, e]
    · rw [t2 b o e] at k; cases k
  have uh : Sub u h := fun b o e => by
    simp only [u] at e
    cases hb : h1 b with
    | some o' => rw [hb] at e; simp only at e; cases e; exact s1 b _ hb
    | none => rw [hb] at e; exact s2 b o (t2 b o e)
  refine ⟨g1, u, fun b => ?_, t1.trans s2, uh, q, h1, g2, d.sub t2, u1, u2, p, r⟩
  cases hb : g1 b with
  | none => exact .inl rfl
  | some o =>
    refine .inr ?_
    simp only [u]
    rcases d b with k | k
    · rw [k]; rcases d' b with k' | k'
      · rw [hb] at k'; cases k'
      · exact k'
    · rw [t1 b o hb] at k; cases k

theorem SatH.perm {l l' : List HP} (hp : l.Perm l') : ∀ {h : Hp}, SatH l h → SatH l' h := by
  induction hp with
  | nil => exact fun h => h
  | cons P _ ih =>
    intro h ⟨h1, h2, d, s1, s2, p, r⟩
    exact ⟨h1, h2, d, s1, s2, p, ih r⟩
  | swap P Q l => exact fun h => h.swap
  | trans _ _ ih1 ih2 => exact fun h => ih2 (ih1 h)

theorem SatH.head_imp {P Q : HP} {l : List HP} {h : Hp} (hl : SatH (P :: l) h) (hi : ∀ g, P g → Q g) : SatH (Q :: l) h := by
  obtain ⟨h1, h2, d, s1, s2, p, r⟩ := hl
  exact ⟨h1, h2, d, s1, s2, hi _ p, r⟩
theorem SatH.tail {P : HP} {l : List HP} {h : Hp} (hl : SatH (P :: l) h) : SatH l h := by
  obtain ⟨h1, h2, d, s1, s2, p, r⟩ := hl
  exact r.up s2

def sepL (l : List HP) : HP := fun h => SatH l h
theorem SatH.append {l : List HP} : ∀ {k : List HP} {h : Hp}, SatH (sepL k :: l) h → SatH (k ++ l) h
  | [], h, hl => hl.tail
  | P :: k, h, hl => by
    obtain ⟨h1, h2, d, s1, s2, ⟨g1, g2, d', t1, t2, p, r'⟩, r⟩ := hl
    have : SatH (P :: sepL k :: l) h := by
      let u : Hp := fun b => match g2 b with | some o => some o | none => h2 b
      have u1 : Sub g2 u := fun b o e => by simp only [u, e]
      have u2 : Sub h2 u := fun b o e => by
        cases hb : g2 b with
        | none => simp only [u, hb, e]
        | some o' =>
          rcases d b with k | k
          · rw [t2 b o' hb] at k; cases k
          · rw [e] at k; cases k
      refine ⟨g1, u, fun b => ?_, t1.trans s1, fun b o e => ?_, p, g2, h2, ?_, u1, u2, r', r⟩
      · cases hb : g1 b with
        | none => exact .inl rfl
        | some o =>
          refine .inr ?_
          simp only [u]
          rcases d' b with k | k
          · rw [hb] at k; cases k
          · rw [k]
            rcases d b with k' | k'
            · rw [t1 b o hb] at k'; cases k'
            · exact k'
      · simp only [u] at e
        cases hb : g2 b with
        | some o' => rw [hb] at e; simp only at e; cases e; exact s1 b _ (t2 b _ hb)
        | none => rw [hb] at e; exact s2 b o e
      · exact (d.symm.sub t2).symm
    obtain ⟨h1, h2, d, s1, s2, p, r⟩ := this
    exact ⟨h1, h2, d, s1, s2, p, r.append⟩
theorem SatH.group {l : List HP} : ∀ {k : List HP} {h : Hp}, SatH (k ++ l) h → SatH (sepL k :: l) h
  | [], h, hl => ⟨fun _ => none, h, fun _ => .inl rfl, fun _ _ e => by (cases e), Sub.refl h, trivial, hl⟩
  | P :: k, h, hl => by
    obtain ⟨h1, h2, d, s1, s2, p, r⟩ := hl
    obtain ⟨g1, g2, d', t1, t2, q, r'⟩ := r.group
    let u : Hp := fun b => match h1 b with | some o => some o | none => g1 b
    have u1 : Sub h1 u := fun b o e => by simp only [u, e]
    have u2 : Sub g1 u := fun b o e => by
      rcases d b with k | k
      · simp only [u, k, e]
      · rw [t1 b o e] at k; cases k
    refine ⟨u, g2, fun b => ?_, fun b o e => ?_, t2.trans s2, ⟨h1, g1, d.sub t1, u1, u2, p, q⟩, r'⟩
    · cases hb : g2 b with
      | none => exact .inr rfl
      | some o =>
        refine .inl ?_
        simp only [u]
        rcases d b with k | k
        · rw [k]
          rcases d' b with k' | k'
          · exact k'
          · rw [hb] at k'; cases k'
        · rw [t2 b o hb] at k; cases k
    · simp only [u] at e
      cases hb : h1 b with
      | some o' => rw [hb] at e; simp only at e; cases e; exact s1 b _ hb
      | none => rw [hb] at e; exact s2 b o (t1 b o e)

structure Sat (e w : World) (l : List HP) : Prop where
  os : w.os = e.os
  tape : w.tape = e.tape
  output : w.output = e.output
  drawn : e.drawn ≤ w.drawn
  size : e.heap.size ≤ w.heap.size
  mem : SatH l (hp w)

section
variable {e w : World} {l l' : List HP} {P Q : HP}
theorem Sat.of_mem (h : Sat e w l) (k : SatH l (hp w) → SatH l' (hp w)) : Sat e w l' := ⟨h.os, h.tape, h.output, h.drawn, h.size, k h.mem⟩
theorem Sat.perm (h : Sat e w l) (p : l.Perm l') : Sat e w l' := h.of_mem fun m => m.perm p
theorem Sat.swap (h : Sat e w (P :: Q :: l)) : Sat e w (Q :: P :: l) := h.of_mem fun m => m.swap
theorem Sat.drop (h : Sat e w (P :: l)) : Sat e w l := h.of_mem fun m => m.tail
theorem Sat.imp (h : Sat e w (P :: l)) (k : ∀ g, P g → Q g) : Sat e w (Q :: l) := h.of_mem fun m => m.head_imp k
theorem pick_perm : ∀ (l : List HP) (i : Nat) (P : HP), l[i]? = some P → l.Perm (P :: l.eraseIdx i)
  | [], i, P, h => by simp at h
  | Q :: l, 0, P, h => by
    simp at h
    subst h
    exact List.Perm.refl _
  | Q :: l, i + 1, P, h => by
    simp only [List.getElem?_cons_succ] at h
    simp only [List.eraseIdx_cons_succ]
    exact ((pick_perm l i P h).cons Q).trans (List.Perm.swap _ _ _)
theorem Sat.pick (h : Sat e w l) (i : Nat) (hi : l[i]? = some P) : Sat e w (P :: l.eraseIdx i) := h.perm (pick_perm l i P hi)
theorem set_perm : ∀ (l : List HP) (i : Nat) (P Q : HP), l[i]? = some P → (Q :: l.eraseIdx i).Perm (l.set i Q)
  | [], i, P, Q, h => by simp at h
  | R :: l, 0, P, Q, h => List.Perm.refl _
  | R :: l, i + 1, P, Q, h => by
    simp only [List.getElem?_cons_succ] at h
    simp only [List.eraseIdx_cons_succ, List.set_cons_succ]
    exact (List.Perm.swap _ _ _).trans ((set_perm l i P Q h).cons R)
theorem Sat.split (h : Sat e w (sepL l' :: l)) : Sat e w (l' ++ l) := h.of_mem fun m => m.append
theorem Sat.join (h : Sat e w (l' ++ l)) : Sat e w (sepL l' :: l) := h.of_mem fun m => m.group

theorem SatH.parts : ∀ {l : List HP} {h : Hp}, SatH l h → ∃ hs : Nat → Hp, (∀ i j, i ≠ j → Dis (hs i) (hs j)) ∧ (∀ i, Sub (hs i) h) ∧ ∀ (i : Nat) (P : HP), l[i]? = some P → P (hs i)
  | [], h, _ => ⟨fun _ _ => none, fun _ _ _ _ => .inl rfl, fun _ _ _ e => (by cases e), fun i P e => by simp at e⟩
  | P :: l, h, ⟨h1, h2, d, s1, s2, p, r⟩ => by
    obtain ⟨hs, k1, k2, k3⟩ := r.parts
    refine ⟨fun i => match i with | 0 => h1 | i + 1 => hs i, ?_, ?_, ?_⟩
    · intro i j hij
      match i, j with
      | 0, 0 => exact absurd rfl hij
      | 0, j + 1 => exact d.sub (k2 j)
      | i + 1, 0 => exact (d.sub (k2 i)).symm
      | i + 1, j + 1 => exact k1 i j (fun e => hij (by rw [e]))
    · intro i
      match i with
      | 0 => exact s1
      | i + 1 => exact (k2 i).trans s2
    · intro i Q hi
      match i with
      | 0 => simp at hi; subst hi; exact p
      | i + 1 => exact k3 i Q (by simpa using hi)
theorem SatH.of_parts {hs : Nat → Hp} (hd : ∀ i j, i ≠ j → Dis (hs i) (hs j)) : ∀ (is : List Nat) (l : List HP) (h : Hp), is.Nodup → (∀ i ∈ is, Sub (hs i) h) → l.length = is.length → (∀ (n i : Nat) (P : HP), is[n]? = some i → l[n]? = some P → P (hs i)) → SatH l h
  | [], [], _, _, _, _, _ => trivial
  | [], _ :: _, _, _, _, hl, _ => by simp at hl
  | _ :: _, [], _, _, _, hl, _ => by simp at hl
  | i :: is, P :: l, h, hn, hsub, hl, hp => by
    have hn' := List.nodup_cons.1 hn
    let u : Hp := fun b => (is.findSome? fun j => hs j b)
    have hu : ∀ j ∈ is, Sub (hs j) u := by
      intro j hj b o e
      simp only [u]
      cases hf : is.findSome? (fun j => hs j b) with
      | none => rw [List.findSome?_eq_none_iff] at hf; rw [hf j hj] at e; cases e
      | some o' =>
        obtain ⟨j', hj', e'⟩ := List.exists_of_findSome?_eq_some hf
        by_cases hjj : j = j'
        · subst hjj; rw [e] at e'; exact e'.symm
        · rcases hd j j' hjj b with k | k
          · rw [k] at e; cases e
          · rw [k] at e'; cases e'
    have huh : Sub u h := by
      intro b o e
      obtain ⟨j', hj', e'⟩ := List.exists_of_findSome?_eq_some e
      exact hsub j' (by simp [hj']) b o e'
    refine ⟨hs i, u, fun b => ?_, hsub i (by simp), huh, hp 0 i P rfl rfl, SatH.of_parts hd is l u hn'.2 hu (by simpa using hl) fun n j Q h1 h2 => hp (n + 1) j Q (by simpa using h1) (by simpa using h2)⟩
    cases hb : hs i b with
    | none => exact .inl rfl
    | some o =>
      refine .inr ?_
      simp only [u]
      rw [List.findSome?_eq_none_iff]
      intro j hj
      have hij : i ≠ j := fun e => hn'.1 (e ▸ hj)
      rcases hd i j hij b with k | k
      · rw [hb] at k; cases k
      · exact k
theorem Sat.sel (h : Sat e w l) (is : List Nat) (hn : is.Nodup) (hl : is.map (fun i => l[i]?) = l'.map some) : Sat e w l' := h.of_mem fun m => by
  obtain ⟨hs, k1, k2, k3⟩ := m.parts
  refine SatH.of_parts k1 is l' _ hn (fun i _ => k2 i) ?_ fun n i P h1 h2 => ?_
  · have := congrArg List.length hl; simpa using this.symm
  · refine k3 i P ?_
    have := congrArg (fun x => x[n]?) hl
    simp only [List.getElem?_map, h1, h2, Option.map_some, Option.some.injEq] at this
    exact this
theorem Sat.selR {R : List HP} (a b : List HP) (h : Sat e w (a ++ R)) (is : List Nat) (hn : is.Nodup) (hl : is.map (fun i => a[i]?) = b.map some) : Sat e w (b ++ R) := by
  have h1 : Sat e w (sepL R :: a) := Sat.join (l' := R) (h.perm List.perm_append_comm)
  have h2 : Sat e w (sepL R :: b) := h1.sel (0 :: is.map (· + 1)) (by
    rw [List.nodup_cons]
    refine ⟨by simp, ?_⟩
    exact List.Pairwise.map _ (fun x y hxy e => hxy (by omega)) hn) (by simp [← hl, List.map_map, Function.comp_def])
  exact h2.split.perm List.perm_append_comm

def hex {α : Type} (f : α → HP) : HP := fun h => ∃ x, f x h
def pur (p : Prop) : HP := fun _ => p
theorem Sat.ex {α : Type} {f : α → HP} (h : Sat e w (hex f :: l)) : ∃ x, Sat e w (f x :: l) := by
  obtain ⟨h1, h2, d, s1, s2, ⟨x, p⟩, r⟩ := h.mem
  exact ⟨x, h.of_mem fun _ => ⟨h1, h2, d, s1, s2, p, r⟩⟩
theorem Sat.mk_ex {α : Type} {f : α → HP} (x : α) (h : Sat e w (f x :: l)) : Sat e w (hex f :: l) := h.imp fun _ p => ⟨x, p⟩
theorem Sat.pure {p : Prop} (h : Sat e w (pur p :: l)) : p ∧ Sat e w l := by
  obtain ⟨h1, h2, d, s1, s2, q, r⟩ := h.mem
  exact ⟨q, h.drop⟩
theorem Sat.mk_pure {p : Prop} (hp : p) (h : Sat e w l) : Sat e w (pur p :: l) :=
  h.of_mem fun m => ⟨fun _ => none, Go.E.hp w, fun _ => .inl rfl, fun _ _ e => by (cases e), Sub.refl _, hp, m⟩
end

end Go.E
end
section
namespace Go.E
open Go.RowKit

def cellH (h : Hp) (a : Addr) : Option Value :=
  match h a.block with
  | some (.cells c _ _) => if a.spot.isSome then none else c[a.off]?
  | _ => none
theorem cellH_up {h g : Hp} (s : Sub h g) {a : Addr} {v : Value} (e : cellH h a = some v) : cellH g a = some v := by
  unfold cellH at *
  cases hb : h a.block with
  | none => rw [hb] at e; cases e
  | some o => rw [s _ _ hb]; rw [hb] at e; exact e
def CellsH (h : Hp) (a : Addr) (vs : List Value) : Prop := ∀ i v, vs[i]? = some v → cellH h (a.add i) = some v
theorem CellsH.up {h g : Hp} (s : Sub h g) {a : Addr} {vs : List Value} (e : CellsH h a vs) : CellsH g a vs := fun i v hv => cellH_up s (e i v hv)
theorem add_add (a : Addr) (i j : Nat) : (a.add i).add j = a.add (i + j) := by
  unfold Addr.add
  by_cases hi : i = 0 <;> by_cases hj : j = 0 <;> simp [hi, hj, Nat.add_assoc]
theorem CellsH.drop {h : Hp} {a : Addr} {vs : List Value} (e : CellsH h a vs) (n : Nat) : CellsH h (a.add n) (vs.drop n) := fun i v hv => by
  rw [add_add]
  exact e (n + i) v (by rw [← hv, List.getElem?_drop])
theorem CellsH.take {h : Hp} {a : Addr} {vs : List Value} (e : CellsH h a vs) (n : Nat) : CellsH h a (vs.take n) := fun i v hv => by
  rw [List.getElem?_take] at hv
  split at hv
  · exact e i v hv
  · cases hv

def blk (b : Nat) (t : TypeId) (cs : List Value) : HP := fun h => h b = some (.cells cs.toArray t (0, 0))
theorem blk_cells {b : Nat} {t : TypeId} {cs : List Value} {h : Hp} (k : blk b t cs h) (off : Nat) : CellsH h ⟨b, off, none⟩ (cs.drop off) := fun i v hv => by
  have e : ((⟨b, off, none⟩ : Addr).add i) = ⟨b, off + i, none⟩ := by
    unfold Addr.add
    split
    · rename_i h0; subst h0; rfl
    · rfl
  rw [e]
  have k' : h b = some (.cells cs.toArray t (0, 0)) := k
  unfold cellH
  simp only [k']
  simp only [Option.isSome_none, Bool.false_eq_true, if_false, List.getElem?_toArray]
  rw [← hv, List.getElem?_drop]

section
variable {e w : World} {l : List HP} {S : HP} {K : KV}
theorem SatH.get : ∀ {l : List HP} {h : Hp} {i : Nat}, SatH l h → l[i]? = some S → ∃ g, S g ∧ Sub g h
  | [], _, _, _, hi => by simp at hi
  | P :: l, h, 0, ⟨h1, h2, d, s1, s2, p, r⟩, hi => by simp at hi; subst hi; exact ⟨h1, p, s1⟩
  | P :: l, h, i + 1, ⟨h1, h2, d, s1, s2, p, r⟩, hi => by
    obtain ⟨g, hg, hs⟩ := SatH.get (i := i) r (by simpa using hi)
    exact ⟨g, hg, hs.trans s2⟩
theorem Sat.get (hS : Sat e w l) (i : Nat) (hi : l[i]? = some S) : ∃ g, S g ∧ Sub g (hp w) := hS.mem.get hi
theorem Sat.cells {a : Addr} {vs : List Value} (hS : Sat e w l) (i : Nat) (hi : l[i]? = some S) (hc : ∀ g, S g → CellsH g a vs) : CellsAt w a vs := by
  obtain ⟨g, hg, hs⟩ := hS.get i hi
  exact (hc g hg).up hs
theorem Sat.heap {b : Nat} {t : TypeId} {cs : List Value} (hS : Sat e w l) (i : Nat) (hi : l[i]? = some (blk b t cs)) : w.heap[b]? = some (.cells cs.toArray t (0, 0)) := by
  obtain ⟨g, hg, hs⟩ := hS.get i hi
  exact hs _ _ hg

theorem ld1_of {a : Addr} {vs : List Value} {v : Value} (hS : Sat e w l) (i : Nat) (hi : l[i]? = some S) (hc : ∀ g, S g → CellsH g a vs) (hv : vs[0]? = some v) (hk : K v w) : ld1 (.pointer (some a)) w K :=
  ⟨a, v, rfl, by have := hS.cells i hi hc 0 v hv; simpa [Addr.add] using this, hk⟩
theorem ldN_of {a : Addr} {vs : List Value} {n : Nat} (hS : Sat e w l) (i : Nat) (hi : l[i]? = some S) (hc : ∀ g, S g → CellsH g a vs) (hn : vs.length = n) (hk : K (.agg vs.toArray) w) : ldN n (.pointer (some a)) w K :=
  ⟨a, vs, rfl, hn, hS.cells i hi hc, hk⟩
theorem ldN_sub {a : Addr} {vs us : List Value} {n : Nat} (hS : Sat e w l) (i : Nat) (hi : l[i]? = some S) (hc : ∀ g, S g → CellsH g a vs) (he : vs.take n = us) (hn : us.length = n) (hk : K (.agg us.toArray) w) : ldN n (.pointer (some a)) w K :=
  ldN_of hS i hi (fun g hg => he ▸ (hc g hg).take n) hn hk
theorem ld1_at {b off : Nat} {t : TypeId} {cs : List Value} {v : Value} (hS : Sat e w l) (i : Nat) (hi : l[i]? = some (blk b t cs)) (hv : cs[off]? = some v) (hk : K v w) : ld1 (.pointer (some ⟨b, off, none⟩)) w K :=
  ld1_of hS i hi (fun _ k => blk_cells k off) (by rw [List.getElem?_drop]; exact hv) hk
theorem ldN_at {b off n : Nat} {t : TypeId} {cs vs : List Value} (hS : Sat e w l) (i : Nat) (hi : l[i]? = some (blk b t cs)) (hv : (cs.drop off).take n = vs) (hn : vs.length = n) (hk : K (.agg vs.toArray) w) : ldN n (.pointer (some ⟨b, off, none⟩)) w K :=
  ldN_of hS i hi (fun _ k => hv ▸ (blk_cells k off).take n) hn hk

theorem fld_at {b o off : Nat} (hk : K (.pointer (some ⟨b, o + off, none⟩)) w) : fld off (.pointer (some ⟨b, o, none⟩)) w K := by
  refine ⟨_, rfl, ?_⟩
  have e : ((⟨b, o, none⟩ : Addr).add off) = ⟨b, o + off, none⟩ := by
    unfold Addr.add
    split
    · rename_i h0; subst h0; rfl
    · rfl
  rw [e]
  exact hk
theorem fld_of {a : Addr} {off : Nat} {vs : List Value} (hc : ∀ g, S g → CellsH g a vs) (hk : ∀ a', (∀ g, S g → CellsH g a' (vs.drop off)) → K (.pointer (some a')) w) : fld off (.pointer (some a)) w K :=
  ⟨a, rfl, hk _ fun g hg => (hc g hg).drop off⟩

theorem Sat.drew (hS : Sat e w l) : Sat e w.drew l := ⟨hS.os, hS.tape, hS.output, Nat.le_succ_of_le hS.drawn, hS.size, hS.mem⟩
theorem dr_s {K : World → Prop} (hS : Sat e w l) (hk : ∀ w', Sat e w' l → K w') : dr w K := hk _ hS.drew

theorem SatH.alloc {h : Hp} {b : Nat} {o : Obj} (hl : SatH l h) (hn : h b = none) : SatH ((fun g => g b = some o) :: l) (fun x => if x = b then some o else h x) :=
  ⟨fun x => if x = b then some o else none, h, fun x => by
    by_cases e : x = b
    · subst e; exact .inr hn
    · exact .inl (by simp [e]), fun x o' k => by
    by_cases e : x = b <;> simp_all, fun x o' k => by
    by_cases e : x = b
    · subst e; rw [hn] at k; cases k
    · simp [e, k], by simp, hl⟩
theorem hp_alloc (w : World) (o : Obj) : hp (w.alloc o) = fun x => if x = w.heap.size then some o else hp w x := by
  funext x
  simp only [hp, World.alloc, Array.getElem?_push]
theorem hp_size (w : World) : hp w w.heap.size = none := by simp [hp]
theorem Sat.alloc (hS : Sat e w l) (o : Obj) : Sat e (w.alloc o) ((fun g => g w.heap.size = some o) :: l) :=
  ⟨hS.os, hS.tape, hS.output, hS.drawn, by have := hS.size; show e.heap.size ≤ (w.heap.push o).size; rw [Array.size_push]; omega, by rw [hp_alloc]; exact hS.mem.alloc (hp_size w)⟩
theorem al_s {cells : Array Value} {t : TypeId} {cs : List Value} (hS : Sat e w l) (hc : cells.toList = cs) (hk : ∀ b w', Sat e w' (blk b t cs :: l) → K (.pointer (some ⟨b, 0, none⟩)) w') : al cells t w K := by
  subst hc
  refine hk _ _ ?_
  have := hS.alloc (.cells cells t)
  exact this.imp fun g hg => by simpa [blk] using hg

theorem SatH.upd {h : Hp} {b : Nat} {o o' : Obj} : ∀ {l : List HP}, SatH ((fun g => g b = some o) :: l) h → SatH ((fun g => g b = some o') :: l) (fun x => if x = b then some o' else h x) := by
  intro l ⟨h1, h2, d, s1, s2, p, r⟩
  have hb : h2 b = none := by
    rcases d b with k | k
    · rw [p] at k; cases k
    · exact k
  refine ⟨fun x => if x = b then some o' else none, h2, fun x => ?_, fun x u k => ?_, fun x u k => ?_, by simp, r⟩
  · by_cases e : x = b
    · subst e; exact .inr hb
    · exact .inl (by simp [e])
  · by_cases e : x = b <;> simp_all
  · by_cases e : x = b
    · subst e; rw [hb] at k; cases k
    · simp only [if_neg e]; exact s2 x u k

def World.setB (w : World) (b : Nat) (o : Obj) : World := { w with heap := w.heap.setIfInBounds b o }
theorem hp_setB (w : World) (b : Nat) (o : Obj) (h : b < w.heap.size) : hp (World.setB w b o) = fun x => if x = b then some o else hp w x := by
  funext x
  simp only [hp, World.setB, Array.getElem?_setIfInBounds]
  by_cases e : x = b
  · subst e; simp [h]
  · rw [if_neg (fun k => e k.symm), if_neg e]
theorem Sat.setB {b : Nat} {o o' : Obj} (hS : Sat e w ((fun g => g b = some o) :: l)) : Sat e (World.setB w b o') ((fun g => g b = some o') :: l) := by
  have hb : hp w b = some o := by
    obtain ⟨g, hg, hs⟩ := hS.get 0 rfl
    exact hs _ _ hg
  have hlt : b < w.heap.size := (Array.getElem?_eq_some_iff.1 hb).1
  exact ⟨hS.os, hS.tape, hS.output, hS.drawn, by simpa [World.setB] using hS.size, by rw [hp_setB _ _ _ hlt]; exact hS.mem.upd⟩

def wrL (cs : List Value) (k : Nat) (vs : List Value) : List Value := cs.take k ++ vs ++ cs.drop (k + vs.length)
theorem wrL_get (cs : List Value) (k : Nat) (vs : List Value) (h : k + vs.length ≤ cs.length) (i : Nat) : (wrL cs k vs)[i]? = if i < k then cs[i]? else if i < k + vs.length then vs[i - k]? else cs[i]? := by
  simp only [wrL, List.getElem?_append, List.length_append, List.length_take, List.getElem?_take, List.getElem?_drop]
  have hm : min k cs.length = k := by omega
  rw [hm]
  by_cases h1 : i < k
  · simp [h1]; omega
  · by_cases h2 : i < k + vs.length
    · simp [h1, h2]
    · simp only [h1, h2, if_false]
      congr 1
      omega
theorem wrL_step (cs : List Value) (k : Nat) (v : Value) (vs : List Value) (h : k + (v :: vs).length ≤ cs.length) : wrL (cs.set k v) (k + 1) vs = wrL cs k (v :: vs) := by
  apply List.ext_getElem?
  intro i
  simp only [List.length_cons] at h
  rw [wrL_get _ _ _ (by simp; omega), wrL_get _ _ _ (by simp; omega)]
  simp only [List.length_cons, List.getElem?_set]
  by_cases h1 : i < k
  · rw [if_pos (by omega), if_neg (by omega), if_pos h1]
  · by_cases h2 : i = k
    · subst h2
      rw [if_pos (by omega), if_pos rfl, if_pos (by omega), if_neg (by omega), if_pos (by omega)]
      simp
    · rw [if_neg (by omega), if_neg h1]
      by_cases h3 : i < k + 1 + vs.length
      · rw [if_pos h3, if_pos (by omega), show i - k = (i - (k + 1)) + 1 from by omega]
        simp
      · rw [if_neg h3, if_neg (by omega), if_neg (by omega)]

theorem setCs_blk {b : Nat} {t : TypeId} : ∀ (vs : List Value) (w : World) (off i : Nat) (cs : List Value), w.heap[b]? = some (.cells cs.toArray t (0, 0)) → off + i + vs.length ≤ cs.length →
    setCs w ⟨b, off, none⟩ i vs = World.setB w b (.cells (wrL cs (off + i) vs).toArray t (0, 0))
  | [], w, off, i, cs, h, _ => by
    have e : wrL cs (off + i) [] = cs := by simp [wrL]
    rw [e]
    simp only [setCs, World.setB]
    rw [show w.heap.setIfInBounds b (.cells cs.toArray t (0, 0)) = w.heap from ?_]
    apply Array.ext_getElem?
    intro x
    rw [Array.getElem?_setIfInBounds]
    split
    · rename_i k; subst k; rw [h]; split
      · rfl
      · rename_i k; exact absurd (Array.getElem?_eq_some_iff.1 h).1 k
    · rfl
  | v :: vs, w, off, i, cs, h, hl => by
    have ea : ((⟨b, off, none⟩ : Addr).add i) = ⟨b, off + i, none⟩ := by
      unfold Addr.add
      split
      · rename_i h0; subst h0; rfl
      · rfl
    simp only [setCs, ea]
    have hlt := (Array.getElem?_eq_some_iff.1 h).1
    have e1 : w.setCell ⟨b, off + i, none⟩ v = World.setB w b (.cells (cs.set (off + i) v).toArray t (0, 0)) := by
      unfold World.setCell World.setB
      congr 1
      apply Array.ext_getElem?
      intro x
      rw [Array.getElem?_modify, Array.getElem?_setIfInBounds]
      split
      · rename_i k; subst k; rw [h]; simp
      · rfl
    rw [e1, setCs_blk (t := t) vs _ off (i + 1) (cs.set (off + i) v) (by simp [World.setB, hlt]) (by simp at hl ⊢; omega)]
    rw [show off + (i + 1) = off + i + 1 from by omega, wrL_step cs (off + i) v vs (by omega)]
    simp only [World.setB, Array.setIfInBounds_setIfInBounds]

theorem stN_at {b off n : Nat} {t : TypeId} {cs vs cs' : List Value} {v : Value} (hS : Sat e w l) (i : Nat) (hi : l[i]? = some (blk b t cs)) (hv : v.cells.toList = vs) (hn : vs.length = n) (hb : off + n ≤ cs.length) (hf : ∀ c ∈ vs, flat c = true)
    (hc' : wrL cs off vs = cs') (hk : ∀ w', Sat e w' (l.set i (blk b t cs')) → K undef w') : stN n (.pointer (some ⟨b, off, none⟩)) v w K := by
  subst hv
  subst hc'
  have hh := hS.heap i hi
  refine ⟨_, rfl, hn, hf, fun j hj => ?_, ?_⟩
  · have ea : ((⟨b, off, none⟩ : Addr).add j) = ⟨b, off + j, none⟩ := by
      unfold Addr.add
      split
      · rename_i h0; subst h0; rfl
      · rfl
    rw [ea]
    constructor
    · simp only [World.cell?, hh]
      simp
      omega
    · simp [World.frozen?, hh]
  · have h1 := hS.pick i hi
    have h2 : Sat e (World.setB w b (.cells (wrL cs off v.cells.toList).toArray t (0, 0))) (blk b t (wrL cs off v.cells.toList) :: l.eraseIdx i) := h1.setB
    have h3 := h2.perm (set_perm l i _ _ hi)
    have e1 : setCs w ⟨b, off, none⟩ 0 v.cells.toList = World.setB w b (.cells (wrL cs off v.cells.toList).toArray t (0, 0)) := setCs_blk _ w off 0 cs hh (by rw [hn]; omega)
    rw [e1]
    exact hk _ h3
end

def Old (e : World) : HP := fun h => ∀ b, b < e.heap.size → h b = e.heap[b]?
theorem Sat.start (w : World) : Sat w w [Old w] := ⟨rfl, rfl, rfl, Nat.le_refl _, Nat.le_refl _, hp w, fun _ => none, fun _ => .inr rfl, Sub.refl _, fun _ _ e => (by cases e), fun _ _ => rfl, trivial⟩
theorem Sat.below {e w : World} {l : List HP} (h : Sat e w (Old e :: l)) : Below e.heap.size e w := by
  obtain ⟨g, hg, hs⟩ := h.get 0 rfl
  refine ⟨h.os, h.tape, h.output, h.size, fun k hk => ?_⟩
  have h1 := hg k hk
  rw [Array.getElem?_eq_getElem hk] at h1 ⊢
  exact hs _ _ h1
theorem Old.cells {e : World} {a : Addr} {vs : List Value} (ha : a.block < e.heap.size) (hc : CellsAt e a vs) : ∀ g, Old e g → CellsH g a vs := fun g hg i v hv => by
  have h1 := hc i v hv
  have hb : (a.add i).block = a.block := by unfold Addr.add; split <;> rfl
  unfold cellH
  rw [hg _ (by rw [hb]; exact ha)]
  exact h1

section
variable {α : Type}
def ownS (t : TypeId) (size : Nat) (f : α → List Value) (v : Value) (l : List α) : HP := fun h =>
  (v = .slice none 0 0 ∧ l = []) ∨
  ∃ (b c : Nat) (cs : List Value), v = .slice (some ⟨b, 0, none⟩) l.length c ∧ h b = some (.cells cs.toArray t (0, 0)) ∧ cs.length = c * size ∧ l.length ≤ c ∧ cs.take (l.length * size) = l.flatMap f
def rdS (_size : Nat) (f : α → List Value) (v : Value) (l : List α) : HP := fun h =>
  ∃ A c, v = .slice A l.length c ∧ l.length ≤ c ∧ (0 < l.length → ∃ a, A = some a ∧ CellsH h a (l.flatMap f))

theorem own_rd {t : TypeId} {size : Nat} {f : α → List Value} {v : Value} {l : List α} {h : Hp} (k : ownS t size f v l h) : rdS size f v l h := by
  rcases k with ⟨rfl, rfl⟩ | ⟨b, c, cs, rfl, hb, hc, hn, hx⟩
  · exact ⟨none, 0, rfl, Nat.le_refl _, fun k => absurd k (by simp)⟩
  · refine ⟨_, c, rfl, hn, fun _ => ⟨_, rfl, ?_⟩⟩
    rw [← hx]
    exact (blk_cells (cs := cs) (t := t) hb 0).take _

theorem flatMap_length {f : α → List Value} {size : Nat} (hf : ∀ x, (f x).length = size) (l : List α) : (l.flatMap f).length = l.length * size := by
  induction l with
  | nil => simp
  | cons x l ih => simp [ih, hf, Nat.add_mul]; omega
theorem flatMap_at {f : α → List Value} {size : Nat} (hf : ∀ x, (f x).length = size) : ∀ (l : List α) (j : Nat) (x : α), l[j]? = some x → ((l.flatMap f).drop (j * size)).take size = f x
  | [], j, x, h => by simp at h
  | y :: l, 0, x, h => by
    simp at h
    subst h
    simp [hf]
  | y :: l, j + 1, x, h => by
    simp only [List.getElem?_cons_succ] at h
    rw [List.flatMap_cons, show (j + 1) * size = (f y).length + j * size from by rw [hf, Nat.add_mul]; omega, ← List.drop_drop, List.drop_left]
    exact flatMap_at hf l j x h

variable {e w : World} {L : List HP} {S : HP} {K : KV} {size : Nat} {f : α → List Value} {v : Value} {l : List α}
theorem Sat.shape (hS : Sat e w L) (i : Nat) (hi : L[i]? = some S) (hr : ∀ g, S g → rdS size f v l g) : ∃ A c, v = .slice A l.length c ∧ l.length ≤ c := by
  obtain ⟨g, hg, _⟩ := hS.get i hi
  obtain ⟨A, c, h1, h2, _⟩ := hr g hg
  exact ⟨A, c, h1, h2⟩
theorem lnS_rd (hS : Sat e w L) (i : Nat) (hi : L[i]? = some S) (hr : ∀ g, S g → rdS size f v l g) (hk : K (.int .i64 (l.length : Int)) w) : lnS v w K := by
  obtain ⟨A, c, rfl, _⟩ := hS.shape i hi hr
  exact ⟨_, _, _, rfl, hk⟩
theorem ixS_rd {k : IntKind} {j : Nat} {x : α} (hS : Sat e w L) (i : Nat) (hi : L[i]? = some S) (hr : ∀ g, S g → rdS size f v l g) (hf : ∀ x, (f x).length = size) (hx : l[j]? = some x)
    (hk : ∀ a, (∀ g, S g → CellsH g a (f x)) → K (.pointer (some a)) w) : ixS size v (.int k (j : Int)) w K := by
  obtain ⟨g, hg, _⟩ := hS.get i hi
  obtain ⟨A, c, h1, h2, h3⟩ := hr g hg
  have hj : j < l.length := (List.getElem?_eq_some_iff.1 hx).1
  obtain ⟨a, rfl, _⟩ := h3 (by omega)
  subst h1
  refine ⟨a, _, _, k, (j : Int), rfl, rfl, by omega, by omega, hk _ fun g' hg' => ?_⟩
  obtain ⟨A', c', h1', h2', h3'⟩ := hr g' hg'
  injection h1' with e1 e2 e3
  obtain ⟨a', e4, hc⟩ := h3' (by omega)
  rw [← e1] at e4
  cases e4
  rw [← flatMap_at hf l j x hx]
  exact ((hc.drop _).take _)
end

end Go.E
end
section
namespace Go.E
open Go.RowKit

structure TE (P : Program) (st t : TypeId) (size bytes : Nat) : Prop where
  und : P.underlying st = some (.slice t)
  inf : ∃ i z, P.info? t = some i ∧ i.size = size ∧ i.bytes = bytes ∧ i.zero = some z ∧ z.cells.size = size
  pos : 0 < size ∧ 0 < bytes

section
variable {P : Program} {w : World}
theorem run_first {size n c : Nat} {a : Addr} {vs : List Value} (hn : vs.length = n * size) (hc : CellsAt w a vs) : (Builtin.firstCells size n (.slice (some a) n c)).run P w = .ok vs.toArray w := by
  simp only [Builtin.firstCells]
  rw [← hn]
  exact run_cells hc

theorem zeroCells_size (z : Array Value) (n : Nat) : (Builtin.zeroCells z n).size = n * z.size := by simp [Builtin.zeroCells]

theorem run_append_room {st t xt ty : TypeId} {size bytes : Nat} (T : TE P st t size bytes) {t2 : TypeId} (hx : P.underlying xt = some (.slice t2)) {b n c m c' : Nat} {A : Option Addr} {new : List Value} (hroom : n + m ≤ c)
    (hsrc : (Builtin.firstCells size m (.slice A m c')).run P w = .ok new.toArray w) (hf : ∀ v ∈ new, flat v = true)
    (hset : ∀ j, j < new.length → (w.cell? ((⟨b, n * size, none⟩ : Addr).add j)).isSome = true ∧ w.frozen? ((⟨b, n * size, none⟩ : Addr).add j) = false) :
    (Builtin.append_ #[st, xt] ty #[.slice (some ⟨b, 0, none⟩) n c, .slice A m c']).run P w = .ok (.slice (some ⟨b, 0, none⟩) (n + m) c) (setCs w ⟨b, n * size, none⟩ 0 new) := by
  obtain ⟨i, z, hi, h1, h2, h3, h4⟩ := T.inf
  have ea : ((⟨b, 0, none⟩ : Addr).add (n * size)) = ⟨b, n * size, none⟩ := by
    unfold Addr.add
    split
    · rename_i h0; rw [h0]
    · simp
  have hst : (storeCells ⟨b, n * size, none⟩ new).run P w = .ok () (setCs w ⟨b, n * size, none⟩ 0 new) :=
    run_storeCells new 0 w hf (fun j _ h => hset j (by omega))
  unfold Builtin.append_
  simp only [List.getElem?_toArray, List.getElem?_cons_zero, List.getElem?_cons_succ, Sem.run_bind, run_und T.und, Result.andThen_ok, run_sz hi, h1, run_und hx, Sem.run_pure, Builtin.lenOf, Bool.false_eq_true, if_false, hroom, if_true, Bool.not_false, hsrc, ea, hst]

theorem run_append_grow {st t xt ty : TypeId} {size bytes : Nat} (T : TE P st t size bytes) {t2 : TypeId} (hx : P.underlying xt = some (.slice t2)) {n c m c' : Nat} {A B : Option Addr} {old new : List Value} (hroom : ¬ n + m ≤ c) (hb : (n + m) * bytes ≤ 140737488355328)
    (hold : ∀ w' : World, w'.heap = w.heap → (Builtin.firstCells size n (.slice B n c)).run P w' = .ok old.toArray w') (hsrc : ∀ w' : World, w'.heap = w.heap → (Builtin.firstCells size m (.slice A m c')).run P w' = .ok new.toArray w') :
    ∃ cap rest, n + m ≤ cap ∧ rest.length = (cap - (n + m)) * size ∧ (Builtin.append_ #[st, xt] ty #[.slice B n c, .slice A m c']).run P w = .ok (.slice (some ⟨w.heap.size, 0, none⟩) (n + m) cap) (w.drew.alloc (.cells (old ++ new ++ rest).toArray t)) := by
  obtain ⟨i, z, hi, h1, h2, h3, h4⟩ := T.inf
  have hn : n + m ≤ 140737488355328 := by
    have := T.pos.2
    exact Nat.le_trans (Nat.le_mul_of_pos_right _ this) hb
  refine ⟨(Question.appendCap (n + m) c t).cut (w.tape w.drawn (.appendCap (n + m) c t)), (Builtin.zeroCells z.cells ((Question.appendCap (n + m) c t).cut (w.tape w.drawn (.appendCap (n + m) c t)) - (n + m))).toList, by simp [Question.cut], by simp [zeroCells_size, h4], ?_⟩
  have g1 : ¬ ((n + m : Nat) : Int) > IntKind.i64.max := by
    simp only [IntKind.max, IntKind.signed, IntKind.bits]; simp; omega
  have g2 : ¬ Builtin.nextslicecap (n + m) c * bytes > 2 ^ 48 := by
    have := growslice_fits (need := n + m) (old := c) (bytes := bytes) (by omega) hb
    omega
  have ho := hold w.drew rfl
  have hs := hsrc w.drew rfl
  have hask : ∀ (x : Nat) (w' : World), (askRoom x).run P w' = .ok () w' := by
    intro x w'
    unfold askRoom
    split <;> rfl
  unfold Builtin.append_
  simp only [List.getElem?_toArray, List.getElem?_cons_zero, List.getElem?_cons_succ, Sem.run_bind, run_und T.und, Result.andThen_ok, run_sz hi, h1, run_und hx, Sem.run_pure, Builtin.lenOf, Bool.false_eq_true, if_false, hroom, Bool.not_false, run_ti hi, h2, g1, false_and, g2, if_true]
  simp only [choose, Sem.run, Question.forced, Bool.false_eq_true, if_false, Result.andThen_ok, hask]
  change ((Builtin.firstCells size n (.slice B n c)).run P w.drew).andThen _ = _
  rw [ho]
  simp only [Result.andThen_ok]
  change ((Builtin.firstCells size m (.slice A m c')).run P w.drew).andThen _ = _
  rw [hs]
  simp only [Result.andThen_ok, run_zero hi h3, newRow, newObj, Sem.run_bind, Sem.run, Sem.run_pure]
  congr 1
  simp only [World.alloc, World.drew]
  congr 2
  simp
end

section
variable {P : Program} {e w : World} {α : Type} {f : α → List Value} {size bytes : Nat} {R : List HP} {S : HP} {K : KV}
theorem apS_ownM {st t xt ty t2 : TypeId} {s x : Value} {l m : List α} (T : TE P st t size bytes) (hx : P.underlying xt = some (.slice t2)) (hf : ∀ x, (f x).length = size) (hff : ∀ x ∈ m, ∀ v ∈ f x, flat v = true)
    (hS : Sat e w (ownS t size f s l :: S :: R)) (hr : ∀ g, S g → rdS size f x m g) (hb : (l.length + m.length) * bytes ≤ 140737488355328)
    (hk : ∀ v' w', Sat e w' (ownS t size f v' (l ++ m) :: S :: R) → K v' w') : apS P #[st, xt] ty s x w K := by
  obtain ⟨A, c', rfl, hmc⟩ := hS.shape 1 rfl hr
  have hsrc : ∀ w' : World, w'.heap = w.heap → (Builtin.firstCells size m.length (.slice A m.length c')).run P w' = .ok (m.flatMap f).toArray w' := by
    intro w' hw'
    have hhp : hp w = hp w' := by unfold hp; rw [hw']
    obtain ⟨g, hg, hs⟩ := hS.get 1 rfl
    obtain ⟨A', c2, h1, h2, h3⟩ := hr g hg
    injection h1 with e1 e2 e3
    by_cases h0 : 0 < m.length
    · obtain ⟨a, ha, hc⟩ := h3 h0
      rw [← e1] at ha
      subst ha
      exact run_first (flatMap_length hf m) (hc.up (by rw [← hhp]; exact hs : Sub g (hp w')))
    · obtain rfl : m = [] := List.length_eq_zero_iff.1 (by omega)
      cases A with
      | none => simp [Builtin.firstCells]
      | some a => exact run_first (vs := []) (by simp) (fun i v hv => by simp at hv)
  obtain ⟨h1, h2, d, s1, s2, p, r⟩ := hS.mem
  rcases p with ⟨rfl, rfl⟩ | ⟨b, c, cs, rfl, hbb, hcs, hlc, hx'⟩
  · -- the source is nil
    by_cases hm : m.length = 0
    · obtain rfl : m = [] := List.length_eq_zero_iff.1 hm
      refine ex_oV (w' := w) (v := .slice none 0 0) ?_ (hk _ _ hS)
      obtain ⟨i, z, hi, h1, h2, h3, h4⟩ := T.inf
      have hs0 := hsrc w rfl
      simp only [List.flatMap_nil] at hs0
      change (Builtin.firstCells size 0 (.slice A 0 c')).run P w = .ok #[] w at hs0
      unfold Builtin.append_
      simp only [List.getElem?_toArray, List.getElem?_cons_zero, List.getElem?_cons_succ, Sem.run_bind, run_und T.und, Result.andThen_ok, run_sz hi, h1, run_und hx, Sem.run_pure, Builtin.lenOf, Bool.false_eq_true, if_false, List.length_nil, Nat.add_zero, Nat.le_refl, if_true, Bool.not_false, hs0]
    · obtain ⟨cap, rest, g1, g2, g3⟩ := run_append_grow (P := P) (w := w) (ty := ty) T hx (n := 0) (c := 0) (m := m.length) (c' := c') (A := A) (B := none) (old := []) (new := m.flatMap f) (by omega) (by simpa using hb)
        (fun w' _ => by simp [Builtin.firstCells]) hsrc
      refine ex_oV g3 (hk _ _ ?_)
      have h3 := hS.drop.drew.alloc (.cells ([] ++ m.flatMap f ++ rest).toArray t)
      refine h3.imp fun g hg => .inr ⟨w.heap.size, cap, m.flatMap f ++ rest, by simp, ?_, ?_, by simpa using g1, ?_⟩
      · rw [List.nil_append] at hg; exact hg
      · rw [List.length_append, flatMap_length hf, g2, ← Nat.add_mul]; congr 1; omega
      · rw [List.nil_append, List.take_left' (flatMap_length hf m)]
  · by_cases hroom : l.length + m.length ≤ c
    · have hh : w.heap[b]? = some (.cells cs.toArray t (0, 0)) := s1 _ _ hbb
      have hle : l.length * size + m.length * size ≤ cs.length := by rw [hcs, ← Nat.add_mul]; exact Nat.mul_le_mul_right _ hroom
      have hg := run_append_room (P := P) (w := w) (ty := ty) T hx (b := b) (n := l.length) (c := c) (m := m.length) (c' := c') (A := A) (new := m.flatMap f) hroom (hsrc w rfl) (fun v hv => by obtain ⟨x, hx, hv⟩ := List.mem_flatMap.1 hv; exact hff x hx v hv) (fun j hj => by
        rw [flatMap_length hf] at hj
        have ea : ((⟨b, l.length * size, none⟩ : Addr).add j) = ⟨b, l.length * size + j, none⟩ := by
          unfold Addr.add
          split
          · rename_i h0; subst h0; rfl
          · rfl
        rw [ea]
        constructor
        · simp only [World.cell?, hh]
          simp
          omega
        · simp [World.frozen?, hh])
      refine ex_oV hg (hk _ _ ?_)
      rw [setCs_blk _ w (l.length * size) 0 cs hh (by rw [flatMap_length hf]; omega)]
      have h0 : Sat e w ((fun g => g b = some (.cells cs.toArray t (0, 0))) :: S :: R) := ⟨hS.os, hS.tape, hS.output, hS.drawn, hS.size, h1, h2, d, s1, s2, hbb, r⟩
      refine h0.setB.imp fun g hg => .inr ⟨b, c, _, by simp, hg, ?_, by simpa using hroom, ?_⟩
      · simp only [wrL, List.length_append, List.length_take, List.length_drop, flatMap_length hf, Nat.add_zero]
        omega
      · simp only [wrL, Nat.add_zero, hx', List.flatMap_append]
        rw [List.take_left' (by simp [flatMap_length hf, Nat.add_mul])]
    · obtain ⟨cap, rest, g1, g2, g3⟩ := run_append_grow (P := P) (w := w) (ty := ty) T hx (n := l.length) (c := c) (m := m.length) (c' := c') (A := A) (B := some ⟨b, 0, none⟩) (old := l.flatMap f) (new := m.flatMap f) hroom hb
        (fun w' hw' => by
          have hhp : hp w = hp w' := by unfold hp; rw [hw']
          refine run_first (flatMap_length hf l) ?_
          have : CellsH h1 ⟨b, 0, none⟩ (l.flatMap f) := by rw [← hx']; exact (blk_cells (cs := cs) (t := t) hbb 0).take _
          exact this.up (by rw [← hhp]; exact s1 : Sub h1 (hp w'))) hsrc
      refine ex_oV g3 (hk _ _ ?_)
      have h3 := hS.drop.drew.alloc (.cells (l.flatMap f ++ m.flatMap f ++ rest).toArray t)
      refine h3.imp fun g hg => .inr ⟨w.heap.size, cap, l.flatMap f ++ m.flatMap f ++ rest, by simp, hg, ?_, by simpa using g1, ?_⟩
      · rw [List.length_append, List.length_append, flatMap_length hf, flatMap_length hf, g2, ← Nat.add_mul, ← Nat.add_mul]; congr 1; omega
      · rw [← List.flatMap_append, List.take_left' (flatMap_length hf _)]

theorem apS_own {st t xt ty t2 : TypeId} {s x : Value} {l m : List α} (T : TE P st t size bytes) (hx : P.underlying xt = some (.slice t2)) (hf : ∀ x, (f x).length = size) (hff : ∀ x, ∀ v ∈ f x, flat v = true)
    (hS : Sat e w (ownS t size f s l :: S :: R)) (hr : ∀ g, S g → rdS size f x m g) (hb : (l.length + m.length) * bytes ≤ 140737488355328)
    (hk : ∀ v' w', Sat e w' (ownS t size f v' (l ++ m) :: S :: R) → K v' w') : apS P #[st, xt] ty s x w K := apS_ownM T hx hf (fun x _ => hff x) hS hr hb hk

theorem fold_set (vs : List Value) : ∀ (k : Nat) (cs : Array Value), k + vs.length ≤ cs.size → ((vs.zipIdx k).foldl (fun (cs : Array Value) (x : Value × Nat) => cs.setIfInBounds x.2 x.1) cs).toList = wrL cs.toList k vs := by
  induction vs with
  | nil => intro k cs _; simp [wrL]
  | cons v vs ih =>
    intro k cs h
    simp only [List.length_cons] at h
    simp only [List.zipIdx_cons, List.foldl_cons]
    rw [ih (k + 1) (cs.setIfInBounds k v) (by simp; omega)]
    rw [Array.toList_setIfInBounds, wrL_step _ _ _ _ (by simp; omega)]
theorem fill_one {size : Nat} {zero : Array Value} {v : Value} (hz : zero.size = size) (hv : v.cells.size = size) :
    Instr.fill (fun i => some (i * size, size)) zero [(0, v)] = some v.cells := by
  simp only [Instr.fill, Nat.zero_mul, hv, hz, ne_eq, not_true_eq_false, decide_false, Nat.zero_add, Nat.lt_irrefl, gt_iff_lt, Bool.or_self, Bool.false_eq_true, if_false]
  congr 1
  apply Array.ext'
  have h := fold_set v.cells.toList 0 zero (by simp [hv, hz])
  have e : (Array.foldl (fun (cs : Array Value) (x : Value × Nat) => cs.setIfInBounds x.2 x.1) zero v.cells.zipIdx) = (v.cells.toList.zipIdx 0).foldl (fun (cs : Array Value) (x : Value × Nat) => cs.setIfInBounds x.2 x.1) zero := by
    rw [← Array.foldl_toList, Array.toList_zipIdx]
  rw [e, h]
  simp [wrL, hv, ← hz]

theorem bsl1 {t : TypeId} {size : Nat} {zero : Array Value} {v : Value} {vs : List Value} {L : List HP} (hv : v.cells.toList = vs) (hn : vs.length = size) (hS : Sat e w L)
    (hk : ∀ b w', Sat e w' (blk b t vs :: L) → K (.slice (some ⟨b, 0, none⟩) 1 1) w') : bsl t size 1 zero [(0, v)] w K := by
  subst hv
  refine ⟨v.cells, ?_, ?_⟩
  · have : ((Array.range (1 * size)).map (zero[· % zero.size]!)).size = size := by simp
    exact fill_one this (by simpa using hn)
  · refine hk _ _ ?_
    have := hS.alloc (.cells v.cells t)
    exact this.imp fun g hg => by simpa [blk] using hg
theorem bsl0 {t : TypeId} {size : Nat} {L : List HP} (hS : Sat e w L) (f : α → List Value) (hk : ∀ v w', Sat e w' (ownS t size f v [] :: L) → K v w') : bsl t size 0 #[] [] w K := by
  refine ⟨#[], by simp [Instr.fill], hk _ _ ?_⟩
  have := hS.alloc (.cells #[] t)
  exact this.imp fun g hg => .inr ⟨_, 0, [], rfl, by simpa using hg, by simp, Nat.le_refl _, by simp⟩
theorem blk_rd1 {b : Nat} {t : TypeId} {x : α} {c : Nat} (hc : 1 ≤ c) : ∀ g, blk b t (f x) g → rdS size f (.slice (some ⟨b, 0, none⟩) 1 c) [x] g := fun g hg =>
  ⟨_, c, rfl, hc, fun _ => ⟨_, rfl, by simpa using blk_cells hg 0⟩⟩
theorem push1 {st t ty : TypeId} {s v : Value} {l : List α} {x : α} {zero : Array Value} (T : TE P st t size bytes) (hf : ∀ x, (f x).length = size) (hff : ∀ x, ∀ v ∈ f x, flat v = true) 
    (hS : Sat e w (ownS t size f s l :: R)) (hv : v.cells.toList = f x) (hb : (l.length + 1) * bytes ≤ 140737488355328)
    (hk : ∀ v' w', Sat e w' (ownS t size f v' (l ++ [x]) :: R) → K v' w') : bsl t size 1 zero [(0, v)] w fun y w => apS P #[st, st] ty s y w K := by
  refine bsl1 hv (hf x) hS fun b w1 h1 => ?_
  refine apS_own T T.und hf hff h1.swap (blk_rd1 (Nat.le_refl _)) (by simpa using hb) fun v' w2 h2 => hk _ _ h2.swap.drop
end

section
variable {e w : World} {K : KV}
theorem bld_s {zero : Array Value} {places : Array (Nat × Nat)} {parts : List (Nat × Value)} (cs : List Value) (hf : Instr.fill (places[·]?) zero parts = some cs.toArray) (hk : K (.agg cs.toArray) w) : bld zero places parts w K := ⟨_, hf, hk⟩
theorem Sat.own_nil {α : Type} {L : List HP} (t : TypeId) (size : Nat) (f : α → List Value) (h : Sat e w L) : Sat e w (ownS t size f (.slice none 0 0) [] :: L) :=
  h.of_mem fun m => ⟨fun _ => none, Go.E.hp w, fun _ => .inl rfl, fun _ _ e => (by cases e), Sub.refl _, .inl ⟨rfl, rfl⟩, m⟩
theorem Sat.own_cells {α : Type} {L : List HP} {t : TypeId} {size : Nat} {f : α → List Value} {v : Value} {l : List α} (h : Sat e w L) (i : Nat) (hi : L[i]? = some (ownS t size f v l)) : v.cells.toList = [v] ∧ flat v = true := by
  obtain ⟨A, c, rfl, _⟩ := h.shape i hi (fun _ hg => own_rd hg)
  exact ⟨rfl, rfl⟩
theorem st1_at {b off : Nat} {t : TypeId} {cs cs' : List Value} {v : Value} {l : List HP} (hS : Sat e w l) (i : Nat) (hi : l[i]? = some (blk b t cs)) (hv : v.cells.toList = [v] ∧ flat v = true) (hb : off < cs.length)
    (hc' : cs.set off v = cs') (hk : ∀ w', Sat e w' (l.set i (blk b t cs')) → K undef w') : stN 1 (.pointer (some ⟨b, off, none⟩)) v w K := by
  refine stN_at hS i hi hv.1 rfl (by omega) (fun c hc => by simp at hc; rw [hc]; exact hv.2) ?_ hk
  rw [← hc', ← wrL_step cs off v [] (by simp; omega)]
  simp [wrL]
end

section
variable {e w : World} {K : KV}
theorem bsl_s {t : TypeId} {size len : Nat} {zero : Array Value} {parts : List (Nat × Value)} {L : List HP} (cs : List Value) (hS : Sat e w L)
    (hf : Instr.fill (fun i => some (i * size, size)) ((Array.range (len * size)).map (zero[· % zero.size]!)) parts = some cs.toArray)
    (hk : ∀ b w', Sat e w' (blk b t cs :: L) → K (.slice (some ⟨b, 0, none⟩) len len) w') : bsl t size len zero parts w K := by
  refine ⟨_, hf, hk _ _ ?_⟩
  have := hS.alloc (.cells cs.toArray t)
  exact this.imp fun g hg => hg
theorem blk_rdn {α : Type} {size : Nat} {f : α → List Value} {b : Nat} {t : TypeId} {cs : List Value} {c : Nat} (l : List α) (he : cs = l.flatMap f) (hc : l.length ≤ c) : ∀ g, blk b t cs g → rdS size f (.slice (some ⟨b, 0, none⟩) l.length c) l g := fun g hg =>
  ⟨_, c, rfl, hc, fun _ => ⟨_, rfl, by subst he; simpa using blk_cells hg 0⟩⟩
end

end Go.E
end
section
namespace Go.E
open Go.RowKit

section
variable {w : World} {K : KV} {A B : Prop} {a b : Int} {k : IntKind}
theorem wrap_i64 {n : Int} (h1 : -9223372036854775808 ≤ n) (h2 : n ≤ 9223372036854775807) : IntKind.i64.wrap n = n := by
  have e1 : (2 : Int) ^ 64 = 18446744073709551616 := by decide
  have e2 : (2 : Int) ^ 63 = 9223372036854775808 := by decide
  simp only [IntKind.wrap, IntKind.bits, IntKind.signed, Bool.true_and, decide_eq_true_eq, e1, show 64 - 1 = 63 from rfl, e2]
  split <;> omega
theorem iff_t (h : A) : iff' (.bool true) A B := ⟨true, rfl, fun _ => h, (fun e => by cases e)⟩
theorem iff_f (h : B) : iff' (.bool false) A B := ⟨false, rfl, (fun e => by cases e), fun _ => h⟩
theorem iff_b (q : Bool) (h1 : q = true → A) (h2 : q = false → B) : iff' (.bool q) A B := ⟨q, rfl, h1, h2⟩
theorem pk_t {x y : Value} (h : K x w) : pk (.bool true) x y w K := ⟨true, rfl, h⟩
theorem pk_f {x y : Value} (h : K y w) : pk (.bool false) x y w K := ⟨false, rfl, h⟩
theorem gd_tt {body : KV → Prop} (h : body K) : gd (.bool true) true body w K := ⟨fun _ => h, (fun e => by cases e)⟩
theorem gd_ff {body : KV → Prop} (h : body K) : gd (.bool false) false body w K := ⟨fun _ => h, (fun e => by cases e)⟩
theorem gd_tf {body : KV → Prop} (h : K undef w) : gd (.bool true) false body w K := ⟨(fun e => by cases e), fun _ => h⟩
theorem gd_ft {body : KV → Prop} (h : K undef w) : gd (.bool false) true body w K := ⟨(fun e => by cases e), fun _ => h⟩
theorem not_t (h : K (.bool false) w) : bnot (.bool true) w K := ⟨true, rfl, h⟩
theorem not_f (h : K (.bool true) w) : bnot (.bool false) w K := ⟨false, rfl, h⟩
theorem ncP_p {x : Addr} {p : Prop} (h : p) : ncP (.pointer (some x)) p := ⟨rfl, h⟩
theorem bnp_s (x : Addr) (h : K (.bool false) w) : bn .eql (.pointer (some x)) w K := ⟨some x, rfl, h⟩
theorem bnp_n (h : K (.bool true) w) : bn .eql (.pointer none) w K := ⟨none, rfl, h⟩
theorem xt_s {i : Nat} {vs : Array Value} {v : Value} (hv : vs[i]? = some v) (h : K v w) : xt i (.tuple vs) w K := ⟨vs, v, rfl, hv, h⟩
theorem bi_s {op : BinOp} (hd : isDiv op = false) (h : K (intBin op k a b) w) : bi op k (.int k a) (.int k b) w K := ⟨a, b, rfl, rfl, (fun e => by rw [hd] at e; cases e), h⟩
theorem add_s (h1 : -9223372036854775808 ≤ a + b) (h2 : a + b ≤ 9223372036854775807) (h : K (.int .i64 (a + b)) w) : bi .add .i64 (.int .i64 a) (.int .i64 b) w K := bi_s rfl (by simp only [intBin, wrap_i64 h1 h2]; exact h)
theorem sub_s (h1 : -9223372036854775808 ≤ a - b) (h2 : a - b ≤ 9223372036854775807) (h : K (.int .i64 (a - b)) w) : bi .sub .i64 (.int .i64 a) (.int .i64 b) w K := bi_s rfl (by simp only [intBin, wrap_i64 h1 h2]; exact h)
theorem mul_s (h1 : -9223372036854775808 ≤ a * b) (h2 : a * b ≤ 9223372036854775807) (h : K (.int .i64 (a * b)) w) : bi .mul .i64 (.int .i64 a) (.int .i64 b) w K := bi_s rfl (by simp only [intBin, wrap_i64 h1 h2]; exact h)
theorem rem_s (hb : b ≠ 0) (h : K (.int k (a.tmod b)) w) : bi .rem k (.int k a) (.int k b) w K := ⟨a, b, rfl, rfl, fun _ => hb, h⟩
theorem inc_s {j : Nat} (h2 : (j : Int) < 9223372036854775807) (h : K (.int .i64 ((j + 1 : Nat) : Int)) w) : bi .add .i64 (.int .i64 (j : Int)) (.int .i64 1) w K := add_s (by omega) (by omega) (by rw [show ((j : Int) + 1) = ((j + 1 : Nat) : Int) from by omega]; exact h)
theorem lt_t (c : a < b) (h : K (.bool true) w) : bi .lss k (.int k a) (.int k b) w K := bi_s rfl (by simp only [intBin, decide_eq_true c]; exact h)
theorem lt_f (c : ¬ a < b) (h : K (.bool false) w) : bi .lss k (.int k a) (.int k b) w K := bi_s rfl (by simp only [intBin, decide_eq_false c]; exact h)
theorem lt_c (h1 : a < b → K (.bool true) w) (h2 : ¬ a < b → K (.bool false) w) : bi .lss k (.int k a) (.int k b) w K := by
  by_cases c : a < b
  · exact lt_t c (h1 c)
  · exact lt_f c (h2 c)
theorem le_t (c : a ≤ b) (h : K (.bool true) w) : bi .leq k (.int k a) (.int k b) w K := bi_s rfl (by simp only [intBin, decide_eq_true c]; exact h)
theorem le_f (c : ¬ a ≤ b) (h : K (.bool false) w) : bi .leq k (.int k a) (.int k b) w K := bi_s rfl (by simp only [intBin, decide_eq_false c]; exact h)
theorem le_c (h1 : a ≤ b → K (.bool true) w) (h2 : ¬ a ≤ b → K (.bool false) w) : bi .leq k (.int k a) (.int k b) w K := by
  by_cases c : a ≤ b
  · exact le_t c (h1 c)
  · exact le_f c (h2 c)
theorem gt_t (c : b < a) (h : K (.bool true) w) : bi .gtr k (.int k a) (.int k b) w K := bi_s rfl (by simp only [intBin, decide_eq_true (show a > b from c)]; exact h)
theorem gt_f (c : ¬ b < a) (h : K (.bool false) w) : bi .gtr k (.int k a) (.int k b) w K := bi_s rfl (by simp only [intBin, decide_eq_false (show ¬ a > b from c)]; exact h)
theorem gt_c (h1 : b < a → K (.bool true) w) (h2 : ¬ b < a → K (.bool false) w) : bi .gtr k (.int k a) (.int k b) w K := by
  by_cases c : b < a
  · exact gt_t c (h1 c)
  · exact gt_f c (h2 c)
theorem ge_t (c : b ≤ a) (h : K (.bool true) w) : bi .geq k (.int k a) (.int k b) w K := bi_s rfl (by simp only [intBin, decide_eq_true (show a ≥ b from c)]; exact h)
theorem ge_f (c : ¬ b ≤ a) (h : K (.bool false) w) : bi .geq k (.int k a) (.int k b) w K := bi_s rfl (by simp only [intBin, decide_eq_false (show ¬ a ≥ b from c)]; exact h)
theorem ge_c (h1 : b ≤ a → K (.bool true) w) (h2 : ¬ b ≤ a → K (.bool false) w) : bi .geq k (.int k a) (.int k b) w K := by
  by_cases c : b ≤ a
  · exact ge_t c (h1 c)
  · exact ge_f c (h2 c)
theorem eq_t (c : a = b) (h : K (.bool true) w) : bi .eql k (.int k a) (.int k b) w K := bi_s rfl (by simp only [intBin, beq_iff_eq.2 c]; exact h)
theorem eq_f (c : ¬ a = b) (h : K (.bool false) w) : bi .eql k (.int k a) (.int k b) w K := bi_s rfl (by simp only [intBin, beq_eq_false_iff_ne.2 c]; exact h)
theorem eq_c (h1 : a = b → K (.bool true) w) (h2 : ¬ a = b → K (.bool false) w) : bi .eql k (.int k a) (.int k b) w K := by
  by_cases c : a = b
  · exact eq_t c (h1 c)
  · exact eq_f c (h2 c)
theorem ne_t (c : ¬ a = b) (h : K (.bool true) w) : bi .neq k (.int k a) (.int k b) w K := bi_s rfl (by simp only [intBin, bne, beq_eq_false_iff_ne.2 c]; exact h)
theorem ne_f (c : a = b) (h : K (.bool false) w) : bi .neq k (.int k a) (.int k b) w K := bi_s rfl (by simp only [intBin, bne, beq_iff_eq.2 c]; exact h)
theorem ne_c (h1 : ¬ a = b → K (.bool true) w) (h2 : a = b → K (.bool false) w) : bi .neq k (.int k a) (.int k b) w K := by
  by_cases c : a = b
  · exact ne_f c (h2 c)
  · exact ne_t c (h1 c)
theorem beq_s {p q : Bool} (h : K (.bool (p == q)) w) : bb .eql (.bool p) (.bool q) w K := ⟨p, q, rfl, rfl, h⟩
theorem bne_s {p q : Bool} (h : K (.bool (p != q)) w) : bb .neq (.bool p) (.bool q) w K := ⟨p, q, rfl, rfl, h⟩
theorem min_s (h : K (.int k (min a b)) w) : mnI k (.int k a) (.int k b) w K := ⟨a, b, rfl, rfl, by
  have e : (if b < a then b else a) = min a b := by split <;> omega
  rw [e]; exact h⟩
theorem max_s (h : K (.int k (max a b)) w) : mxI k (.int k a) (.int k b) w K := ⟨a, b, rfl, rfl, by
  have e : (if b > a then b else a) = max a b := by split <;> omega
  rw [e]; exact h⟩
theorem cv_s {j : IntKind} (h : K (.int k (k.wrap a)) w) : cvI k (.int j a) w K := ⟨j, a, rfl, h⟩
end

def ints (ns : List Int) : List Value := ns.map (Value.int .i64)
def intsK (k : IntKind) (n : Int) : List Value := [.int k n]
theorem ints_flat (ns : List Int) : ∀ v ∈ ints ns, flat v = true := by
  intro v hv
  obtain ⟨n, _, rfl⟩ := List.mem_map.1 hv
  rfl
theorem ints_length (ns : List Int) : (ints ns).length = ns.length := by simp [ints]

def eqT (P : Program) : Nat → TypeId → Option Nat
  | 0, _ => none
  | n + 1, t =>
    match P.underlying t with
    | some (.int .i64) => some 1
    | some (.struct fs) => match P.stoodInHeld t with
      | true => none
      | false => fs.toList.foldl (fun (acc : Option Nat) f => match acc with
        | none => none
        | some off => match decide (f.name ≠ "_") && decide (f.offset = off) && okT P f.type, eqT P n f.type with
          | true, some s => match decide (szD P f.type = s) with | true => some (off + s) | false => none
          | _, _ => none) (some 0)
    | _ => none

section
variable {P : Program} {w : World}
theorem foldl_none {α : Type} (g : Option Nat → α → Option Nat) (hg : ∀ x, g none x = none) : ∀ l : List α, l.foldl g none = none
  | [] => rfl
  | x :: l => by simp only [List.foldl_cons, hg]; exact foldl_none g hg l

theorem run_eqIn : ∀ (n : Nat) (t : TypeId) (s : Nat), eqT P n t = some s → ∀ (d : Nat) (ns ms : List Int), ns.length = s → ms.length = s → ∀ w : World,
    (isAggT P t = false → ∀ a b, ns = [a] → ms = [b] → (Op.equalIn (d + n) t (.int .i64 a) (.int .i64 b)).run P w = .ok (ns == ms) w) ∧
    (isAggT P t = true → (Op.equalIn (d + n) t (.agg (ints ns).toArray) (.agg (ints ms).toArray)).run P w = .ok (ns == ms) w) := by
  intro n
  induction n with
  | zero => intro t s h; simp [eqT] at h
  | succ n ih =>
    intro t s h d ns ms hns hms w
    unfold eqT at h
    split at h
    · rename_i hu
      constructor
      · rintro _ a b rfl rfl
        have := run_equalIn_int (P := P) w (d + n) t .i64 .i64 a b hu
        rw [show d + (n + 1) = d + n + 1 from by omega, this]
        simp
      · intro hg
        simp [isAggT, hu, isAggD] at hg
    · rename_i fs hu
      split at h
      · cases h
      · rename_i hst
        constructor
        · intro hg
          simp [isAggT, hu, isAggD] at hg
        · intro _
          have hfo : P.fieldsOf t = fs := by simp [Program.fieldsOf, hu]
          rw [show d + (n + 1) = d + n + 1 from by omega, run_equalIn_struct (P := P) w (d + n) t _ _ (by rw [hfo]; exact hu) hst, hfo]
          have key : ∀ (l : List Field) (off : Nat), l.foldl (fun (acc : Option Nat) f => match acc with
              | none => none
              | some off => match decide (f.name ≠ "_") && decide (f.offset = off) && okT P f.type, eqT P n f.type with
                | true, some s => match decide (szD P f.type = s) with | true => some (off + s) | false => none
                | _, _ => none) (some off) = some s → (Op.eqFields (d + n) (ints ns).toArray (ints ms).toArray l).run P w = .ok (ns.drop off == ms.drop off) w := by
            intro l
            induction l with
            | nil =>
              intro off ho
              simp only [List.foldl_nil, Option.some.injEq] at ho
              subst ho
              rw [List.drop_of_length_le (by omega), List.drop_of_length_le (by omega)]
              rfl
            | cons f l ihl =>
              intro off ho
              simp only [List.foldl_cons] at ho
              cases hc : (decide (f.name ≠ "_") && decide (f.offset = off) && okT P f.type) with
              | false =>
                rw [hc] at ho
                simp only at ho
                rw [foldl_none _ (fun _ => rfl)] at ho
                cases ho
              | true =>
                cases he : eqT P n f.type with
                | none =>
                  rw [hc, he] at ho
                  simp only at ho
                  rw [foldl_none _ (fun _ => rfl)] at ho
                  cases ho
                | some sf =>
                  rw [hc, he] at ho
                  simp only at ho
                  cases hz : decide (szD P f.type = sf) with
                  | false =>
                    rw [hz] at ho
                    simp only at ho
                    rw [foldl_none _ (fun _ => rfl)] at ho
                    cases ho
                  | true =>
                    rw [hz] at ho
                    simp only at ho
                    simp only [Bool.and_eq_true, decide_eq_true_eq] at hc hz
                    obtain ⟨⟨hname, hoff⟩, hok⟩ := hc
                    have hle : off + sf ≤ s := by
                      have mono : ∀ (l : List Field) (o : Nat), l.foldl (fun (acc : Option Nat) f => match acc with
                          | none => none
                          | some off => match decide (f.name ≠ "_") && decide (f.offset = off) && okT P f.type, eqT P n f.type with
                            | true, some s => match decide (szD P f.type = s) with | true => some (off + s) | false => none
                            | _, _ => none) (some o) = some s → o ≤ s := by
                        intro l
                        induction l with
                        | nil => intro o h; simp at h; omega
                        | cons g l ih2 =>
                          intro o h
                          simp only [List.foldl_cons] at h
                          split at h
                          · rename_i s2 _ _
                            split at h
                            · have := ih2 _ h; omega
                            · rw [foldl_none _ (fun _ => rfl)] at h; cases h
                          · rw [foldl_none _ (fun _ => rfl)] at h; cases h
                      exact mono l _ ho
                    obtain ⟨d', i, z, hd, hi, hz0, hs, hg, hz'⟩ := okT_inv hok
                    have hsz : i.size = sf := by omega
                    have hA : ∀ (xs : List Int), xs.length = s → (xs.drop off) = (xs.drop off).take sf ++ xs.drop (off + sf) := fun xs hxs => by
                      rw [← List.drop_drop, List.take_append_drop]
                    have hcut : ∀ xs : List Int, xs.length = s → ((ints xs).toArray.extract off (off + sf)) = (ints ((xs.drop off).take sf)).toArray := fun xs hxs => by
                      apply Array.ext'
                      simp [ints]
                    have hl1 : ((ns.drop off).take sf).length = sf := by simp; omega
                    have hl2 : ((ms.drop off).take sf).length = sf := by simp; omega
                    have heq : (ns.drop off == ms.drop off) = (((ns.drop off).take sf == (ms.drop off).take sf) && (ns.drop (off + sf) == ms.drop (off + sf))) := by
                      rw [Bool.eq_iff_iff]
                      simp only [beq_iff_eq, Bool.and_eq_true]
                      constructor
                      · intro e
                        rw [← List.drop_drop, ← List.drop_drop, e]
                        exact ⟨rfl, rfl⟩
                      · rintro ⟨e1, e2⟩
                        rw [hA ns hns, hA ms hms, e1, e2]
                    have hrest := ihl (off + sf) ho
                    have ihf := ih f.type sf he d _ _ hl1 hl2 w
                    rw [Op.eqFields, if_pos hname]
                    cases hag : isAggT P f.type with
                    | true =>
                      have p1 : (part f.type (ints ns).toArray f.offset).run P w = .ok (.agg (ints ((ns.drop off).take sf)).toArray) w := by
                        rw [run_partN hd hi (hg ▸ hag), hoff, hsz, hcut ns hns]
                      have p2 : (part f.type (ints ms).toArray f.offset).run P w = .ok (.agg (ints ((ms.drop off).take sf)).toArray) w := by
                        rw [run_partN hd hi (hg ▸ hag), hoff, hsz, hcut ms hms]
                      have p3 := ihf.2 hag
                      simp only [Sem.run_bind, p1, p2, p3, Result.andThen_ok]
                      rw [heq]
                      cases hb : ((ns.drop off).take sf == (ms.drop off).take sf) with
                      | true => simpa using hrest
                      | false => simp
                    | false =>
                      have hone : sf = 1 := by
                        cases n with
                        | zero => simp [eqT] at he
                        | succ n =>
                          unfold eqT at he
                          split at he
                          · simpa using he.symm
                          · rename_i h2; simp [isAggT, h2, isAggD] at hag
                          · cases he
                      subst hone
                      obtain ⟨x, hx⟩ : ∃ x, (ns.drop off).take 1 = [x] := by
                        match h1 : (ns.drop off).take 1, hl1 with
                        | [x], _ => exact ⟨x, rfl⟩
                      obtain ⟨y, hy⟩ : ∃ y, (ms.drop off).take 1 = [y] := by
                        match h1 : (ms.drop off).take 1, hl2 with
                        | [y], _ => exact ⟨y, rfl⟩
                      have gx : ns[off]? = some x := by
                        have : ((ns.drop off).take 1)[0]? = some x := by rw [hx]; rfl
                        simpa [List.getElem?_take, List.getElem?_drop] using this
                      have gy : ms[off]? = some y := by
                        have : ((ms.drop off).take 1)[0]? = some y := by rw [hy]; rfl
                        simpa [List.getElem?_take, List.getElem?_drop] using this
                      have p1 : (part f.type (ints ns).toArray f.offset).run P w = .ok (.int .i64 x) w := run_part1 hd (hg ▸ hag) (by rw [hoff]; simp [ints, gx])
                      have p2 : (part f.type (ints ms).toArray f.offset).run P w = .ok (.int .i64 y) w := run_part1 hd (hg ▸ hag) (by rw [hoff]; simp [ints, gy])
                      have p3 := ihf.1 hag x y hx hy
                      simp only [Sem.run_bind, p1, p2, p3, Result.andThen_ok]
                      rw [heq]
                      cases hb : ((ns.drop off).take 1 == (ms.drop off).take 1) with
                      | true => simpa using hrest
                      | false => simp
          have := key fs.toList 0 h
          simpa using this
    · cases h

theorem bO_eq {K : KV} {t : TypeId} {xo yo : Operand} {ns ms : List Int} {n : Nat} (hT : eqT P n t = some ns.length) (hg : isAggT P t = true) (hgd : P.eqGuardType P.depth t = false) (hn : n ≤ 10000) (hl : ms.length = ns.length) (hk : K (.bool (ns == ms)) w) :
    bO P .eql t xo yo (.agg (ints ns).toArray) (.agg (ints ms).toArray) w K := by
  have h := (run_eqIn n t _ hT (10000 - n) ns ms rfl hl w).2 hg
  rw [show 10000 - n + n = 10000 from by omega] at h
  refine ex_oV (w' := w) (v := .bool (ns == ms)) ?_ hk
  simp only [Sem.run_bind, run_eqGuard_agg (P := P) w .eql t xo yo _ _ hgd, Result.andThen_ok]
  rw [run_eql_struct, h]
  rfl
theorem bO_ne {K : KV} {t : TypeId} {xo yo : Operand} {ns ms : List Int} {n : Nat} (hT : eqT P n t = some ns.length) (hg : isAggT P t = true) (hgd : P.eqGuardType P.depth t = false) (hn : n ≤ 10000) (hl : ms.length = ns.length) (hk : K (.bool (!(ns == ms))) w) :
    bO P .neq t xo yo (.agg (ints ns).toArray) (.agg (ints ms).toArray) w K := by
  have h := (run_eqIn n t _ hT (10000 - n) ns ms rfl hl w).2 hg
  rw [show 10000 - n + n = 10000 from by omega] at h
  refine ex_oV (w' := w) (v := .bool (!(ns == ms))) ?_ hk
  simp only [Sem.run_bind, run_eqGuard_agg (P := P) w .neq t xo yo _ _ hgd, Result.andThen_ok]
  rw [run_neq_struct, h]
  rfl
end

end Go.E
end
