/- The engine, part A: a shallow predicate transformer over the operations of the model's code, and that each operation of it is sound. Conditions: none. -/
import Derived.WalkKit
import Derived.OrdersHeld
import Derived.OrdersIn
import Derived.TacticsIn
import Derived.RangeFuncCalls
import Derived.RangeFuncLeaves
import Derived.RangeFuncRecord
import Derived.RangeFuncIn
namespace Go.E

abbrev Ev := Nat → Value
abbrev KV := Value → World → Prop

/-- An operation's run, followed by K. -/
def ex (P : Program) (s : Sem Next) (w : World) (K : KV) : Prop :=
  match s.run P w with
  | .ok (.value v) w' => K v w'
  | .ok .skip w' => K undef w'
  | .ok (.enter f args) w' => Calls P f args w' fun e w'' => ∃ v, e = .returned v ∧ K v w''
  | .ok (.round l f tmps assign body) w' => RoundIn Fence.wide 0 P l f tmps assign body w' fun e w'' => ∃ v, e = .returned v ∧ K v w''
  | _ => False

/-- A call of a function that returns. -/
def CallsR (P : Program) (f : FuncId) (args : Array Value) (w : World) (K : KV) : Prop :=
  Calls P f args w fun e w' => ∃ v, e = .returned v ∧ K v w'

theorem CallsR.mono {P : Program} {f : FuncId} {args : Array Value} {w : World} {K K' : KV} (h : CallsR P f args w K) (hk : ∀ v w', K v w' → K' v w') : CallsR P f args w K' :=
  Calls.mono h fun _ _ ⟨v, he, hv⟩ => ⟨v, he, hk _ _ hv⟩

def hasBody (P : Program) (f : FuncId) : Bool :=
  match P.funcs[f]? with
  | some fn => fn.body.isSome && !(fn.name == "runtime.NumGoroutine")
  | none => false

def Cl (P : Program) (f : FuncId) (args : Array Value) (w : World) (K : KV) : Prop := ex P (callFunc f args) w K

/-! ### The operations -/
def ld1 (x : Value) (w : World) (K : KV) : Prop := ∃ a v, x = .pointer (some a) ∧ w.cell? a = some v ∧ K v w
def CellsAt (w : World) (a : Addr) (vs : List Value) : Prop := ∀ i v, vs[i]? = some v → w.cell? (a.add i) = some v
def ldN (n : Nat) (x : Value) (w : World) (K : KV) : Prop := ∃ a vs, x = .pointer (some a) ∧ vs.length = n ∧ CellsAt w a vs ∧ K (.agg vs.toArray) w
def flat : Value → Bool
  | .agg _ => false
  | .tuple _ => false
  | _ => true
/-- The world behind stores of one cell after the other. -/
def setCs (w : World) (a : Addr) : Nat → List Value → World
  | _, [] => w
  | i, v :: l => setCs (w.setCell (a.add i) v) a (i + 1) l
def CanSet (w : World) (a : Addr) (n : Nat) : Prop := ∀ i, i < n → (w.cell? (a.add i)).isSome = true ∧ w.frozen? (a.add i) = false
def stN (n : Nat) (x v : Value) (w : World) (K : KV) : Prop :=
  ∃ a, x = .pointer (some a) ∧ v.cells.toList.length = n ∧ (∀ c ∈ v.cells.toList, flat c = true) ∧ CanSet w a n ∧ K undef (setCs w a 0 v.cells.toList)
def al (cells : Array Value) (t : TypeId) (w : World) (K : KV) : Prop := K (.pointer (some ⟨w.heap.size, 0, none⟩)) (w.alloc (.cells cells t))
def fld (off : Nat) (x : Value) (w : World) (K : KV) : Prop := ∃ a, x = .pointer (some a) ∧ K (.pointer (some (a.add off))) w
def ixS (size : Nat) (x i : Value) (w : World) (K : KV) : Prop :=
  ∃ a n c k j, x = .slice (some a) n c ∧ i = .int k j ∧ 0 ≤ j ∧ j < (n : Int) ∧ K (.pointer (some (a.add (j.toNat * size)))) w
def ixA (len size : Nat) (x i : Value) (w : World) (K : KV) : Prop :=
  ∃ a k j, x = .pointer (some a) ∧ i = .int k j ∧ 0 ≤ j ∧ j < (len : Int) ∧ K (.pointer (some (a.add (j.toNat * size)))) w
def fv1 (off : Nat) (x : Value) (w : World) (K : KV) : Prop := ∃ cs v, x = .agg cs ∧ cs[off]? = some v ∧ K v w
def fvN (off n : Nat) (x : Value) (w : World) (K : KV) : Prop := ∃ cs, x = .agg cs ∧ K (.agg (cs.extract off (off + n))) w
def xt (i : Nat) (x : Value) (w : World) (K : KV) : Prop := ∃ vs v, x = .tuple vs ∧ vs[i]? = some v ∧ K v w
def pk (c a b : Value) (w : World) (K : KV) : Prop := ∃ q, c = .bool q ∧ K (match q with | true => a | false => b) w
def notNil : Value → Bool
  | .pointer none => false
  | .nilIface => false
  | .nilFunc => false
  | .func (.method _) _ _ => false
  | _ => true
def nc (x : Value) (w : World) (K : KV) : Prop := notNil x = true ∧ K x w
/-- The check, its value known. -/
def ncP (x : Value) (p : Prop) : Prop := notNil x = true ∧ p
def intBin (op : BinOp) (k : IntKind) (a b : Int) : Value :=
  match op with
  | .add => .int k (k.wrap (a + b))
  | .sub => .int k (k.wrap (a - b))
  | .mul => .int k (k.wrap (a * b))
  | .quo => .int k (k.wrap (a.tdiv b))
  | .rem => .int k (a.tmod b)
  | .eql => .bool (a == b)
  | .neq => .bool (a != b)
  | .lss => .bool (decide (a < b))
  | .leq => .bool (decide (a ≤ b))
  | .gtr => .bool (decide (a > b))
  | .geq => .bool (decide (a ≥ b))
  | _ => undef
def isDiv : BinOp → Bool
  | .quo => true
  | .rem => true
  | _ => false
def bi (op : BinOp) (k : IntKind) (x y : Value) (w : World) (K : KV) : Prop :=
  ∃ a b, x = .int k a ∧ y = .int k b ∧ (isDiv op = true → b ≠ 0) ∧ K (intBin op k a b) w
def bb (op : BinOp) (x y : Value) (w : World) (K : KV) : Prop :=
  ∃ a b, x = .bool a ∧ y = .bool b ∧ K (.bool (match op with | .neq => a != b | _ => a == b)) w
def bn (op : BinOp) (x : Value) (w : World) (K : KV) : Prop :=
  ∃ a, x = .pointer a ∧ K (.bool (match op with | .neq => !a.isNone | _ => a.isNone)) w
def bnot (x : Value) (w : World) (K : KV) : Prop := ∃ q, x = .bool q ∧ K (.bool !q) w
def cvI (k : IntKind) (x : Value) (w : World) (K : KV) : Prop := ∃ j n, x = .int j n ∧ K (.int k (k.wrap n)) w
def lnS (x : Value) (w : World) (K : KV) : Prop := ∃ a n c, x = .slice a n c ∧ K (.int .i64 (n : Int)) w
def lnStr (x : Value) (w : World) (K : KV) : Prop := ∃ s, x = .string s ∧ K (.int .i64 (s.size : Int)) w
def mnI (k : IntKind) (x y : Value) (w : World) (K : KV) : Prop := ∃ a b, x = .int k a ∧ y = .int k b ∧ K (.int k (if b < a then b else a)) w
def mxI (k : IntKind) (x y : Value) (w : World) (K : KV) : Prop := ∃ a b, x = .int k a ∧ y = .int k b ∧ K (.int k (if b > a then b else a)) w
/-- A call of what a function value names. -/
def clF (P : Program) (fn : Fn) (first args captured : Array Value) (w : World) (K : KV) : Prop := match fn with
  | .func f => Cl P f (first ++ args ++ captured) w K
  | .yield l => ex P (Instr.yield l (first ++ args)) w K
  | _ => False
/-- A closure's call. -/
def clV (P : Program) (fv : Value) (args : Array Value) (w : World) (K : KV) : Prop :=
  ∃ fn first captured, fv = .func fn first captured ∧ clF P fn first args captured w K
/-- An aggregate out of its parts. -/
def bld (zero : Array Value) (places : Array (Nat × Nat)) (parts : List (Nat × Value)) (w : World) (K : KV) : Prop :=
  ∃ cells, Instr.fill (places[·]?) zero parts = some cells ∧ K (.agg cells) w
def bldA (zero : Array Value) (size : Nat) (parts : List (Nat × Value)) (w : World) (K : KV) : Prop :=
  ∃ cells, Instr.fill (fun i => some (i * size, size)) zero parts = some cells ∧ K (.agg cells) w
def bsl (e : TypeId) (size len : Nat) (zero : Array Value) (parts : List (Nat × Value)) (w : World) (K : KV) : Prop :=
  ∃ cells, Instr.fill (fun i => some (i * size, size)) ((Array.range (len * size)).map (zero[· % zero.size]!)) parts = some cells ∧
    K (.slice (some ⟨w.heap.size, 0, none⟩) len len) (w.alloc (.cells cells e))
def mkMap (w : World) (K : KV) : Prop := K (.map (some w.heap.size)) (w.alloc (.map #[] 0))
def bnd (lo : Option Value) (d : Nat) (r : Nat) : Prop := match lo with | none => r = d | some v => ∃ k i, v = .int k i ∧ 0 ≤ i ∧ r = i.toNat
def slc (size : Nat) (x : Value) (lo hi : Option Value) (w : World) (K : KV) : Prop :=
  ∃ a n c l h, x = .slice a n c ∧ bnd lo 0 l ∧ bnd hi n h ∧ l ≤ h ∧ h ≤ c ∧ K (.slice (if c = l then a else a.map (·.add (l * size))) (h - l) (c - l)) w

def oV (s : Sem Value) : Sem Next := do pure (.value (← s))
def oU (s : Sem Unit) : Sem Next := do s; pure .skip

def isAggD : TypeDesc → Bool
  | .struct _ => true
  | .array .. => true
  | _ => false

/-! ### Short names for what stays a run -/
def apS (P : Program) (ts : Array TypeId) (t : TypeId) (x y : Value) (w : World) (K : KV) : Prop := ex P (oV (Builtin.append_ ts t #[x, y])) w K
def cpS (P : Program) (ts : Array TypeId) (t : TypeId) (x y : Value) (w : World) (K : KV) : Prop := ex P (oV (Builtin.copy_ ts t #[x, y])) w K
def dlM (P : Program) (ts : Array TypeId) (t : TypeId) (x y : Value) (w : World) (K : KV) : Prop := ex P (oV (Builtin.delete_ ts t #[x, y])) w K
def lnB (P : Program) (ts : Array TypeId) (t : TypeId) (x : Value) (w : World) (K : KV) : Prop := ex P (oV (Builtin.len_ ts t #[x])) w K
def lkM (P : Program) (t : TypeId) (m k : Value) (ok : Bool) (w : World) (K : KV) : Prop := ex P (oV (Instr.lookup t m k ok)) w K
def upM (P : Program) (t : TypeId) (m k x : Value) (w : World) (K : KV) : Prop := ex P (oU (Instr.mapUpdate t m k x)) w K
def rgM (P : Program) (t : TypeId) (m : Value) (w : World) (K : KV) : Prop := ex P (oV (Instr.range t m)) w K
def nxM (P : Program) (it : Value) (s : Bool) (t : TypeId) (w : World) (K : KV) : Prop := ex P (oV (Instr.next it s t)) w K
def enM (P : Program) (it : Value) (w : World) (K : KV) : Prop := ex P (oV (Instr.entry it)) w K
def tyA (P : Program) (x : Value) (s t : TypeId) (ok : Bool) (w : World) (K : KV) : Prop := ex P (oV (Instr.typeAssert x s t ok)) w K
def mkS (P : Program) (t : TypeId) (l c : Value) (w : World) (K : KV) : Prop := ex P (oV (Instr.makeSlice t l c)) w K
def ixV (P : Program) (t : TypeId) (x i : Value) (w : World) (K : KV) : Prop := ex P (oV (Instr.index t x i)) w K
def unO (P : Program) (op : UnOp) (x : Value) (w : World) (K : KV) : Prop := ex P (oV (Op.unary op x)) w K
def cvO (P : Program) (s d : TypeId) (x : Value) (w : World) (K : KV) : Prop := ex P (oV (convert s d x)) w K
def bO (P : Program) (op : BinOp) (t : TypeId) (xo yo : Operand) (x y : Value) (w : World) (K : KV) : Prop := ex P (oV (do eqGuard op t xo yo x y; binOp op t x y)) w K

section
variable (P : Program)
def szD (t : TypeId) : Nat := match P.info? t with | some i => i.size | none => 0
def isAggT (t : TypeId) : Bool := match P.underlying t with | some d => isAggD d | none => false
def zeroD (t : TypeId) : Array Value := match (P.info? t).bind (·.zero) with | some z => z.cells | none => #[]
def okT (t : TypeId) : Bool := (P.underlying t).isSome && (P.info? t).isSome && ((P.info? t).bind (·.zero)).isSome

def fieldOf (s : TypeId) (f : Nat) : Option Field := match P.underlying s with | some (.struct fs) => fs[f]? | _ => none

/-- What one operation asks. -/
def semOp (o : Oper) (f : Operand → Value) (w : World) (K : KV) : Prop :=
  match o.op with
  | .move x => K (f x) w
  | .assign x => K (f x) w
  | .pick c a b => pk (f c) (f a) (f b) w K
  | .alloc e => match okT P e with
    | true => al (zeroD P e) e w K
    | false => False
  | .box e x => al (f x).cells e w K
  | .build t parts => match P.underlying t, okT P t with
    | some (.struct fs), true => match fs.all fun g => okT P g.type with
      | true => bld (zeroD P t) (fs.map fun g => (g.offset, szD P g.type)) (parts.map fun (i, x) => (i, f x)).toList w K
      | false => False
    | some (.array _ e), true => match okT P e with
      | true => bldA (zeroD P t) (szD P e) (parts.map fun (i, x) => (i, f x)).toList w K
      | false => False
    | _, _ => False
  | .buildSlice t len parts => match P.underlying t with
    | some (.slice e) => match okT P e && decide (len * szD P e ≤ 65536), decide (len * szD P e = 0) with
      | true, true => bsl e (szD P e) len #[] (parts.map fun (i, x) => (i, f x)).toList w K
      | true, false => bsl e (szD P e) len (zeroD P e) (parts.map fun (i, x) => (i, f x)).toList w K
      | false, _ => False
    | _ => False
  | .load t a => match okT P t, isAggT P t with
    | true, true => ldN (szD P t) (f a) w K
    | true, false => ld1 (f a) w K
    | false, _ => False
  | .store t a x => match okT P t with
    | true => stN (szD P t) (f a) (f x) w K
    | false => False
  | .nilCheck x => nc (f x) w K
  | .binOp op t x y _ => match P.underlying t, op with
    | some (.int k), .add => bi .add k (f x) (f y) w K
    | some (.int k), .sub => bi .sub k (f x) (f y) w K
    | some (.int k), .mul => bi .mul k (f x) (f y) w K
    | some (.int k), .quo => bi .quo k (f x) (f y) w K
    | some (.int k), .rem => bi .rem k (f x) (f y) w K
    | some (.int k), .eql => bi .eql k (f x) (f y) w K
    | some (.int k), .neq => bi .neq k (f x) (f y) w K
    | some (.int k), .lss => bi .lss k (f x) (f y) w K
    | some (.int k), .leq => bi .leq k (f x) (f y) w K
    | some (.int k), .gtr => bi .gtr k (f x) (f y) w K
    | some (.int k), .geq => bi .geq k (f x) (f y) w K
    | some .bool, .eql => bb .eql (f x) (f y) w K
    | some .bool, .neq => bb .neq (f x) (f y) w K
    | some (.pointer _), .eql => match y with
      | .const (.pointer none) => bn .eql (f x) w K
      | _ => ex P (execOp f o) w K
    | some (.pointer _), .neq => match y with
      | .const (.pointer none) => bn .neq (f x) w K
      | _ => ex P (execOp f o) w K
    | _, _ => ex P (oV (do eqGuard op t x y (f x) (f y); binOp op t (f x) (f y))) w K
  | .unOp op _ x => match op with
    | .not => bnot (f x) w K
    | _ => ex P (oV (Op.unary op (f x))) w K
  | .convert src dst x => match P.underlying src, P.underlying dst with
    | some (.int _), some (.int k) => cvI k (f x) w K
    | _, _ => ex P (oV (convert src dst (f x))) w K
  | .makeInterface t x => match P.underlying t with
    | some (.interface _) => False
    | some _ => K (.iface t (f x)) w
    | none => False
  | .makeFunc fn first captured => K (.func fn (first.map f) (captured.map f)) w
  | .makeMap _ none => mkMap w K
  | .slice t x lo hi none => match P.underlying t with
    | some (.slice e) => match okT P e with
      | true => slc (szD P e) (f x) (lo.map f) (hi.map f) w K
      | false => False
    | _ => ex P (execOp f o) w K
  | .fieldAddr s x g => match fieldOf P s g with
    | some fd => match okT P fd.type, decide (szD P fd.type = 0) with
      | true, false => fld fd.offset (f x) w K
      | _, _ => False
    | none => False
  | .field s x g => match fieldOf P s g with
    | some fd => match okT P fd.type, isAggT P fd.type with
      | true, true => fvN fd.offset (szD P fd.type) (f x) w K
      | true, false => fv1 fd.offset (f x) w K
      | false, _ => False
    | none => False
  | .indexAddr t x i => match P.underlying t with
    | some (.slice e) => match okT P e with
      | true => ixS (szD P e) (f x) (f i) w K
      | false => False
    | some (.array len e) => match okT P e with
      | true => ixA len (szD P e) (f x) (f i) w K
      | false => False
    | _ => False
  | .extract x i => xt i (f x) w K
  | .index t x i => ex P (oV (Instr.index t (f x) (f i))) w K
  | .lookup t x i ok => ex P (oV (Instr.lookup t (f x) (f i) ok)) w K
  | .mapUpdate t m k x => ex P (oU (Instr.mapUpdate t (f m) (f k) (f x))) w K
  | .range t x => ex P (oV (Instr.range t (f x))) w K
  | .next it s => ex P (oV (Instr.next (f it) s o.type)) w K
  | .entry it => ex P (oV (Instr.entry (f it))) w K
  | .typeAssert x s t ok => ex P (oV (Instr.typeAssert (f x) s t ok)) w K
  | .makeSlice t l c => ex P (oV (Instr.makeSlice t (f l) (f c))) w K
  | .call c => match c.callee with
    | .value (.func g) => Cl P g (c.args.map f) w K
    | .value (.tmp t) => clV P (f (.tmp t)) (c.args.map f) w K
    | .builtin b => match b, c.args.toList, c.argTypes.toList with
      | .len, [x], [t] => match P.underlying t with
        | some (.slice _) => lnS (f x) w K
        | some .string => lnStr (f x) w K
        | _ => ex P (oV (Builtin.len_ c.argTypes o.type #[f x])) w K
      | .min, [x, y], [t, _] => match P.underlying t with
        | some (.int k) => mnI k (f x) (f y) w K
        | _ => ex P (execOp f o) w K
      | .max, [x, y], [t, _] => match P.underlying t with
        | some (.int k) => mxI k (f x) (f y) w K
        | _ => ex P (execOp f o) w K
      | .append, [x, y], _ => ex P (oV (Builtin.append_ c.argTypes o.type #[f x, f y])) w K
      | .copy, [x, y], _ => ex P (oV (Builtin.copy_ c.argTypes o.type #[f x, f y])) w K
      | .delete, [x, y], _ => ex P (oV (Builtin.delete_ c.argTypes o.type #[f x, f y])) w K
      | _, _, _ => ex P (execOp f o) w K
    | _ => ex P (execOp f o) w K
  | _ => ex P (execOp f o) w K
end

end Go.E
