/- Texts of the proof, joined. Conditions: none. -/
import Derived.WalkKit
import Derived.OrdersHeld
import Derived.OrdersIn
import Derived.TacticsIn
import Derived.RangeFuncCalls
import Derived.RangeFuncLeaves
import Derived.RangeFuncRecord
import Derived.RangeFuncIn
import Derived.Laws.StructEq
import Derived.Laws.Append
import Derived.ProofKit
import Derived.Deep.Slices
section
namespace Go.E
abbrev Iw (n:Int):Value:=.int .i64 n
abbrev pt (n:Nat):Value:=.pointer (some ⟨n,0,none⟩)
abbrev Bt:Value:=.bool true
abbrev Bf:Value:=.bool false
abbrev Pn:Value:=.pointer none
abbrev Sn:Value:=.slice none 0 0
abbrev Ev:=Nat->Value
abbrev KV:=Value->World->Prop
def ex (P:Program) (s:Sem Next) (w:World) (K:KV):Prop:=
 match s.run P w with
 | .ok (.value v) w'=>K v w'
 | .ok .skip w'=>K undef w'
 | .ok (.enter f args) w'=>Calls P f args w' λe w''=>∃v,e=.returned v/\K v w''
 | .ok (.round l f tmps assign body) w'=>RoundIn Fence.wide 0 P l f tmps assign body w' λe w''=>∃v,e=.returned v/\K v w''
 | _=>False
def Zdi (P:Program) (f:FuncId) (args:Array Value) (w:World) (K:KV):Prop:=
 Calls P f args w λe w'=>∃v,e=.returned v/\K v w'
theorem Zdi.mono {P:Program} {f:FuncId} {args:Array Value} {w:World} {K K':KV} (h:Zdi P f args w K) (hk:∀v w',K v w'->K' v w'):Zdi P f args w K':=
 Calls.mono h λ_ _ ⟨v,he,hv⟩=>⟨v,he,hk _ _ hv⟩
def ZdL (P:Program) (f:FuncId):Bool:=
 match P.funcs[f]? with
 | some fn=>fn.body.isSome&&!(fn.name== "runtime.NumGoroutine")
 | none=>false
def Cl (P:Program) (f:FuncId) (args:Array Value) (w:World) (K:KV):Prop:=ex P (callFunc f args) w K
def ld1 (x:Value) (w:World) (K:KV):Prop:=∃a v,x=.pointer (some a)/\w.cell? a=some v/\K v w
def Zj1 (w:World) (a:Addr) (vs:List Value):Prop:=∀i v,vs[i]?=some v->w.cell? (a.add i)=some v
def ldN (n:Nat) (x:Value) (w:World) (K:KV):Prop:=∃a vs,x=.pointer (some a)/\vs.length=n/\Zj1 w a vs/\K (.agg vs.toArray) w
def flat:Value->Bool
 | .agg _=>false
 | .tuple _=>false
 | _=>true
def ZjP (w:World) (a:Addr):Nat->List Value->World
 | _,[]=>w
 | i,v::l=>ZjP (w.setCell (a.add i) v) a (i+1) l
def Zx3 (w:World) (a:Addr) (n:Nat):Prop:=∀i,i<n->(w.cell?<|a.add i).isSome=true/\w.frozen? (a.add i)=false
def stN (n:Nat) (x v:Value) (w:World) (K:KV):Prop:=
 ∃a,x=.pointer (some a)/\v.cells.toList.length=n/\(∀c∈v.cells.toList,flat c=true)/\Zx3 w a n/\K undef (ZjP w a 0 v.cells.toList)
def al (cells:Array Value) (t:TypeId) (w:World) (K:KV):Prop:=K (pt w.heap.size)<|w.alloc (.cells cells t)
def fld (off:Nat) (x:Value) (w:World) (K:KV):Prop:=∃a,x=.pointer (some a)/\K (.pointer<|some<|a.add off) w
def ixS (size:Nat) (x i:Value) (w:World) (K:KV):Prop:=
 ∃a n c k j,x=.slice (some a) n c/\i=.int k j/\0<=j/\j<(n:Int)/\K (.pointer<|some<|a.add<|j.toNat*size) w
def ixA (len size:Nat) (x i:Value) (w:World) (K:KV):Prop:=
 ∃a k j,x=.pointer (some a)/\i=.int k j/\0<=j/\j<(len:Int)/\K (.pointer<|some<|a.add<|j.toNat*size) w
def fv1 (off:Nat) (x:Value) (w:World) (K:KV):Prop:=∃cs v,x=.agg cs/\cs[off]?=some v/\K v w
def fvN (off n:Nat) (x:Value) (w:World) (K:KV):Prop:=∃cs,x=.agg cs/\K (.agg<|cs.extract off<|off+n) w
def xt (i:Nat) (x:Value) (w:World) (K:KV):Prop:=∃vs v,x=.tuple vs/\vs[i]?=some v/\K v w
def pk (c a b:Value) (w:World) (K:KV):Prop:=∃q,c=.bool q/\K (match q with | true=>a | false=>b) w
def ZnI:Value->Bool
 | .pointer none=>false
 | .nilIface=>false
 | .nilFunc=>false
 | .func (.method _) _ _=>false
 | _=>true
def nc (x:Value) (w:World) (K:KV):Prop:=ZnI x=true/\K x w
def ncP (x:Value) (p:Prop):Prop:=ZnI x=true/\p
def Zce (op:BinOp) (k:IntKind) (a b:Int):Value:=
 match op with
 | .add=>.int k (k.wrap<|a+b)
 | .sub=>.int k (k.wrap<|a - b)
 | .mul=>.int k (k.wrap<|a*b)
 | .quo=>.int k (k.wrap<|a.tdiv b)
 | .rem=>.int k (a.tmod b)
 | .eql=>.bool (a==b)
 | .neq=>.bool (a != b)
 | .lss=>.bool (decide<|a<b)
 | .leq=>.bool (decide<|a<=b)
 | .gtr=>.bool (decide<|a > b)
 | .geq=>.bool (decide<|a>=b)
 | _=>undef
def Zwm:BinOp->Bool
 | .quo=>true
 | .rem=>true
 | _=>false
def bi (op:BinOp) (k:IntKind) (x y:Value) (w:World) (K:KV):Prop:=
 ∃a b,x=.int k a/\y=.int k b/\(Zwm op=true->b≠0)/\K (Zce op k a b) w
def bb (op:BinOp) (x y:Value) (w:World) (K:KV):Prop:=
 ∃a b,x=.bool a/\y=.bool b/\K (.bool (match op with | .neq=>a != b | _=>a==b)) w
def bn (op:BinOp) (x:Value) (w:World) (K:KV):Prop:=
 ∃a,x=.pointer a/\K (.bool (match op with | .neq=>!a.isNone | _=>a.isNone)) w
def Zb3 (x:Value) (w:World) (K:KV):Prop:=∃q,x=.bool q/\K (.bool !q) w
def cvI (k:IntKind) (x:Value) (w:World) (K:KV):Prop:=∃j n,x=.int j n/\K (.int k<|k.wrap n) w
def lnS (x:Value) (w:World) (K:KV):Prop:=∃a n c,x=.slice a n c/\K (Iw (n:Int)) w
def ZGd (x:Value) (w:World) (K:KV):Prop:=∃s,x=.string s/\K (Iw (s.size:Int)) w
def mnI (k:IntKind) (x y:Value) (w:World) (K:KV):Prop:=∃a b,x=.int k a/\y=.int k b/\K (.int k<|if b<a then b else a) w
def mxI (k:IntKind) (x y:Value) (w:World) (K:KV):Prop:=∃a b,x=.int k a/\y=.int k b/\K (.int k<|if b > a then b else a) w
def clF (P:Program) (fn:Fn) (first args captured:Array Value) (w:World) (K:KV):Prop:=match fn with
 | .func f=>Cl P f (first++args++captured) w K
 | .yield l=>ex P (Instr.yield l<|first++args) w K
 | _=>False
def clV (P:Program) (fv:Value) (args:Array Value) (w:World) (K:KV):Prop:=
 ∃fn first captured,fv=.func fn first captured/\clF P fn first args captured w K
def bld (zero:Array Value) (places:Array<|Nat × Nat) (parts:List<|Nat × Value) (w:World) (K:KV):Prop:=
 ∃cells,Instr.fill (places[·]?) zero parts=some cells/\K (.agg cells) w
def ZHE (zero:Array Value) (size:Nat) (parts:List<|Nat × Value) (w:World) (K:KV):Prop:=
 ∃cells,Instr.fill (λi=>some (i*size,size)) zero parts=some cells/\K (.agg cells) w
def bsl (e:TypeId) (size len:Nat) (zero:Array Value) (parts:List (Nat × Value)) (w:World) (K:KV):Prop:=
 ∃cells,Instr.fill (λi=>some (i*size,size)) ((Array.range (len*size)).map (zero[· % zero.size]!)) parts=some cells/\
  K (.slice (some ⟨w.heap.size,0,none⟩) len len) (w.alloc (.cells cells e))
def ZlQ (w:World) (K:KV):Prop:=K (.map<|some w.heap.size)<|w.alloc (.map #[] 0)
def bnd (lo:Option Value) (d:Nat) (r:Nat):Prop:=match lo with | none=>r=d | some v=>∃k i,v=.int k i/\0<=i/\r=i.toNat
def slc (size:Nat) (x:Value) (lo hi:Option Value) (w:World) (K:KV):Prop:=
 ∃a n c l h,x=.slice a n c/\bnd lo 0 l/\bnd hi n h/\l<=h/\h<=c/\K (.slice (if c=l then a else a.map (·.add (l*size))) (h - l)<|c - l) w
def oV (s:Sem Value):Sem Next:=do pure (.value<|<-s)
def oU (s:Sem Unit):Sem Next:=do s;pure .skip
def ZeC:TypeDesc->Bool
 | .struct _=>true
 | .array ..=>true
 | _=>false
def apS (P:Program) (ts:Array TypeId) (t:TypeId) (x y:Value) (w:World) (K:KV):Prop:=ex P (oV<|Builtin.append_ ts t #[x,y]) w K
def dlM (P:Program) (ts:Array TypeId) (t:TypeId) (x y:Value) (w:World) (K:KV):Prop:=ex P (oV<|Builtin.delete_ ts t #[x,y]) w K
def lkM (P:Program) (t:TypeId) (m k:Value) (ok:Bool) (w:World) (K:KV):Prop:=ex P (oV<|Instr.lookup t m k ok) w K
def upM (P:Program) (t:TypeId) (m k x:Value) (w:World) (K:KV):Prop:=ex P (oU<|Instr.mapUpdate t m k x) w K
def rgM (P:Program) (t:TypeId) (m:Value) (w:World) (K:KV):Prop:=ex P (oV<|Instr.range t m) w K
def nxM (P:Program) (it:Value) (s:Bool) (t:TypeId) (w:World) (K:KV):Prop:=ex P (oV<|Instr.next it s t) w K
def enM (P:Program) (it:Value) (w:World) (K:KV):Prop:=ex P (oV<|Instr.entry it) w K
def tyA (P:Program) (x:Value) (s t:TypeId) (ok:Bool) (w:World) (K:KV):Prop:=ex P (oV<|Instr.typeAssert x s t ok) w K
def mkS (P:Program) (t:TypeId) (l c:Value) (w:World) (K:KV):Prop:=ex P (oV<|Instr.makeSlice t l c) w K
def bO (P:Program) (op:BinOp) (t:TypeId) (xo yo:Operand) (x y:Value) (w:World) (K:KV):Prop:=ex P (oV<|do eqGuard op t xo yo x y;binOp op t x y) w K
section
variable (P:Program)
def szD (t:TypeId):Nat:=match P.info? t with | some i=>i.size | none=>0
def Zb7 (t:TypeId):Bool:=match P.underlying t with | some d=>ZeC d | none=>false
def Zl (t:TypeId):Array Value:=match (P.info? t).bind (·.zero) with | some z=>z.cells | none=>#[]
def okT (t:TypeId):Bool:=(P.underlying t).isSome&&(P.info? t).isSome&&((P.info? t).bind (·.zero)).isSome
def Zj6 (s:TypeId) (f:Nat):Option Field:=match P.underlying s with | some (.struct fs)=>fs[f]? | _=>none
def ZaV (o:Oper) (f:Operand->Value) (w:World) (K:KV):Prop:=
 match o.op with
 | .move x=>K (f x) w
 | .assign x=>K (f x) w
 | .pick c a b=>pk (f c) (f a) (f b) w K
 | .alloc e=>match okT P e with
  | true=>al (Zl P e) e w K
  | false=>False
 | .box e x=>al (f x).cells e w K
 | .build t parts=>match P.underlying t,okT P t with
  | some (.struct fs),true=>match fs.all λg=>okT P g.type with
   | true=>bld (Zl P t) (fs.map λg=>(g.offset,szD P g.type)) (parts.map λ(i,x)=>(i,f x)).toList w K
   | false=>False
  | some (.array _ e),true=>match okT P e with
   | true=>ZHE (Zl P t) (szD P e) (parts.map λ(i,x)=>(i,f x)).toList w K
   | false=>False
  | _,_=>False
 | .buildSlice t len parts=>match P.underlying t with
  | some (.slice e)=>match okT P e&&decide (len*szD P e<=65536),decide (len*szD P e=0) with
   | true,true=>bsl e (szD P e) len #[] (parts.map λ(i,x)=>(i,f x)).toList w K
   | true,false=>bsl e (szD P e) len (Zl P e) (parts.map λ(i,x)=>(i,f x)).toList w K
   | false,_=>False
  | _=>False
 | .load t a=>match okT P t,Zb7 P t with
  | true,true=>ldN (szD P t) (f a) w K
  | true,false=>ld1 (f a) w K
  | false,_=>False
 | .store t a x=>match okT P t with
  | true=>stN (szD P t) (f a) (f x) w K
  | false=>False
 | .nilCheck x=>nc (f x) w K
 | .binOp op t x y _=>match P.underlying t,op with
  | some (.int k),.add=>bi .add k (f x) (f y) w K
  | some (.int k),.sub=>bi .sub k (f x) (f y) w K
  | some (.int k),.mul=>bi .mul k (f x) (f y) w K
  | some (.int k),.quo=>bi .quo k (f x) (f y) w K
  | some (.int k),.rem=>bi .rem k (f x) (f y) w K
  | some (.int k),.eql=>bi .eql k (f x) (f y) w K
  | some (.int k),.neq=>bi .neq k (f x) (f y) w K
  | some (.int k),.lss=>bi .lss k (f x) (f y) w K
  | some (.int k),.leq=>bi .leq k (f x) (f y) w K
  | some (.int k),.gtr=>bi .gtr k (f x) (f y) w K
  | some (.int k),.geq=>bi .geq k (f x) (f y) w K
  | some .bool,.eql=>bb .eql (f x) (f y) w K
  | some .bool,.neq=>bb .neq (f x) (f y) w K
  | some (.pointer _),.eql=>match y with
   | .const (.pointer none)=>bn .eql (f x) w K
   | _=>ex P (execOp f o) w K
  | some (.pointer _),.neq=>match y with
   | .const (.pointer none)=>bn .neq (f x) w K
   | _=>ex P (execOp f o) w K
  | _,_=>ex P (oV<|do eqGuard op t x y (f x) (f y);binOp op t (f x) (f y)) w K
 | .unOp op _ x=>match op with
  | .not=>Zb3 (f x) w K
  | _=>ex P (oV<|Op.unary op<|f x) w K
 | .convert src dst x=>match P.underlying src,P.underlying dst with
  | some (.int _),some (.int k)=>cvI k (f x) w K
  | _,_=>ex P (oV<|convert src dst<|f x) w K
 | .makeInterface t x=>match P.underlying t with
  | some (.interface _)=>False
  | some _=>K (.iface t<|f x) w
  | none=>False
 | .makeFunc fn first captured=>K (.func fn (first.map f)<|captured.map f) w
 | .makeMap _ none=>ZlQ w K
 | .slice t x lo hi none=>match P.underlying t with
  | some (.slice e)=>match okT P e with
   | true=>slc (szD P e) (f x) (lo.map f) (hi.map f) w K
   | false=>False
  | _=>ex P (execOp f o) w K
 | .fieldAddr s x g=>match Zj6 P s g with
  | some fd=>match okT P fd.type,decide (szD P fd.type=0) with
   | true,false=>fld fd.offset (f x) w K
   | _,_=>False
  | none=>False
 | .field s x g=>match Zj6 P s g with
  | some fd=>match okT P fd.type,Zb7 P fd.type with
   | true,true=>fvN fd.offset (szD P fd.type) (f x) w K
   | true,false=>fv1 fd.offset (f x) w K
   | false,_=>False
  | none=>False
 | .indexAddr t x i=>match P.underlying t with
  | some (.slice e)=>match okT P e with
   | true=>ixS (szD P e) (f x) (f i) w K
   | false=>False
  | some (.array len e)=>match okT P e with
   | true=>ixA len (szD P e) (f x) (f i) w K
   | false=>False
  | _=>False
 | .extract x i=>xt i (f x) w K
 | .index t x i=>ex P (oV<|Instr.index t (f x)<|f i) w K
 | .lookup t x i ok=>ex P (oV<|Instr.lookup t (f x) (f i) ok) w K
 | .mapUpdate t m k x=>ex P (oU<|Instr.mapUpdate t (f m) (f k)<|f x) w K
 | .range t x=>ex P (oV<|Instr.range t<|f x) w K
 | .next it s=>ex P (oV<|Instr.next (f it) s o.type) w K
 | .entry it=>ex P (oV<|Instr.entry<|f it) w K
 | .typeAssert x s t ok=>ex P (oV<|Instr.typeAssert (f x) s t ok) w K
 | .makeSlice t l c=>ex P (oV<|Instr.makeSlice t (f l)<|f c) w K
 | .call c=>match c.callee with
  | .value (.func g)=>Cl P g (c.args.map f) w K
  | .value (.tmp t)=>clV P (f (.tmp t)) (c.args.map f) w K
  | .builtin b=>match b,c.args.toList,c.argTypes.toList with
   | .len,[x],[t]=>match P.underlying t with
    | some (.slice _)=>lnS (f x) w K
    | some .string=>ZGd (f x) w K
    | _=>ex P (oV<|Builtin.len_ c.argTypes o.type #[f x]) w K
   | .min,[x,y],[t,_]=>match P.underlying t with
    | some (.int k)=>mnI k (f x) (f y) w K
    | _=>ex P (execOp f o) w K
   | .max,[x,y],[t,_]=>match P.underlying t with
    | some (.int k)=>mxI k (f x) (f y) w K
    | _=>ex P (execOp f o) w K
   | .append,[x,y],_=>ex P (oV<|Builtin.append_ c.argTypes o.type #[f x,f y]) w K
   | .copy,[x,y],_=>ex P (oV<|Builtin.copy_ c.argTypes o.type #[f x,f y]) w K
   | .delete,[x,y],_=>ex P (oV<|Builtin.delete_ c.argTypes o.type #[f x,f y]) w K
   | _,_,_=>ex P (execOp f o) w K
  | _=>ex P (execOp f o) w K
 | _=>ex P (execOp f o) w K
end
end Go.E
end
section
namespace Go.E
open Go.RowKit
section
variable {P:Program} {f:Operand->Value} {w:World} {K:KV}
theorem Za9 {t:TypeId} (h:okT P t=true):∃d i z,P.underlying t=some d/\P.info? t=some i/\i.zero=some z/\szD P t=i.size/\Zb7 P t=ZeC d/\Zl P t=z.cells:=by
 unfold okT at h;simp only[Bool.and_eq_true] at h;obtain ⟨⟨h1,h2⟩,h3⟩:=h;obtain ⟨d,hd⟩:=Option.isSome_iff_exists.1 h1;obtain ⟨i,hi⟩:=Option.isSome_iff_exists.1 h2;rw[hi] at h3;obtain ⟨z,hz⟩:=Option.isSome_iff_exists.1 h3;simp at hz;exact ⟨d,i,z,hd,hi,hz,by simp[szD,hi],by simp[Zb7,hd],by simp[Zl,hi,hz]⟩
theorem Yb {t:TypeId} {d:TypeDesc} (h:P.underlying t=some d) (w:World):(underlying t).run P w=.ok d w:=by
 simp[underlying,program,h,Sem.run]
theorem ZnL {t:TypeId} {i:TypeInfo} (h:P.info? t=some i) (w:World):(typeInfo t).run P w=.ok i w:=by
 simp[typeInfo,program,h,Sem.run]
theorem Zcj {t:TypeId} {i:TypeInfo} (h:P.info? t=some i) (w:World):(sizeOf t).run P w=.ok i.size w:=by
 simp[sizeOf,ZnL h]
theorem Zdn {t:TypeId} {i:TypeInfo} {z:Value} (h:P.info? t=some i) (hz:i.zero=some z) (w:World):(zeroValue t).run P w=.ok z w:=by
 simp[zeroValue,ZnL h,hz]
theorem Zfh {t:TypeId} {d:TypeDesc} (h:P.underlying t=some d) (w:World):(isAgg t).run P w=.ok (ZeC d) w:=by
 cases d <;> simp[isAgg,Yb h,ZeC]
theorem Zqj {a:Addr} {v:Value} (h:w.cell? a=some v):(load a).run P w=.ok v w:=by simp[load,Sem.run,h]
theorem ZiI {a:Addr}:∀(vs:List Value) (i:Nat) (acc:Array Value),(∀j v,vs[j]?=some v->w.cell? (a.add<|i+j)=some v)->
  (loadCellsFrom a i vs.length acc).run P w=.ok (acc++vs.toArray) w
 | [],i,acc,_=>by simp[loadCellsFrom]
 | v::vs,i,acc,h=>by
  have h0:=h 0 v rfl;simp only[Nat.add_zero] at h0;have ih:=ZiI vs (i+1) (acc.push v) (λj u hj=>by
   have:=h (j+1) u hj;rw[show i+1+j=i+(j+1) from by omega];exact this)
  simp only[List.length_cons,loadCellsFrom,Sem.run_bind,Zqj h0,Result.andThen_ok];rw[ih];simp
theorem ZoU {a:Addr} {vs:List Value} (h:Zj1 w a vs):(loadCells a vs.length).run P w=.ok vs.toArray w:=by
 unfold loadCells;rw[ZiI vs 0 #[] (λj v hj=>by rw[Nat.zero_add];exact h j v hj)];simp
theorem ZkU {t:TypeId} {d:TypeDesc} {i:TypeInfo} (hd:P.underlying t=some d) (hi:P.info? t=some i) (hg:ZeC d=true) {a:Addr} {vs:List Value} (hn:vs.length=i.size) (h:Zj1 w a vs) :
  (loadVar t a).run P w=.ok (.agg vs.toArray) w:=by
 simp only[loadVar,Sem.run_bind,Zfh hd,Result.andThen_ok,hg,if_true,Zcj hi,<-hn,ZoU h,Sem.run_pure]
theorem ZkE {t:TypeId} {d:TypeDesc} (hd:P.underlying t=some d) (hg:ZeC d=false) {a:Addr} {v:Value} (h:w.cell? a=some v) :
  (loadVar t a).run P w=.ok v w:=by
 simp only[loadVar,Sem.run_bind,Zfh hd,Result.andThen_ok,hg,Bool.false_eq_true,if_false,Zqj h]
theorem Ztk {a:Addr} {v u:Value} (hv:flat v=true) (h:w.cell? a=some u) (hf:w.frozen? a=false):(store a v).run P w=.ok () (w.setCell a v):=by
 cases v <;> simp[flat] at hv <;> simp[store,Sem.run,h,hf]
theorem Zho (a b:Addr) (v:Value) (h:(w.cell? b).isSome=true):((w.setCell a v).cell? b).isSome=true:=by
 obtain ⟨u,hu⟩:=Option.isSome_iff_exists.1 h;obtain ⟨v',hv'⟩:=cell?_setCell_some (w:=w) (p:=a) (x:=v) (q:=b) (v:=u) hu;rw[hv'];rfl
theorem ZdH {a:Addr}:∀(vs:List Value) (i:Nat) (w:World),(∀c∈vs,flat c=true)->(∀j,i<=j->j<i+vs.length->(w.cell?<|a.add j).isSome=true/\w.frozen? (a.add j)=false)->
  (storeCells a vs i).run P w=.ok () (ZjP w a i vs)
 | [],i,w,_,_=>by simp[storeCells,ZjP]
 | v::vs,i,w,hv,h=>by
  obtain ⟨h1,h2⟩:=h i (Nat.le_refl _) (by simp);obtain ⟨u,hu⟩:=Option.isSome_iff_exists.1 h1;have hs:(store (a.add i) v).run P w=.ok () (w.setCell (a.add i) v):=Ztk (hv v<|by simp) hu h2;have ih:=ZdH vs (i+1) (w.setCell (a.add i) v) (λc hc=>hv c<|by simp[hc]) (λj h3 h4=>by
   obtain ⟨h5,h6⟩:=h j (by omega) (by simp at h4 ⊢;omega);exact ⟨Zho _ _ _ h5,by rw[World.frozen?_setCell];exact h6⟩)
  simp only[storeCells,ZjP,Sem.run_bind,hs,Result.andThen_ok];exact ih
theorem Zp4 {t:TypeId} {i:TypeInfo} (hi:P.info? t=some i) {a:Addr} {v:Value} (hn:v.cells.toList.length=i.size) (hf:∀c∈v.cells.toList,flat c=true) (hc:Zx3 w a i.size) :
  (storeVar t a v).run P w=.ok () (ZjP w a 0 v.cells.toList):=by
 have hn':v.cells.size=i.size:=hn;have hs:(storeCells a v.cells.toList 0).run P w=.ok () (ZjP w a 0 v.cells.toList):=
  ZdH v.cells.toList 0 w hf (λj _ h2=>hc j<|by rw[hn] at h2;omega)
 simp only[storeVar,Sem.run_bind,Zcj hi,Result.andThen_ok,hn',ne_eq,not_true_eq_false,if_false];exact hs
theorem Yn {s:Sem Value} {v:Value} {w':World} (h:s.run P w=.ok v w') (hk:K v w'):ex P (oV s) w K:=by
 unfold ex oV;simp only[Sem.run_bind,h,Result.andThen_ok,Sem.run_pure];exact hk
theorem Zwl {s:Sem Unit} {w':World} (h:s.run P w=.ok () w') (hk:K undef w'):ex P (oU s) w K:=by
 unfold ex oU;simp only[Sem.run_bind,h,Result.andThen_ok,Sem.run_pure];exact hk
theorem Zcu {g:FuncId} {args:Array Value} (hb:ZdL P g=true):(callFunc g args).run P w=.ok (.enter g args) w:=by
 unfold ZdL at hb;cases hf:P.funcs[g]? with
 | none=>rw[hf] at hb;simp at hb
 | some fn=>
  rw[hf] at hb;simp only[Bool.and_eq_true,Bool.not_eq_true'] at hb;obtain ⟨h1,h2⟩:=hb;have h3:fn.body.isNone=false:=by cases hbd:fn.body <;> simp_all
  simp only[callFunc,program,Sem.run_bind,Sem.run,Result.andThen_ok,hf,h2,h3,Bool.false_eq_true,if_false];rfl
theorem Zwr {s:Sem Next} {g:FuncId} {args:Array Value} (h:s.run P w=.ok (.enter g args) w) (hk:Zdi P g args w K):ex P s w K:=by
 unfold ex;rw[h];exact hk
theorem Cl.mk {g:FuncId} {args:Array Value} (hb:ZdL P g=true) (h:Zdi P g args w K):Cl P g args w K:=Zwr (Zcu hb) h
theorem Cl.ret {g:FuncId} {args:Array Value} (hb:ZdL P g=true) (h:Cl P g args w K):Zdi P g args w K:=by
 unfold Cl ex at h;rw[Zcu hb] at h;exact h
theorem Zi5 {s s':Sem Next} (e:s.run P w=s'.run P w) (h:ex P s' w K):ex P s w K:=by
 unfold ex at h ⊢;rw[e];exact h
theorem ZnM (w:World):∀(l:List Field),l.all (λg=>okT P g.type)=true->
  (l.mapM (m:=Sem) λg=>do pure (g.offset,<-sizeOf g.type)).run P w=.ok (l.map λg=>(g.offset,szD P g.type)) w
 | [],_=>by simp
 | g::l,h=>by
  simp only[List.all_cons,Bool.and_eq_true] at h;obtain ⟨d,i,z,hd,hi,hz,hs,hg,hz'⟩:=Za9 h.1;have ih:=ZnM w l h.2;simp only[List.mapM_cons,Sem.run_bind,Zcj hi,Result.andThen_ok,Sem.run_pure,ih,hs,List.map_cons]
theorem Zik {x:Value} {y r:Nat} {k:IntKind} {i:Int} (hx:x=.int k i) (h0:0<=i) (hr:r=i.toNat) (hy:r<=y) (c:BoundsCode):(Instr.sliceBound x y c).run P w=.ok r w:=by
 subst hx;have h2:i<=y:=by omega
 simp[Instr.sliceBound,asIntOf,h0,h2,hr]
theorem Ztm {lo hi:Option Value} {n c l h:Nat} (hl:bnd lo 0 l) (hh:bnd hi n h) (h1:l<=h) (h2:h<=c) (b:Bool) :
  (Instr.sliceBounds b n c lo hi none).run P w=.ok (l,h,c) w:=by
 unfold Instr.sliceBounds;cases hi with
 | none=>
  unfold bnd at hh;subst hh;cases lo with
  | none=>unfold bnd at hl;subst hl;simp
  | some v=>
   obtain ⟨k,i,hv,h0,hr⟩:=hl;simp only[Sem.run_bind,Sem.run_pure,Result.andThen_ok,Zik hv h0 hr h1]
 | some u=>
  obtain ⟨k',i',hv',h0',hr'⟩:=hh;cases lo with
  | none=>unfold bnd at hl;subst hl;simp only[Sem.run_bind,Sem.run_pure,Result.andThen_ok,Zik hv' h0' hr' h2]
  | some v=>
   obtain ⟨k,i,hv,h0,hr⟩:=hl;simp only[Sem.run_bind,Sem.run_pure,Result.andThen_ok,Zik hv h0 hr h1,Zik hv' h0' hr' h2]
theorem ZtA {op:BinOp} {k:IntKind} {a b:Int} (t:TypeId) (hd:Zwm op=true->b≠0) (hop:op=.add\/op=.sub\/op=.mul\/op=.quo\/op=.rem\/op=.eql\/op=.neq\/op=.lss\/op=.leq\/op=.gtr\/op=.geq) :
  (binOp op t (.int k a) (.int k b)).run P w=.ok (Zce op k a b) w:=by
 rcases hop with rfl | rfl | rfl | rfl | rfl | rfl | rfl | rfl | rfl | rfl | rfl <;>
  simp[binOp,Op.intArith,Op.intDiv,Op.intCmp,Zce,Zwm] at hd ⊢ <;> simp[hd]
theorem Zjq {op:BinOp} {t:TypeId} {x y:Operand} {k:IntKind} {a b:Int}:(eqGuard op t x y (.int k a) (.int k b)).run P w=.ok () w:=by
 cases op <;> rfl
theorem Zw7 {op:BinOp} {k:IntKind} {t u:TypeId} {x y:Operand} {dst:Option Tmp} {ty:TypeId} {pos:String} {af:Array Edge} {g:Option<|Nat × Bool}
  (hop:op=.add\/op=.sub\/op=.mul\/op=.quo\/op=.rem\/op=.eql\/op=.neq\/op=.lss\/op=.leq\/op=.gtr\/op=.geq) (h:bi op k (f x) (f y) w K) :
  ex P (execOp f ⟨dst,.binOp op t x y u,ty,pos,af,g⟩) w K:=by
 obtain ⟨a,b,hx,hy,hd,hk⟩:=h;refine Yn (s:=do eqGuard op t x y (f x) (f y);binOp op t (f x) (f y)) ?_ hk;rw[hx,hy];simp only[Sem.run_bind,Zjq,Result.andThen_ok,ZtA t hd hop]
section
variable {dst:Option Tmp} {ty:TypeId} {pos:String} {af:Array Edge} {g:Option<|Nat × Bool}
theorem ZzF {c a b:Operand} (h:pk (f c) (f a) (f b) w K):ex P (execOp f ⟨dst,.pick c a b,ty,pos,af,g⟩) w K:=by
 obtain ⟨q,hq,hk⟩:=h;unfold ex execOp;simp only[hq,asBool,Sem.run_bind,Sem.run_pure,Result.andThen_ok];cases q
 .exact hk
 .exact hk
theorem Zwj {e:TypeId} (h:ZaV P ⟨dst,.alloc e,ty,pos,af,g⟩ f w K):ex P (execOp f ⟨dst,.alloc e,ty,pos,af,g⟩) w K:=by
 unfold ZaV at h;simp only at h;split at h
 .rename_i ho;obtain ⟨d,i,z,hd,hi,hz,hs,hg,hz'⟩:=Za9 ho;unfold al at h;refine Yn (s:=Instr.alloc e true (.tuple #[])) ?_ h;simp only[Instr.alloc,Sem.run_bind,Zdn hi hz,Result.andThen_ok,newVar,newRow,newObj,Sem.run,Sem.run_pure,hz',World.alloc]
 .exact h.elim
theorem ZFF {e:TypeId} {x:Operand} (h:al (f x).cells e w K):ex P (execOp f ⟨dst,.box e x,ty,pos,af,g⟩) w K:=by
 refine Yn (s:=Instr.box e<|f x) (w':=w.alloc (.cells (f x).cells e)) ?_ h;simp only[Instr.box,newVar,newRow,newObj,Sem.run_bind,Sem.run,Sem.run_pure,Result.andThen_ok,World.alloc]
theorem Zta {t:TypeId} {i:TypeInfo} {z:Value} {fs:Array Field} {parts:Array<|Nat × Value} {cells:Array Value} (hi:P.info? t=some i) (hz:i.zero=some z) (hu:P.underlying t=some (.struct fs)) (hall:(fs.all λg=>okT P g.type)=true)
  (hc:Instr.fill ((fs.map λg=>(g.offset,szD P g.type))[·]?) z.cells parts.toList=some cells):(Instr.build t parts).run P w=.ok (.agg cells) w:=by
 have hfs:=ZnM w fs.toList (by simpa using hall);have hm:(fs.mapM (m:=Sem) λg=>do pure (g.offset,<-sizeOf g.type)).run P w=.ok (fs.map λg=>(g.offset,szD P g.type)) w:=by
  rw[Array.mapM_eq_mapM_toList];simp only[Sem.run_map,hfs,Result.andThen_ok];simp;rw[<-Array.toList_map]
 simp only[Instr.build,Sem.run_bind,Zdn hi hz,Result.andThen_ok,Yb hu,hm,hc,Sem.run_pure]
theorem Zto {t e:TypeId} {len:Nat} {i i1:TypeInfo} {z:Value} {parts:Array<|Nat × Value} {cells:Array Value} (hi:P.info? t=some i) (hz:i.zero=some z) (hu:P.underlying t=some (.array len e)) (hi1:P.info? e=some i1)
  (hc:Instr.fill (λj=>some (j*i1.size,i1.size)) z.cells parts.toList=some cells):(Instr.build t parts).run P w=.ok (.agg cells) w:=by
 simp only[Instr.build,Sem.run_bind,Zdn hi hz,Result.andThen_ok,Yb hu,Zcj hi1,hc,Sem.run_pure]
theorem Zxf {t:TypeId} {parts:Array<|Nat × Operand} (h:ZaV P ⟨dst,.build t parts,ty,pos,af,g⟩ f w K):ex P (execOp f ⟨dst,.build t parts,ty,pos,af,g⟩) w K:=by
 unfold ZaV at h;simp only at h;split at h
 .rename_i fs hu ho;split at h
  .rename_i hall;obtain ⟨d,i,z,hd,hi,hz,hs,hg,hz'⟩:=Za9 ho;obtain ⟨cells,hc,hk⟩:=h;rw[hz'] at hc;exact Yn (s:=Instr.build t<|parts.map λ(i,x)=>(i,f x)) (Zta hi hz hu hall hc) hk
  .exact h.elim
 .rename_i len e hu ho;split at h
  .rename_i hoe;obtain ⟨d,i,z,hd,hi,hz,hs,hg,hz'⟩:=Za9 ho;obtain ⟨d1,i1,z1,hd1,hi1,hz1,hs1,hg1,hz1'⟩:=Za9 hoe;obtain ⟨cells,hc,hk⟩:=h;rw[hz',hs1] at hc;have hr:=Zto (w:=w) (parts:=parts.map λ(i,x)=>(i,f x)) hi hz hu hi1 hc;have h3:=Yn (K:=K) hr hk;exact h3
  .exact h.elim
 .exact h.elim
theorem ZuR {t e:TypeId} {len:Nat} {i:TypeInfo} {z:Value} {parts:Array (Nat × Value)} {cells zero:Array Value} (hi:P.info? e=some i) (hz:i.zero=some z) (hu:P.underlying t=some (.slice e)) (hl:len*i.size<=65536)
  (hzz:zero=if len*i.size=0 then #[] else z.cells)
  (hc:Instr.fill (λj=>some (j*i.size,i.size)) ((Array.range (len*i.size)).map (zero[· % zero.size]!)) parts.toList=some cells) :
  (Instr.buildSlice t len parts).run P w=.ok (.slice (some ⟨w.heap.size,0,none⟩) len len) (w.alloc (.cells cells e)):=by
 have hl':¬len*i.size > 2 ^ 24:=by omega
 subst hzz;by_cases h0:len*i.size=0
 .rw[if_pos h0] at hc;simp only[Instr.buildSlice,Sem.run_bind,Yb hu,Result.andThen_ok,Zcj hi,hl',if_false,Sem.run_pure,if_pos h0,hc,newRow,newObj,Sem.run,World.alloc]
 .rw[if_neg h0] at hc;simp only[Instr.buildSlice,Sem.run_bind,Yb hu,Result.andThen_ok,Zcj hi,hl',if_false,Sem.run_pure,if_neg h0,Zdn hi hz,hc,newRow,newObj,Sem.run,World.alloc]
theorem Zon {t:TypeId} {len:Nat} {parts:Array<|Nat × Operand} (h:ZaV P ⟨dst,.buildSlice t len parts,ty,pos,af,g⟩ f w K):ex P (execOp f ⟨dst,.buildSlice t len parts,ty,pos,af,g⟩) w K:=by
 unfold ZaV at h;simp only at h;split at h
 .rename_i e hu;split at h
  .rename_i ho h0;simp only[Bool.and_eq_true,decide_eq_true_eq] at ho h0;obtain ⟨d,i,z,hd,hi,hz,hs,hg,hz'⟩:=Za9 ho.1;obtain ⟨cells,hc,hk⟩:=h;rw[hs] at hc h0 ho;have hr:=ZuR (w:=w) (parts:=parts.map λ(i,x)=>(i,f x)) hi hz hu ho.2 (by rw[if_pos h0]) hc;have h3:=Yn (K:=K) hr hk;exact h3
  .rename_i ho h0;simp only[Bool.and_eq_true,decide_eq_true_eq,decide_eq_false_iff_not] at ho h0;obtain ⟨d,i,z,hd,hi,hz,hs,hg,hz'⟩:=Za9 ho.1;obtain ⟨cells,hc,hk⟩:=h;rw[hs,hz'] at hc;rw[hs] at h0 ho;have hr:=ZuR (w:=w) (parts:=parts.map λ(i,x)=>(i,f x)) hi hz hu ho.2 (by rw[if_neg h0]) hc;have h3:=Yn (K:=K) hr hk;exact h3
  .exact h.elim
 .exact h.elim
theorem ZAU {t:TypeId} {a:Operand} (h:ZaV P ⟨dst,.load t a,ty,pos,af,g⟩ f w K):ex P (execOp f ⟨dst,.load t a,ty,pos,af,g⟩) w K:=by
 unfold ZaV at h;simp only at h;split at h
 .rename_i ho ha;obtain ⟨d,i,z,hd,hi,hz,hs,hg,hz'⟩:=Za9 ho;obtain ⟨a',vs,hx,hn,hc,hk⟩:=h;refine Yn (s:=Instr.loadAt t<|f a) ?_ hk;rw[hx];simp only[Instr.loadAt,Instr.sureAddr,Sem.run_bind,Sem.run_pure,Result.andThen_ok];exact ZkU hd hi (hg▸ha) (hs▸hn) hc
 .rename_i ho ha;obtain ⟨d,i,z,hd,hi,hz,hs,hg,hz'⟩:=Za9 ho;obtain ⟨a',v,hx,hc,hk⟩:=h;refine Yn (s:=Instr.loadAt t<|f a) ?_ hk;rw[hx];simp only[Instr.loadAt,Instr.sureAddr,Sem.run_bind,Sem.run_pure,Result.andThen_ok];exact ZkE hd (hg▸ha) hc
 .exact h.elim
theorem Zxt {t:TypeId} {a x:Operand} (h:ZaV P ⟨dst,.store t a x,ty,pos,af,g⟩ f w K):ex P (execOp f ⟨dst,.store t a x,ty,pos,af,g⟩) w K:=by
 unfold ZaV at h;simp only at h;split at h
 .rename_i ho;obtain ⟨d,i,z,hd,hi,hz,hs,hg,hz'⟩:=Za9 ho;obtain ⟨a',hx,hn,hf,hc,hk⟩:=h;refine Zwl (s:=Instr.storeAt t (f a)<|f x) ?_ hk;rw[hx];simp only[Instr.storeAt,Instr.sureAddr,Sem.run_bind,Sem.run_pure,Result.andThen_ok];exact Zp4 hi (hs▸hn) hf<|hs▸hc
 .exact h.elim
theorem Zrx {x:Operand} (h:nc (f x) w K):ex P (execOp f ⟨dst,.nilCheck x,ty,pos,af,g⟩) w K:=by
 obtain ⟨h1,h2⟩:=h;unfold execOp ex;simp only;generalize f x=v at*;cases v with
 | pointer a=>cases a <;> simp[ZnI] at h1 ⊢;exact h2
 | func fn first captured=>cases fn <;> simp[ZnI] at h1 ⊢ <;> exact h2
 | nilFunc=>simp[ZnI] at h1
 | nilIface=>simp[ZnI] at h1
 | _=>exact h2
theorem Zu6 {t:TypeId} (n:Nat) (a b:Bool) (hu:P.underlying t=some .bool):(Op.equalIn (n+1) t (.bool a) (.bool b)).run P w=.ok (a==b) w:=by
 simp only[Op.equalIn,Sem.run_bind,Yb hu,Result.andThen_ok,Sem.run_pure]
theorem ZwF {t e:TypeId} (n:Nat) (a:Option Addr) (hu:P.underlying t=some (.pointer e)):(Op.equalIn (n+1) t (.pointer a) Pn).run P w=.ok a.isNone w:=by
 cases a <;> simp[Op.equalIn,Yb hu]
theorem Zlx {t:TypeId} (a b:Bool) (hu:P.underlying t=some .bool):(Op.equal t (.bool a) (.bool b)).run P w=.ok (a==b) w:=Zu6 9999 a b hu
theorem Zny {t e:TypeId} (a:Option Addr) (hu:P.underlying t=some (.pointer e)):(Op.equal t (.pointer a) Pn).run P w=.ok a.isNone w:=ZwF 9999 a hu
theorem ZGb {op:BinOp} {t u:TypeId} {x y:Operand} (hop:op=.eql\/op=.neq) (hu:P.underlying t=some .bool) (h:bb op (f x) (f y) w K):ex P (execOp f ⟨dst,.binOp op t x y u,ty,pos,af,g⟩) w K:=by
 obtain ⟨a,b,hx,hy,hk⟩:=h;refine Yn (s:=do eqGuard op t x y (f x) (f y);binOp op t (f x) (f y)) ?_ hk;rw[hx,hy];rcases hop with rfl | rfl
 .simp only[eqGuard,binOp,Sem.run_bind,Zlx a b hu,Result.andThen_ok,Sem.run_pure];rfl
 .simp only[eqGuard,binOp,Sem.run_bind,Zlx a b hu,Result.andThen_ok,Sem.run_pure];rfl
theorem ZGl {op:BinOp} {t e u:TypeId} {x:Operand} (hc:∀v,f (.const v)=v) (hop:op=.eql\/op=.neq) (hu:P.underlying t=some (.pointer e)) (h:bn op (f x) w K):ex P (execOp f ⟨dst,.binOp op t x (.const Pn) u,ty,pos,af,g⟩) w K:=by
 obtain ⟨a,hx,hk⟩:=h;refine Yn (s:=do eqGuard op t x (.const Pn) (f x) (f (.const Pn));binOp op t (f x) (f (.const Pn))) ?_ hk;rw[hx,hc];rcases hop with rfl | rfl
 .simp only[eqGuard,binOp,Sem.run_bind,Zny a hu,Result.andThen_ok,Sem.run_pure];rfl
 .simp only[eqGuard,binOp,Sem.run_bind,Zny a hu,Result.andThen_ok,Sem.run_pure];rfl
theorem ZEp {t:TypeId} {x:Operand} (h:Zb3 (f x) w K):ex P (execOp f ⟨dst,.unOp .not t x,ty,pos,af,g⟩) w K:=by
 obtain ⟨q,hx,hk⟩:=h;refine Yn (s:=Op.unary .not<|f x) ?_ hk;rw[hx];rfl
theorem ZEY {s d:TypeId} {x:Operand} {j k:IntKind} (hs:P.underlying s=some (.int j)) (hd:P.underlying d=some (.int k)) (h:cvI k (f x) w K):ex P (execOp f ⟨dst,.convert s d x,ty,pos,af,g⟩) w K:=by
 obtain ⟨j',n,hx,hk⟩:=h;refine Yn (s:=convert s d<|f x) ?_ hk;rw[hx];simp only[convert,Sem.run_bind,Yb hs,Yb hd,Result.andThen_ok,Conv.intToInt,Sem.run_pure]
theorem ZFD {t:TypeId} {x:Operand} (h:ZaV P ⟨dst,.makeInterface t x,ty,pos,af,g⟩ f w K):ex P (execOp f ⟨dst,.makeInterface t x,ty,pos,af,g⟩) w K:=by
 unfold ZaV at h;simp only at h;split at h
 .exact h.elim
 .rename_i d hne hd;refine Yn (s:=Instr.makeInterface t<|f x) ?_ h;cases d <;> simp_all [Instr.makeInterface,Yb hd]
 .exact h.elim
theorem ZwZ {t:TypeId} (h:ZlQ w K):ex P (execOp f ⟨dst,.makeMap t none,ty,pos,af,g⟩) w K:=by
 refine Yn (s:=Instr.makeMap t<|Option.map f none) (w':=w.alloc (.map #[] 0)) ?_ h;simp only[Instr.makeMap,Option.map_none,newObj,Sem.run_bind,Sem.run,Sem.run_pure,Result.andThen_ok,World.alloc]
theorem Zwy {t:TypeId} {x:Operand} {lo hi:Option Operand} {e:TypeId} (hu:P.underlying t=some (.slice e)) (ho:okT P e=true) (h:slc (szD P e) (f x) (lo.map f) (hi.map f) w K) :
  ex P (execOp f ⟨dst,.slice t x lo hi none,ty,pos,af,g⟩) w K:=by
 obtain ⟨d,i,z,hd,hi',hz,hs,hg,hz'⟩:=Za9 ho;obtain ⟨a,n,c,l,hh,hx,hl,hh',h1,h2,hk⟩:=h;refine Yn (s:=Instr.sliceAt t (f x) (lo.map f) (hi.map f)<|Option.map f none) ?_ hk;rw[hx,hs];simp only[Instr.sliceAt,Instr.slice,Option.map_none,Sem.run_bind,Yb hu,Result.andThen_ok,Ztm hl hh' h1 h2,Zcj hi',Sem.run_pure]
theorem ZoT {s:TypeId} {x:Operand} {n:Nat} (h:ZaV P ⟨dst,.fieldAddr s x n,ty,pos,af,g⟩ f w K):ex P (execOp f ⟨dst,.fieldAddr s x n,ty,pos,af,g⟩) w K:=by
 unfold ZaV at h;simp only at h;split at h
 .rename_i fd hfd;split at h
  .rename_i ho h0;obtain ⟨d,i,z,hd,hi,hz,hs,hg,hz'⟩:=Za9 ho;obtain ⟨a,hx,hk⟩:=h;refine Yn (s:=Instr.fieldAt s (f x) n) ?_ hk;unfold Zj6 at hfd;split at hfd
   .rename_i fs hfs;have h0':¬i.size=0:=by rw[<-hs];simpa using h0
    rw[hx];simp only[Instr.fieldAt,Sem.run_bind,Yb hfs,Result.andThen_ok,hfd,Instr.sureAddr,Sem.run_pure,fieldPlace,Zcj hi,if_neg h0']
   .cases hfd
  .exact h.elim
 .exact h.elim
theorem Zlr {t:TypeId} {d:TypeDesc} {cs:Array Value} {off:Nat} {v:Value} (hd:P.underlying t=some d) (hg:ZeC d=false) (hv:cs[off]?=some v):(part t cs off).run P w=.ok v w:=by
 simp only[part,Sem.run_bind,Zfh hd,Result.andThen_ok,hg,Bool.false_eq_true,if_false,hv,Sem.run_pure]
theorem ZlR {t:TypeId} {d:TypeDesc} {i:TypeInfo} {cs:Array Value} {off:Nat} (hd:P.underlying t=some d) (hi:P.info? t=some i) (hg:ZeC d=true):(part t cs off).run P w=.ok (.agg<|cs.extract off<|off+i.size) w:=by
 simp only[part,Sem.run_bind,Zfh hd,Result.andThen_ok,hg,if_true,Zcj hi,Sem.run_pure]
theorem Zw4 {s:TypeId} {x:Operand} {n:Nat} (h:ZaV P ⟨dst,.field s x n,ty,pos,af,g⟩ f w K):ex P (execOp f ⟨dst,.field s x n,ty,pos,af,g⟩) w K:=by
 unfold ZaV at h;simp only at h;split at h
 .rename_i fd hfd;unfold Zj6 at hfd;split at hfd
  .rename_i fs hfs;split at h
   .rename_i ho h0;obtain ⟨d,i,z,hd,hi,hz,hs,hg,hz'⟩:=Za9 ho;obtain ⟨cs,hx,hk⟩:=h;refine Yn (s:=Instr.field s (f x) n) ?_ hk;rw[hx,hs];simp only[Instr.field,Sem.run_bind,Yb hfs,Result.andThen_ok,hfd,asAgg,Sem.run_pure];exact ZlR hd hi<|hg▸h0
   .rename_i ho h0;obtain ⟨d,i,z,hd,hi,hz,hs,hg,hz'⟩:=Za9 ho;obtain ⟨cs,v,hx,hv,hk⟩:=h;refine Yn (s:=Instr.field s (f x) n) ?_ hk;rw[hx];simp only[Instr.field,Sem.run_bind,Yb hfs,Result.andThen_ok,hfd,asAgg,Sem.run_pure];exact Zlr hd (hg▸h0) hv
   .exact h.elim
  .cases hfd
 .exact h.elim
theorem ZpU {t:TypeId} {x i:Operand} (h:ZaV P ⟨dst,.indexAddr t x i,ty,pos,af,g⟩ f w K):ex P (execOp f ⟨dst,.indexAddr t x i,ty,pos,af,g⟩) w K:=by
 unfold ZaV at h;simp only at h;split at h
 .rename_i e hu;split at h
  .rename_i ho;obtain ⟨d,i',z,hd,hi,hz,hs,hg,hz'⟩:=Za9 ho;obtain ⟨a,n,c,k,j,hx,hj,h0,h1,hk⟩:=h;refine Yn (s:=Instr.indexAt t (f x)<|f i) ?_ hk;rw[hx,hj,hs];simp[Instr.indexAt,asIntOf,Yb hu,h0,h1,Zcj hi]
  .exact h.elim
 .rename_i len e hu;split at h
  .rename_i ho;obtain ⟨d,i',z,hd,hi,hz,hs,hg,hz'⟩:=Za9 ho;obtain ⟨a,k,j,hx,hj,h0,h1,hk⟩:=h;refine Yn (s:=Instr.indexAt t (f x)<|f i) ?_ hk;rw[hx,hj,hs];simp[Instr.indexAt,asIntOf,Yb hu,h0,h1,Zcj hi,Instr.sureAddr]
  .exact h.elim
 .exact h.elim
theorem ZsU {x:Operand} {i:Nat} (h:xt i (f x) w K):ex P (execOp f ⟨dst,.extract x i,ty,pos,af,g⟩) w K:=by
 obtain ⟨vs,v,hx,hv,hk⟩:=h;refine Yn (s:=Instr.extract (f x) i) ?_ hk;rw[hx];simp only[Instr.extract,hv,Sem.run_pure]
theorem ZBq {g':FuncId} {c:Call} (hfn:∀g,f (.func g)=.func (.func g) #[] #[]) (hcal:c.callee=.value (.func g')) (h:Cl P g' (c.args.map f) w K):ex P (execOp f ⟨dst,.call c,ty,pos,af,g⟩) w K:=by
 refine Zi5 ?_ h;simp only[execOp,resolve,hcal,hfn,Deferred.ofValue,Sem.run_bind,Sem.run_pure,Result.andThen_ok,invoke];simp
theorem ZCG {t:Tmp} {c:Call} (hcal:c.callee=.value (.tmp t)) (h:clV P (f (.tmp t)) (c.args.map f) w K):ex P (execOp f ⟨dst,.call c,ty,pos,af,g⟩) w K:=by
 obtain ⟨fn,first,captured,hx,hk⟩:=h;unfold clF at hk;split at hk
 .refine Zi5 ?_ hk;simp only[execOp,resolve,hcal,hx,Deferred.ofValue,Sem.run_bind,Sem.run_pure,Result.andThen_ok,invoke]
 .refine Zi5 ?_ hk;simp only[execOp,resolve,hcal,hx,Deferred.ofValue,Sem.run_bind,Sem.run_pure,Result.andThen_ok,invoke]
 .exact hk.elim
theorem Zxh {op:BinOp} {t u:TypeId} {x y:Operand} (hc:∀v,f (.const v)=v) (h:ZaV P ⟨dst,.binOp op t x y u,ty,pos,af,g⟩ f w K):ex P (execOp f ⟨dst,.binOp op t x y u,ty,pos,af,g⟩) w K:=by
  unfold ZaV at h
  simp only at h
  split at h
  all_goals first
    | exact Zw7 (by simp) h
    | (rename_i hu;exact ZGb (by simp) hu h)
    | (rename_i hu;split at h;· exact ZGl hc (by simp) hu h
       · exact h)
    | exact h
theorem ZnY {t e:TypeId} {a:Option Addr} {n c:Nat} (ty:TypeId) (hu:P.underlying t=some (.slice e)):(Builtin.len_ #[t] ty #[.slice a n c]).run P w=.ok (Iw n) w:=by
 simp[Builtin.len_,Yb hu,goInt]
theorem Zqw {t:TypeId} {s:ByteArray} (ty:TypeId) (hu:P.underlying t=some .string):(Builtin.len_ #[t] ty #[.string s]).run P w=.ok (Iw s.size) w:=by
 simp[Builtin.len_,Yb hu,goInt]
theorem Zgc {b:Builtin} {c:Call} {s:Array Value->Sem Value} (hcal:c.callee=.builtin b) {v:Value} {w':World}
  (hb:∀cs,builtin b c.argTypes ty cs (c.args.map f)=(do pure (.value<|<-s (c.args.map f)))) (h:(s<|c.args.map f).run P w=.ok v w') (hk:K v w'):ex P (execOp f ⟨dst,.call c,ty,pos,af,g⟩) w K:=by
 refine (Yn (s:=s<|c.args.map f) h hk:ex P (oV<|s<|c.args.map f) w K) |> λh2=>?_
 unfold ex at h2 ⊢;have e:(execOp f ⟨dst,.call c,ty,pos,af,g⟩:Sem Next).run P w=(oV<|s<|c.args.map f).run P w:=by
  simp only[execOp,resolve,hcal,Sem.run_bind,Sem.run_pure,Result.andThen_ok,invoke,hb,oV]
 rw[e];exact h2
theorem Zeq {b:Builtin} {c:Call} {s:Sem Value} (hcal:c.callee=.builtin b) 
  (hb:∀cs,builtin b c.argTypes ty cs (c.args.map f)=(do pure (.value<|<-s))) (h:ex P (oV s) w K):ex P (execOp f ⟨dst,.call c,ty,pos,af,g⟩) w K:=by
 unfold ex at h ⊢;have e:(execOp f ⟨dst,.call c,ty,pos,af,g⟩:Sem Next).run P w=(oV s).run P w:=by
  simp only[execOp,resolve,hcal,Sem.run_bind,Sem.run_pure,Result.andThen_ok,invoke,hb,oV]
 rw[e];exact h
theorem Zwc {c:Call} (hfn:∀g,f (.func g)=.func (.func g) #[] #[]) (h:ZaV P ⟨dst,.call c,ty,pos,af,g⟩ f w K):ex P (execOp f ⟨dst,.call c,ty,pos,af,g⟩) w K:=by
 obtain ⟨callee,args,argTypes⟩:=c;unfold ZaV at h;simp only at h;split at h
 .rename_i g';exact ZBq hfn rfl h
 .rename_i t;exact ZCG rfl h
 .rename_i b;split at h
  .rename_i x t ha ht;obtain rfl:args=#[x]:=by simpa using congrArg List.toArray ha
   obtain rfl:argTypes=#[t]:=by simpa using congrArg List.toArray ht
   split at h
   .rename_i e hu;obtain ⟨a,n,c,hx,hk⟩:=h;refine Zgc (s:=λvs=>Builtin.len_ #[t] ty vs) rfl (λcs=>rfl) (v:=Iw n) (w':=w) ?_ hk;simp only[List.map_toArray,List.map_cons,List.map_nil,hx];exact ZnY ty hu
   .rename_i hu;obtain ⟨s,hx,hk⟩:=h;refine Zgc (s:=λvs=>Builtin.len_ #[t] ty vs) rfl (λcs=>rfl) (v:=Iw s.size) (w':=w) ?_ hk;simp only[List.map_toArray,List.map_cons,List.map_nil,hx];exact Zqw ty hu
   .exact Zeq rfl (λcs=>by simp[builtin]) h
  .rename_i x y t t' ha ht;obtain rfl:args=#[x,y]:=by simpa using congrArg List.toArray ha
   split at h
   .obtain ⟨a,b,hx,hy,hk⟩:=h;refine Zgc (s:=λvs=>Builtin.min_ argTypes ty vs) rfl (λcs=>rfl) (w':=w) ?_ hk;simp only[List.map_toArray,List.map_cons,List.map_nil,hx,hy];simp[Builtin.min_,Builtin.min2]
   .exact h
  .rename_i x y t t' ha ht;obtain rfl:args=#[x,y]:=by simpa using congrArg List.toArray ha
   split at h
   .obtain ⟨a,b,hx,hy,hk⟩:=h;refine Zgc (s:=λvs=>Builtin.max_ argTypes ty vs) rfl (λcs=>rfl) (w':=w) ?_ hk;simp only[List.map_toArray,List.map_cons,List.map_nil,hx,hy];simp[Builtin.max_,Builtin.max2]
   .exact h
  .rename_i x y ha;obtain rfl:args=#[x,y]:=by simpa using congrArg List.toArray ha
   exact Zeq rfl (λcs=>by simp[builtin]) h
  .rename_i x y ha;obtain rfl:args=#[x,y]:=by simpa using congrArg List.toArray ha
   exact Zeq rfl (λcs=>by simp[builtin]) h
  .rename_i x y ha;obtain rfl:args=#[x,y]:=by simpa using congrArg List.toArray ha
   exact Zeq rfl (λcs=>by simp[builtin]) h
  .exact h
 .exact h
end
theorem ZhQ (hc:∀v,f (.const v)=v) (hfn:∀g,f (.func g)=.func (.func g) #[] #[]) (o:Oper) (h:ZaV P o f w K):ex P (execOp f o) w K:=by
 obtain ⟨dst,op,ty,pos,af,g⟩:=o;cases op with
 | move x=>exact h
 | assign x=>exact h
 | pick c a b=>exact ZzF h
 | alloc e=>exact Zwj h
 | box e x=>exact ZFF h
 | build t parts=>exact Zxf h
 | buildSlice t len parts=>exact Zon h
 | load t a=>exact ZAU h
 | store t a x=>exact Zxt h
 | nilCheck x=>exact Zrx h
 | binOp op t x y u=>exact Zxh hc h
 | unOp op t x=>cases op <;> first | exact ZEp h | exact h
 | convert s d x=>
  unfold ZaV at h;simp only at h;split at h
  .rename_i h1 h2;exact ZEY h1 h2 h
  .exact h
 | makeInterface t x=>exact ZFD h
 | makeFunc fn first captured=>exact h
 | makeMap t r=>cases r with
  | none=>exact ZwZ h
  | some r=>exact h
 | slice t x lo hi mx=>cases mx with
  | some m=>exact h
  | none=>
   unfold ZaV at h;simp only at h;split at h
   .rename_i e hu;split at h
    .rename_i ho;exact Zwy hu ho h
    .exact h.elim
   .exact h
 | fieldAddr s x n=>exact ZoT h
 | field s x n=>exact Zw4 h
 | indexAddr t x i=>exact ZpU h
 | extract x i=>exact ZsU h
 | index t x i=>exact h
 | lookup t x i ok=>exact h
 | mapUpdate t m k x=>exact h
 | range t x=>exact h
 | next it s=>exact h
 | entry it=>exact h
 | typeAssert x s t ok=>exact h
 | makeSlice t l c=>exact h
 | call c=>exact Zwc hfn h
 | _=>exact h
end
end Go.E
end
section
namespace Go.E
open Go.RowKit
def Ev.opd (ρ:Ev):Operand->Value
 | .tmp t=>ρ t
 | .const v=>v
 | .global g=>pt g
 | .func f=>.func (.func f) #[] #[]
def Ev.upd (ρ:Ev) (d:Nat) (v:Value):Ev:=λt=>match Nat.beq t d with | true=>v | false=>ρ t
def Ev.put (ρ:Ev):Option Tmp->Value->Ev
 | some d,v=>Ev.upd ρ d v
 | none,_=>ρ
def idx (t:Nat):List Nat->Nat->Option Nat
 | [],_=>none
 | m::ms,i=>match Nat.beq t m with | true=>some i | false=>idx t ms<|i+1
def Ev.over (ρ:Ev) (ms:List Nat) (vs:List Value):Ev:=λt=>match idx t ms 0 with | some i=>vs.getD i undef | none=>ρ t
def ZdN (ds:List Deferred) (n m:Nat) (a:Act) (ρ:Ev):Prop:=a.tmps.size=n/\a.defers=ds/\∀t,m.testBit t=true->a.tmps.getD t undef=ρ t
abbrev Agr:=ZdN []
variable {ds:List Deferred}
theorem ZdN.mono {n m m':Nat} {a:Act} {ρ:Ev} (h:ZdN ds n m a ρ) (hm:∀t,m'.testBit t=true->m.testBit t=true):ZdN ds n m' a ρ:=
 ⟨h.1,h.2.1,λt ht=>h.2.2 t<|hm t ht⟩
def ZAC:Operand->Nat
 | .tmp t=>2 ^ t
 | _=>0
def Zra (l:List Operand):Nat:=l.foldr (λx m=>ZAC x ||| m) 0
def Zwq (ops:Array Oper) (j:Nat):Option Nat:=(ops[j]?).bind (·.dst)
def ZF2 (ops:Array Oper) (o:Oper):Nat:=
 match o.guard with
 | none=>0
 | some (j,_)=>match Zwq ops j with | some d=>2 ^ d | none=>0
def Zxb (ops:Array Oper) (o:Oper):Nat:=Zra o.op.operands.toList ||| ZF2 ops o
def Zro:Option Tmp->Nat
 | some d=>2 ^ d
 | none=>0
def del (m:Nat) (d:Option Tmp):Nat:=m ^^^ (m &&&Zro d)
theorem Zlw (a b:Nat):(2 ^ a).testBit b=decide (a=b):=Nat.testBit_two_pow
theorem ZtZ {l:List Operand} {t:Nat} (h:Operand.tmp t∈l):(Zra l).testBit t=true:=by
 induction l with
 | nil=>cases h
 | cons x l ih=>
  simp only[Zra,List.foldr_cons,Nat.testBit_or,Bool.or_eq_true];cases h with
  | head=>left;simp[ZAC]
  | tail _ h=>right;exact ih h
theorem ZdN.opd {n m:Nat} {a:Act} {ρ:Ev} (h:ZdN ds n m a ρ) {l:List Operand} (hl:∀t,(Zra l).testBit t=true->m.testBit t=true):∀x∈l,a.eval x=ρ.opd x:=by
 intro x hx;cases x with
 | tmp t=>exact h.2.2 t (hl t<|ZtZ hx)
 | const v=>rfl
 | global g=>rfl
 | func f=>rfl
theorem ZdN.put {n m:Nat} {a:Act} {ρ:Ev} (h:ZdN ds n m a ρ) {d:Option Tmp} {v:Value} (hd:∀t,d=some t->t<n):ZdN ds n (m ||| Zro d) (a.put d v) (ρ.put d v):=by
 obtain ⟨h1,h2,h3⟩:=h;cases d with
 | none=>exact ⟨h1,h2,λt ht=>h3 t<|by simpa [Zro] using ht⟩
 | some d=>
  have hlt:=hd d rfl;refine ⟨by simp[Act.put,h1],h2,λt ht=>?_⟩;simp only[Act.put,Ev.put,Ev.upd,Zro,Nat.testBit_or,Zlw,Bool.or_eq_true,decide_eq_true_eq] at ht ⊢;by_cases e:t=d
  .subst e;simp[Nat.beq_refl,h1,hlt]
  .have e2:Nat.beq t d=false:=by
    cases hb:Nat.beq t d with
    | false=>rfl
    | true=>exact absurd (Nat.eq_of_beq_eq_true hb) e
   rw[e2];rcases ht with ht | ht
   .rw[<-h3 t ht];simp[Array.getElem?_setIfInBounds_ne<|Ne.symm e]
   .exact absurd ht.symm e
theorem ZdN.put_del {n m:Nat} {a:Act} {ρ:Ev} {d:Option Tmp} {v:Value} (h:ZdN ds n (del m d) a ρ) (hd:∀t,d=some t->t<n):ZdN ds n m (a.put d v) (ρ.put d v):=
 (h.put hd).mono λt ht=>by
  simp only[del,Nat.testBit_or,Nat.testBit_xor,Nat.testBit_and,ht,Bool.true_and];cases (Zro d).testBit t <;> rfl
def okD (n:Nat):Option Tmp->Bool
 | some d=>decide (d<n)
 | none=>true
theorem Zlj {n:Nat} {d:Option Tmp} (h:okD n d=true):∀t,d=some t->t<n:=by
 rintro t rfl
 simpa [okD] using h
def Fr (m:Nat) (ρ ρ':Ev):Prop:=∀t,m.testBit t=false->ρ' t=ρ t
theorem Fr.refl (m:Nat) (ρ:Ev):Fr m ρ ρ:=λ_ _=>rfl
theorem Fr.trans {m m':Nat} {a b c:Ev} (h:Fr m a b) (h':Fr m' b c):Fr (m ||| m') a c:=λt ht=>by
 simp only[Nat.testBit_or,Bool.or_eq_false_iff] at ht;exact (h' t ht.2).trans<|h t ht.1
theorem Fr.mono {m m':Nat} {a b:Ev} (h:Fr m a b) (hm:∀t,m.testBit t=true->m'.testBit t=true):Fr m' a b:=λt ht=>h t (by
 cases hx:m.testBit t with
 | false=>rfl
 | true=>rw[hm t hx] at ht;cases ht)
theorem Fr.put {m:Nat} {a b:Ev} (h:Fr m a b) {d:Option Tmp} (v:Value) (hd:∀t,(Zro d).testBit t=true->m.testBit t=true):Fr m a (b.put d v):=by
 intro t ht;cases d with
 | none=>exact h t ht
 | some d=>
  simp only[Ev.put,Ev.upd];cases hb:Nat.beq t d with
  | false=>exact h t ht
  | true=>
   have e:=Nat.eq_of_beq_eq_true hb;subst e;rw[hd t (by simp[Zro])] at ht;cases ht
def ZoG:Value->Bool->Bool
 | .bool b,want=>b==want
 | _,_=>false
def ZBG (ops:Array Oper) (ρ:Ev) (j:Nat):Value:=match Zwq ops j with | some d=>ρ d | none=>undef
def gd (c:Value) (want:Bool) (body:KV->Prop) (w:World) (k:KV):Prop:=
 (ZoG c want=true->body k)/\(ZoG c want=false->k undef w)
theorem Zly {ops:Array Oper} {n m:Nat} {a:Act} {ρ:Ev} {o:Oper} {j:Nat} {want:Bool} (hg:o.guard=some (j,want)) (h:ZdN ds n m a ρ) (hm:∀t,(ZF2 ops o).testBit t=true->m.testBit t=true) :
  Region.wanted o (yielded ops a.tmps)=ZoG (ZBG ops ρ j) want:=by
 unfold Region.wanted;rw[hg];simp only[yielded,ZBG,Zwq];cases hs:(ops[j]?).bind (·.dst) with
 | none=>simp[ZoG,undef]
 | some d=>
  have hb:m.testBit d=true:=hm d (by simp[ZF2,hg,Zwq,hs]);have he:=h.2.2 d hb;simp only[<-he,Option.bind_some,Array.getD_eq_getD_getElem?];cases hv:a.tmps[d]? with
  | none=>simp[ZoG,undef]
  | some v=>cases v <;> simp[ZoG]
def gop (P:Program) (ops:Array Oper) (o:Oper) (ρ:Ev) (w:World) (K:KV):Prop:=
 match o.guard with
 | none=>ZaV P o ρ.opd w K
 | some (j,want)=>gd (ZBG ops ρ j) want (λk=>ZaV P o ρ.opd w k) w K
def Zt5 (P:Program) (ops:Array Oper) (K:Ev->World->Prop):List Oper->Ev->World->Prop
 | [],ρ,w=>K ρ w
 | o::r,ρ,w=>gop P ops o ρ w λv w'=>Zt5 P ops K r (ρ.put o.dst v) w'
def ZnX (o:Oper):Bool:=match o.op with | .select ..=>false | _=>true
theorem Zkl {o:Oper} (h:ZnX o=true):∀cs b,o.op≠.select cs b:=by
 intro cs b e;simp[ZnX,e] at h
def fen:Option Nat->Fence
 | none=>Fence.wide
 | some l=>Fence.wide.inRound l
theorem ZnO (ro:Option Nat) (f:FuncId):(fen ro).fn f:=by cases ro <;> trivial
theorem Zpy (ro:Option Nat):(fen ro).depth.isSome=true->1<=0:=by cases ro <;> (intro h;cases h)
theorem ZqY {P:Program} (ro:Option Nat) {n:Nat} {f:FuncId} {args:Array Value} {w:World} {R:Ending->World->Prop} (h:Calls P f args w R):CallsIn (fen ro) n P f args w R:=by
 cases ro with
 | none=>exact callsIn_wide.2 h
 | some l=>exact CallsIn.inRound l (callsIn_wide.2 h)
theorem Zq0 {P:Program} (ro:Option Nat) {l:Nat} {f:FuncId} {tmps:Array Value} {asx bd:Code} {w:World} {R:Ending->World->Prop} (h:RoundIn Fence.wide 0 P l f tmps asx bd w R):RoundIn (fen ro) 0 P l f tmps asx bd w R:=by
 cases ro with
 | none=>exact h
 | some l=>exact h
theorem ZrM {P:Program} {ro:Option Nat} {o:Oper} {a:Act} {w:World} {next:Act->World->Prop} {Q:Exit->Act->World->Prop} {K:KV}
  (h:ex P (execOp a.eval o) w K) (hk:∀v w',K v w'->next (a.put o.dst v) w'):o.wpIn (fen ro) 0 P a w next Q:=by
 refine ⟨λf _=>ZnO ro f,?_⟩;have hse:o.semAt (fen ro).round a.eval=execOp a.eval o:=by
  refine Oper.semAt_eq _ _ _ λc hc=>?_;unfold ex at h;simp only[execOp,hc,Sem.run_bind] at h;cases hr:(resolve a.eval c o.type).run P w with
  | ok d w'=>rw[hr] at h;simp at h
  | halt x w'=>rw[hr] at h;simp at h
 rw[hse];unfold ex at h;generalize (execOp a.eval o).run P w=r at*;cases r with
 | ok nx w'=>
  cases nx <;> simp only[Oper.uponIn] at h ⊢
  case value v=>exact hk _ _ h
  case skip=>exact hk _ _ h
  case enter f args=>exact ⟨Zpy ro,ZqY ro<|Calls.mono h λe w'' ⟨v,he,hv⟩=>by subst he;exact hk _ _ hv⟩
  case round l f tmps asx bd=>exact ⟨Zpy ro,Zq0 ro<|RoundIn.mono h λe w'' ⟨v,he,hv⟩=>by subst he;exact hk _ _ hv⟩
 | halt x w'=>simp at h
theorem ZpB {P:Program} {ro:Option Nat} {ops:Array Oper} {n m:Nat} {a:Act} {ρ:Ev} {o:Oper} {w:World} {K:KV} {next:Act->World->Prop} {Q:Exit->Act->World->Prop}
  (ha:ZdN ds n m a ρ) (hs:ZnX o=true) (hu:∀t,(Zxb ops o).testBit t=true->m.testBit t=true) (h:gop P ops o ρ w K) (hk:∀v w',K v w'->next (a.put o.dst v) w') :
  if Region.wanted o (yielded ops a.tmps) then o.wpIn (fen ro) 0 P a w next Q else next (a.put o.dst undef) w:=by
 have e:execOp a.eval o=execOp ρ.opd o:=execOp_congr o (Zkl hs) (by
  intro x hx;exact ha.opd (l:=o.op.operands.toList) (λt ht=>hu t<|by simp[Zxb,ht]) x<|by simpa using hx)
 have run:∀K',(∀v w',K' v w'->K v w')->ZaV P o ρ.opd w K'->o.wpIn (fen ro) 0 P a w next Q:=λK' hk' hso=>
  ZrM (K:=K') (by rw[e];exact ZhQ (λ_=>rfl) (λ_=>rfl) o hso) λv w' hv=>hk _ _<|hk' _ _ hv
 unfold gop at h;split at h
 .rename_i hg;rw[if_pos (by simp[Region.wanted,hg])];exact run K (λ_ _ h=>h) h
 .rename_i j want hg;rw[Zly hg ha<|λt ht=>hu t (by simp[Zxb,ht])];obtain ⟨h1,h2⟩:=h;cases hw:ZoG (ZBG ops ρ j) want with
  | true=>rw[if_pos rfl];exact run K (λ_ _ h=>h) (h1 hw)
  | false=>rw[if_neg (by simp)];exact hk _ _<|h2 hw
def Zvi (ops:Array Oper):List Oper->Nat->Nat
 | [],out=>out
 | o::r,out=>del (Zvi ops r out) o.dst ||| Zxb ops o
theorem ZkL {P:Program} {ro:Option Nat} {ops:Array Oper} {n out W:Nat} {ρ0:Ev} {Q:Exit->Act->World->Prop} {K:Ev->World->Prop} (hk:∀ρ a w,ZdN ds n out a ρ->Fr W ρ0 ρ->K ρ w->Q .normal a w) :
  ∀(l:List Oper) (a:Act) (ρ:Ev) (w:World),(∀o∈l,∀t,(Zro o.dst).testBit t=true->W.testBit t=true)->l.all (λo=>ZnX o&&okD n o.dst)=true->ZdN ds n (Zvi ops l out) a ρ->Fr W ρ0 ρ->Zt5 P ops K l ρ w->wpListIn (fen ro) 0 P ops Q l a w
 | [],a,ρ,w,_,_,ha,hf,h=>hk _ _ _ ha hf h
 | o::r,a,ρ,w,hW,hs,ha,hf,h=>by
  simp only[List.all_cons,Bool.and_eq_true] at hs;obtain ⟨⟨hs1,hs2⟩,hs3⟩:=hs;simp only[Zvi] at ha;have hg:=ZpB (P:=P) (ops:=ops) (ro:=ro) (Q:=Q) (next:=wpListIn (fen ro) 0 P ops Q r) ha hs1 (λt ht=>by simp[ht]) h
   (λv w' hv=>ZkL hk r (a.put o.dst v) (ρ.put o.dst v) w' (λo' ho'=>hW o'<|by simp[ho']) hs3 ((ha.mono<|λt ht=>by simp[ht]).put_del<|Zlj hs2) (hf.put v<|hW o<|by simp) hv)
  unfold wpListIn;split
  .rename_i hw;rw[if_pos hw] at hg;exact hg
  .rename_i hw;rw[if_neg hw] at hg;exact ⟨λf _=>ZnO ro f,hg⟩
def quiet (P:Program) (o:Oper):Bool:=
 match o.op with
 | .move _ | .assign _ | .pick .. | .load .. | .nilCheck _ | .unOp .not _ _ | .fieldAddr .. | .field .. | .indexAddr .. | .extract .. | .makeFunc .. | .makeInterface ..=>true
 | .slice t _ _ _ none=>match P.underlying t with | some (.slice _)=>true | _=>false
 | .binOp op t _ y _=>match P.underlying t,op with
  | some (.int _),.add | some (.int _),.sub | some (.int _),.mul | some (.int _),.quo | some (.int _),.rem | some (.int _),.eql | some (.int _),.neq | some (.int _),.lss | some (.int _),.leq | some (.int _),.gtr | some (.int _),.geq=>true
  | some .bool,.eql | some .bool,.neq=>true
  | some (.pointer _),.eql | some (.pointer _),.neq=>match y with | .const (.pointer none)=>true | _=>false
  | _,_=>false
 | .convert s d _=>match P.underlying s,P.underlying d with | some (.int _),some (.int _)=>true | _,_=>false
 | .call c=>match c.callee with
  | .builtin .len=>match c.args.toList,c.argTypes.toList with
   | [_],[t]=>match P.underlying t with | some (.slice _)=>true | some .string=>true | _=>false
   | _,_=>false
  | _=>false
 | _=>false
def Zl3 (o:Oper):Bool:=match o.op with | .load ..=>true | _=>false
section
variable {P:Program} {f:Operand->Value} {w:World} {K:KV}
theorem ZnB (o:Oper) (hq:quiet P o=true) (h:ZaV P o f w K) :
  ∃v,K v w/\ZaV P o f w (λv' w'=>v'=v/\w'=w)/\(Zl3 o=false->∀w2,ZaV P o f w2<|λv' w'=>v'=v/\w'=w2):=by
 obtain ⟨dst,op,ty,pos,af,g⟩:=o;cases op with
 | move x=>exact ⟨_,h,⟨rfl,rfl⟩,λ_ _=>⟨rfl,rfl⟩⟩
 | assign x=>exact ⟨_,h,⟨rfl,rfl⟩,λ_ _=>⟨rfl,rfl⟩⟩
 | pick c a b=>obtain ⟨q,h1,hk⟩:=h;exact ⟨_,hk,⟨q,h1,rfl,rfl⟩,λ_ _=>⟨q,h1,rfl,rfl⟩⟩
 | load t a=>
  refine (?_:∃v,K v w/\ZaV P _ f w (λv' w'=>v'=v/\w'=w)) |> λ⟨v,h1,h2⟩=>⟨v,h1,h2,λhr=>by cases hr⟩
  unfold ZaV at h ⊢;simp only at h ⊢;split at h
  .rename_i h1 h2;obtain ⟨a',vs,hx,hn,hc,hk⟩:=h;exact ⟨_,hk,a',vs,hx,hn,hc,rfl,rfl⟩
  .rename_i h1 h2;obtain ⟨a',v,hx,hc,hk⟩:=h;exact ⟨_,hk,a',v,hx,hc,rfl,rfl⟩
  .exact h.elim
 | nilCheck x=>exact ⟨_,h.2,⟨h.1,rfl,rfl⟩,λ_ _=>⟨h.1,rfl,rfl⟩⟩
 | binOp op t x y u=>
  have e1:∀op k,bi op k (f x) (f y) w K->∃v,K v w/\bi op k (f x) (f y) w (λv' w'=>v'=v/\w'=w)/\(False=False->∀w2,bi op k (f x) (f y) w2<|λv' w'=>v'=v/\w'=w2):=
   λop k ⟨a,b,h1,h2,h3,hk⟩=>⟨_,hk,⟨a,b,h1,h2,h3,rfl,rfl⟩,λ_ _=>⟨a,b,h1,h2,h3,rfl,rfl⟩⟩
  have e2:∀op,bb op (f x) (f y) w K->∃v,K v w/\bb op (f x) (f y) w (λv' w'=>v'=v/\w'=w)/\(False=False->∀w2,bb op (f x) (f y) w2<|λv' w'=>v'=v/\w'=w2):=
   λop ⟨a,b,h1,h2,hk⟩=>⟨_,hk,⟨a,b,h1,h2,rfl,rfl⟩,λ_ _=>⟨a,b,h1,h2,rfl,rfl⟩⟩
  have e3:∀op,bn op (f x) w K->∃v,K v w/\bn op (f x) w (λv' w'=>v'=v/\w'=w)/\(False=False->∀w2,bn op (f x) w2<|λv' w'=>v'=v/\w'=w2):=
   λop ⟨a,h1,hk⟩=>⟨_,hk,⟨a,h1,rfl,rfl⟩,λ_ _=>⟨a,h1,rfl,rfl⟩⟩
  simp only[quiet] at hq;simp only[ZaV,Zl3,forall_const] at h ⊢;simp only[forall_const] at e1 e2 e3;cases hu:P.underlying t with
  | none=>rw[hu] at hq;simp at hq
  | some d=>
   rw[hu] at hq h;cases d <;> cases op <;> simp only[Bool.false_eq_true] at hq
   all_goals first
    | exact e1 _ _ h
    | exact e2 _ h
    | skip
   all_goals
    split at hq
    .exact e3 _ h
    .cases hq
 | unOp op t x=>cases op <;> first | (cases hq;done) | (obtain ⟨q,h1,hk⟩:=h;exact ⟨_,hk,⟨q,h1,rfl,rfl⟩,λ_ _=>⟨q,h1,rfl,rfl⟩⟩)
 | convert s d x=>
  simp only[quiet] at hq;simp only[ZaV,Zl3,forall_const] at h ⊢;cases h1:P.underlying s with
  | none=>rw[h1] at hq;simp at hq
  | some s'=>
   cases h2:P.underlying d with
   | none=>rw[h1,h2] at hq;cases s' <;> simp at hq
   | some d'=>
    rw[h1,h2] at hq h;cases s' <;> cases d' <;> simp only[Bool.false_eq_true] at hq;obtain ⟨j,n,h1,hk⟩:=h;exact ⟨_,hk,⟨j,n,h1,rfl,rfl⟩,λ_=>⟨j,n,h1,rfl,rfl⟩⟩
 | makeInterface t x=>
  simp only[ZaV,Zl3,forall_const] at h ⊢;cases h1:P.underlying t with
  | none=>rw[h1] at h;exact h.elim
  | some d=>
   rw[h1] at h;cases d <;> first | exact h.elim | exact ⟨_,h,by simp⟩
 | makeFunc fn first captured=>exact ⟨_,h,⟨rfl,rfl⟩,λ_ _=>⟨rfl,rfl⟩⟩
 | slice t x lo hi mx=>cases mx with
  | some m=>cases hq
  | none=>
   unfold ZaV at h ⊢;simp only at h ⊢;split at h
   .split at h
    .obtain ⟨a,n,c,l,hh,h1,h2,h3,h4,h5,hk⟩:=h;exact ⟨_,hk,⟨a,n,c,l,hh,h1,h2,h3,h4,h5,rfl,rfl⟩,λ_ _=>⟨a,n,c,l,hh,h1,h2,h3,h4,h5,rfl,rfl⟩⟩
    .exact h.elim
   .rename_i hne;simp only[quiet] at hq;cases hq
 | fieldAddr s x n=>
  simp only[ZaV,Zl3,forall_const] at h ⊢;cases h1:Zj6 P s n with
  | none=>rw[h1] at h;exact h.elim
  | some fd=>
   simp only[h1] at h;cases h2:okT P fd.type <;> cases h3:decide (szD P fd.type=0) <;> simp only[h2,h3] at h ⊢ <;> first | exact h.elim | skip
   obtain ⟨a,h1,hk⟩:=h;exact ⟨_,hk,⟨a,h1,rfl,rfl⟩,λ_=>⟨a,h1,rfl,rfl⟩⟩
 | field s x n=>
  simp only[ZaV,Zl3,forall_const] at h ⊢;cases h1:Zj6 P s n with
  | none=>rw[h1] at h;exact h.elim
  | some fd=>
   simp only[h1] at h;cases h2:okT P fd.type <;> cases h3:Zb7 P fd.type <;> simp only[h2,h3] at h ⊢ <;> first | exact h.elim | skip
   .obtain ⟨a,v,h1,h4,hk⟩:=h;exact ⟨_,hk,⟨a,v,h1,h4,rfl,rfl⟩,λ_=>⟨a,v,h1,h4,rfl,rfl⟩⟩
   .obtain ⟨a,h1,hk⟩:=h;exact ⟨_,hk,⟨a,h1,rfl,rfl⟩,λ_=>⟨a,h1,rfl,rfl⟩⟩
 | indexAddr t x i=>
  simp only[ZaV,Zl3,forall_const] at h ⊢;split at h
  .split at h
   .obtain ⟨a,n,c,k,j,h1,h2,h3,h4,hk⟩:=h;exact ⟨_,hk,⟨a,n,c,k,j,h1,h2,h3,h4,rfl,rfl⟩,λ_=>⟨a,n,c,k,j,h1,h2,h3,h4,rfl,rfl⟩⟩
   .exact h.elim
  .split at h
   .obtain ⟨a,k,j,h1,h2,h3,h4,hk⟩:=h;exact ⟨_,hk,⟨a,k,j,h1,h2,h3,h4,rfl,rfl⟩,λ_=>⟨a,k,j,h1,h2,h3,h4,rfl,rfl⟩⟩
   .exact h.elim
  .exact h.elim
 | extract x i=>obtain ⟨vs,v,h1,h2,hk⟩:=h;exact ⟨_,hk,⟨vs,v,h1,h2,rfl,rfl⟩,λ_ _=>⟨vs,v,h1,h2,rfl,rfl⟩⟩
 | call c=>
  obtain ⟨callee,args,argTypes⟩:=c;simp only[quiet] at hq;simp only[ZaV,Zl3,forall_const] at h ⊢;cases callee with
  | builtin b=>
   cases b <;> simp only[Bool.false_eq_true] at hq;split at hq
   .rename_i x t ha ht;simp only[ha,ht] at h ⊢;cases hu:P.underlying t with
    | none=>rw[hu] at hq;simp at hq
    | some d=>
     rw[hu] at hq h;cases d <;> simp only[Bool.false_eq_true] at hq
     .obtain ⟨s,h1,hk⟩:=h;exact ⟨_,hk,⟨s,h1,rfl,rfl⟩,λ_=>⟨s,h1,rfl,rfl⟩⟩
     .obtain ⟨a,n,c,h1,hk⟩:=h;exact ⟨_,hk,⟨a,n,c,h1,rfl,rfl⟩,λ_=>⟨a,n,c,h1,rfl,rfl⟩⟩
   .cases hq
  | _=>simp at hq
 | _=>cases hq
end
section
variable {P:Program} {ops:Array Oper}
theorem Zu4 {o:Oper} {ρ:Ev} {w:World} {K:KV} (hq:quiet P o=true) (h:gop P ops o ρ w K) :
  ∃v,K v w/\gop P ops o ρ w (λv' w'=>v'=v/\w'=w)/\(Zl3 o=false->∀w2,gop P ops o ρ w2<|λv' w'=>v'=v/\w'=w2):=by
 unfold gop at h ⊢;split at h
 .rename_i hg;exact ZnB o hq h
 .rename_i j want hg;unfold gd at h ⊢;cases hw:ZoG (ZBG ops ρ j) want with
  | true=>
   obtain ⟨v,h1,h2,h3⟩:=ZnB o hq<|h.1 hw;exact ⟨v,h1,⟨λ_=>h2,λe=>by cases e⟩,λhr w2=>⟨λ_=>h3 hr w2,λe=>by cases e⟩⟩
  | false=>exact ⟨undef,h.2 hw,⟨(λe=>by cases e),λ_=>⟨rfl,rfl⟩⟩,λ_ _=>⟨(λe=>by cases e),λ_=>⟨rfl,rfl⟩⟩⟩
def ZuQ (ms:List Nat) (o:Oper):Nat:=o.after.toList.foldl (λm e=>match Region.binds .any e with | true=>m ||| (1 <<< e.on) ||| ms.getD e.on 0 | false=>m) 0
def ZFG:List Oper->List Nat->List Nat
 | [],ms=>ms
 | o::l,ms=>ZFG l<|ms++[ZuQ ms o]
def anc (ops:Array Oper) (_n i j:Nat):Bool:=((ZFG ops.toList []).getD j 0).testBit i
def ZwU (ops:Array Oper) (listed:Array Bool):Prop:=
 ∀k o,ops[k]?=some o->listed.getD k true=true->∀e∈o.after,Region.binds .any e=true->listed.getD e.on false=true
theorem Zrk {ms:List Nat} {o:Oper} {i:Nat} (h:(ZuQ ms o).testBit i=true):∃e∈o.after,Region.binds .any e=true/\(e.on=i\/(ms.getD e.on 0).testBit i=true):=by
 have key:∀(l:List Edge) (acc:Nat),(l.foldl (λm e=>match Region.binds .any e with | true=>m ||| (1 <<< e.on) ||| ms.getD e.on 0 | false=>m) acc).testBit i=true->
   acc.testBit i=true\/∃e∈l,Region.binds .any e=true/\(e.on=i\/(ms.getD e.on 0).testBit i=true):=by
  intro l;induction l with
  | nil=>intro acc h;exact .inl h
  | cons e l ih=>
   intro acc h;simp only[List.foldl_cons] at h;rcases ih _ h with h | ⟨e',he',h⟩
   .cases hb:Region.binds .any e with
    | false=>rw[hb] at h;exact .inl h
    | true=>
     rw[hb] at h;simp only[Nat.testBit_or,Bool.or_eq_true] at h;rcases h with (h | h) | h
     .exact .inl h
     .refine .inr ⟨e,by simp,hb,.inl ?_⟩;rw[Nat.one_shiftLeft,Nat.testBit_two_pow] at h
      simpa using h
     .exact .inr ⟨e,by simp,hb,.inr h⟩
   .exact .inr ⟨e',by simp[he'],h⟩
 rcases key _ _ h with h | ⟨e,he,h⟩
 .simp at h
 .exact ⟨e,by simpa using he,h⟩
theorem Ztx {listed:Array Bool} (hd:ZwU ops listed) (n i j:Nat) (hj:j∈Region.ready .any ops listed\/listed.getD j false=true) (h:anc ops n i j=true):listed.getD i false=true:=by
 have hedge:∀(j:Nat) (o:Oper),ops[j]?=some o->(j∈Region.ready .any ops listed\/listed.getD j false=true)->∀e∈o.after,Region.binds .any e=true->listed.getD e.on false=true:=by
  intro j o ho hj e he hb;rcases hj with hj | hj
  .obtain ⟨hjun,oj,hoj,hall⟩:=mem_ready.1 hj;rw[ho] at hoj;cases hoj;exact hall e he hb
  .refine hd j o ho ?_ e he hb;rw[Array.getD_eq_getD_getElem?] at hj ⊢;cases hx:listed[j]? <;> simp_all
 have key:∀(l:List Oper) (ms:List Nat),(∀k o,l[k]?=some o->ops[ms.length+k]?=some o)->
   (∀j m,ms[j]?=some m->∀i,m.testBit i=true->(j∈Region.ready .any ops listed\/listed.getD j false=true)->listed.getD i false=true)->
   ∀j m,(ZFG l ms)[j]?=some m->∀i,m.testBit i=true->(j∈Region.ready .any ops listed\/listed.getD j false=true)->listed.getD i false=true:=by
  intro l;induction l with
  | nil=>intro ms _ hG;exact hG
  | cons o l ih=>
   intro ms hl hG;refine ih (ms++[ZuQ ms o]) (λk o' hk=>?_)<|λj m hm i hi hj=>?_
   .have:=hl (k+1) o' hk;rw[List.length_append,List.length_singleton,Nat.add_assoc,Nat.add_comm 1 k];exact this
   .by_cases hlt:j<ms.length
    .rw[List.getElem?_append_left hlt] at hm;exact hG j m hm i hi hj
    .have hje:j=ms.length:=by
      have:=(List.getElem?_eq_some_iff.1 hm).1;simp at this;omega
     subst hje;rw[List.getElem?_append_right<|Nat.le_refl _,Nat.sub_self] at hm;simp at hm;subst hm;obtain ⟨e,he,hb,h⟩:=Zrk hi;have ho:ops[ms.length]?=some o:=by simpa using hl 0 o rfl
     have hon:=hedge _ o ho hj e he hb;rcases h with rfl | h
     .exact hon
     .rw[List.getD_eq_getElem?_getD] at h;cases hx:ms[e.on]? with
      | none=>rw[hx] at h;simp at h
      | some m'=>rw[hx] at h;exact hG e.on m' hx i h (.inr hon)
 unfold anc at h;rw[List.getD_eq_getElem?_getD] at h;cases hx:(ZFG ops.toList [])[j]? with
 | none=>rw[hx] at h;simp at h
 | some m=>rw[hx] at h;exact key ops.toList [] (λk o hk=>by simpa using hk) (λj m hm=>by simp at hm) j m hx i h hj
theorem ZwU.set {listed:Array Bool} (hd:ZwU ops listed) {j:Nat} (hj:j∈Region.ready .any ops listed):ZwU ops (listed.setIfInBounds j true):=by
 intro k o hk hl e he hb;refine getD_set_true ?_;by_cases hkj:j=k
 .subst hkj;obtain ⟨hjun,oj,hoj,hall⟩:=mem_ready.1 hj;rw[hk] at hoj;cases hoj;exact hall e he hb
 .rw[getD_set_ne true hkj] at hl;exact hd k o hk hl e he hb
theorem Zvv {Q:Exit->Act->World->Prop} {j:Nat} {oi oj:Oper} {v:Value} (hj:ops[j]?=some oj) (hap:oi.apart ops oj=true)
  (hsi:∀cs b,oi.op≠.select cs b) (hsj:∀cs b,oj.op≠.select cs b)
  (hQ:∀c a w,Q (.panic c) (a.put oi.dst v) w->Q (.panic c) a w) {K:Act->World->Prop} {a:Act} {w:World}
  (h:wpOpIn (fen none) 0 P ops Q j K (a.put oi.dst v) w) :
  wpOpIn (fen none) 0 P ops Q j (λa' w'=>(execOp a'.eval oi=execOp a.eval oi/\Region.wanted oi (yielded ops a'.tmps)=Region.wanted oi (yielded ops a.tmps))/\K (a'.put oi.dst v) w') a w:=by
 obtain ⟨h1,h2,h3⟩:=Oper.apart_spec hap;have keep:∀(a0:Act),(execOp a0.eval oi=execOp a.eval oi/\Region.wanted oi (yielded ops a0.tmps)=Region.wanted oi (yielded ops a.tmps))->
   ∀u,(execOp (a0.put oj.dst u).eval oi=execOp a.eval oi/\Region.wanted oi (yielded ops (a0.put oj.dst u).tmps)=Region.wanted oi (yielded ops a.tmps)):=λa0 hy u=>
  ⟨(execOp_put oi hsi a0 oj.dst u h3).trans hy.1,(wanted_put oi a0 oj.dst u h3).trans hy.2⟩
 unfold wpOpIn at*;simp only[hj] at*;rw[wanted_put oj a oi.dst v h1] at h;split
 .rename_i hw;simp only[hw,if_true] at h;unfold Oper.wpIn at*;refine ⟨λf _=>ZnO none f,?_⟩
  replace h:=h.2
  have hse:∀ρ,oj.semAt (fen none).round ρ=execOp ρ oj:=λ_=>rfl;rw[hse] at h ⊢;rw[execOp_put oj hsj a oi.dst v h1] at h;generalize (execOp a.eval oj).run P w=r at*;cases r with
  | ok n w'=>
   cases n <;> simp only[Oper.uponIn] at h ⊢
   case value u=>exact ⟨keep a ⟨rfl,rfl⟩ u,by rw[<-Act.put_comm a v u h2];exact h⟩
   case skip=>exact ⟨keep a ⟨rfl,rfl⟩ _,by rw[<-Act.put_comm a v undef h2];exact h⟩
   case defer d=>
    refine ⟨keep { a with defers:=d::a.defers } ⟨rfl,rfl⟩ _,?_⟩;rw[<-Act.put_comm _ v undef h2,<-Act.put_defers];exact h
   case enter f args=>
    refine ⟨h.1,CallsIn.mono h.2 λe w'' he=>?_⟩;cases e with
    | returned u=>exact ⟨keep a ⟨rfl,rfl⟩ u,by rw[<-Act.put_comm a v u h2];exact he⟩
    | panicked c=>exact hQ _ _ _ he
    | outgrown=>exact he
   case row row args=>exact ⟨h.1,RowsIn.mono h.2 λu w'' he=>⟨keep a ⟨rfl,rfl⟩ u,by rw[<-Act.put_comm a v u h2];exact he⟩⟩
   case round l f tmps assign body=>
    refine ⟨h.1,RoundIn.mono h.2 λe w'' he=>?_⟩;cases e with
    | returned u=>exact ⟨keep a ⟨rfl,rfl⟩ u,by rw[<-Act.put_comm a v u h2];exact he⟩
    | panicked c=>exact hQ _ _ _ he
    | outgrown=>exact he
  | halt x w'=>
   cases x <;> simp only[Oper.uponIn] at h ⊢
   case panic u=>exact hQ _ _ _ h
 .rename_i hw;simp only[hw] at h;exact ⟨λf _=>ZnO none f,keep a ⟨rfl,rfl⟩ _,by rw[<-Act.put_comm a v undef h2];exact h.2⟩
def ZkV (P:Program) (ops:Array Oper) (Q:Exit->Act->World->Prop) (qt:Nat->Bool) (S:Nat->World->Prop):Nat->Array Bool->Act->World->Prop
 | 0,listed,a,w=>Region.ready .any ops listed=[]/\Q .normal a w
 | n+1,listed,a,w=>
  (Region.ready .any ops listed=[]->Q .normal a w)/\
  ∀j∈Region.ready .any ops listed,wpOpIn (fen none) 0 P ops Q j (λa' w'=>(qt j=true->w'=w)/\(qt j=false->S j w')/\ZkV P ops Q qt S n (listed.setIfInBounds j true) a' w') a w
variable {Q:Exit->Act->World->Prop} {qt:Nat->Bool}
theorem Znd {S:Nat->World->Prop}:∀(n:Nat) (listed:Array Bool) (a:Act) (w:World),ZkV P ops Q qt S n listed a w->wpAnyIn (fen none) 0 P .any ops Q n listed a w
 | 0,_,_,_,h=>h
 | n+1,_,_,_,h=>⟨h.1,λi hi=>wpOpIn_mono (λa' w' h'=>Znd n _ a' w' h'.2.2)<|h.2 i hi⟩
theorem ZlF {S S':Nat->World->Prop} (hs:∀j w,S j w->S' j w):∀(n:Nat) (listed:Array Bool) (a:Act) (w:World),ZkV P ops Q qt S n listed a w->ZkV P ops Q qt S' n listed a w
 | 0,_,_,_,h=>h
 | n+1,_,_,_,h=>⟨h.1,λi hi=>wpOpIn_mono (λa' w' h'=>⟨h'.1,λq=>hs _ _<|h'.2.1 q,ZlF hs n _ a' w' h'.2.2⟩)<|h.2 i hi⟩
def Yl (P:Program) (ops:Array Oper) (oi:Oper) (v:Value) (a:Act) (w:World):Prop:=
 if Region.wanted oi (yielded ops a.tmps) then ex P (execOp a.eval oi) w (λv' w'=>v'=v/\w'=w) else v=undef
theorem Zuv {i:Nat} {oi:Oper} {v:Value} {a:Act} {w:World} (hi:ops[i]?=some oi) (h:Yl P ops oi v a w) {K:Act->World->Prop} (hk:K (a.put oi.dst v) w):wpOpIn (fen none) 0 P ops Q i K a w:=by
 unfold wpOpIn;simp only[hi];unfold Yl at h;split
 .rename_i hw;rw[if_pos hw] at h;exact ZrM h λv' w' ⟨h1,h2⟩=>by subst h1;subst h2;exact hk
 .rename_i hw;rw[if_neg hw] at h;subst h;exact ⟨λf _=>ZnO none f,hk⟩
theorem ZkJ {N i:Nat} {oi:Oper} {v:Value} {S S':Nat->World->Prop} {T:World->Prop} (hi:ops[i]?=some oi) (hqi:qt i=true) (hsel:∀(j:Nat) (o:Oper) cs b,ops[j]?=some o->o.op≠.select cs b)
  (hQ:∀c a w,Q (.panic c) (a.put oi.dst v) w->Q (.panic c) a w) (hST:∀j w,anc ops N i j=false->S j w->T w) (hSS:∀j w,S j w->S' j w) :
  ∀(n:Nat) (listed:Array Bool) (a:Act) (w:World),ZwU ops listed->
   (∀j oj,ops[j]?=some oj->j≠i->listed.getD j true=false->(∀e∈oj.after,Region.binds .any e=true->e.on≠i)->oi.apart ops oj=true)->
   i∈Region.ready .any ops listed->(∀w,T w->Yl P ops oi v a w)->T w->
   ZkV P ops Q qt S n (listed.setIfInBounds i true) (a.put oi.dst v) w->ZkV P ops Q qt S' (n+1) listed a w:=by
 intro n;induction n with
 | zero=>
  intro listed a w hd _ hr hy hT H;refine ⟨λh=>(by rw[h] at hr;cases hr),λj hj=>?_⟩;by_cases hji:j=i
  .subst hji;exact Zuv hi (hy w hT) ⟨λ_=>rfl,λq=>absurd (hqi.symm.trans q) (by simp),H⟩
  .have:=ready_mono hj hji;rw[H.1] at this;cases this
 | succ n ih=>
  intro listed a w hd hfree hr hy hT H;refine ⟨λh=>(by rw[h] at hr;cases hr),λj hj=>?_⟩;by_cases hji:j=i
  .subst hji;exact Zuv hi (hy w hT) ⟨λ_=>rfl,λq=>absurd (hqi.symm.trans q) (by simp),ZlF hSS _ _ _ _ H⟩
  .have h1:=H.2 j<|ready_mono hj hji;obtain ⟨hjun,oj,hoj,hall⟩:=mem_ready.1 hj;have hiun:listed.getD i true=false:=(mem_ready.1 hr).1;have hif:listed.getD i false=false:=by
    rw[Array.getD_eq_getD_getElem?] at hiun ⊢;cases hx:listed[i]? <;> simp_all
   have hnot:∀e∈oj.after,Region.binds .any e=true->e.on≠i:=λe he hb heq=>by
    have h1:=hall e he hb;rw[heq,hif] at h1;cases h1
   have hanc:anc ops N i j=false:=by
    cases ha:anc ops N i j with
    | false=>rfl
    | true=>have:=Ztx hd N i j (.inl hj) ha;rw[hif] at this;cases this
   have h2:=Zvv hoj (hfree j oj hoj hji hjun hnot) (λcs b=>hsel i oi cs b hi) (λcs b=>hsel j oj cs b hoj) hQ h1;have hfree':∀k ok,ops[k]?=some ok->k≠i->(listed.setIfInBounds j true).getD k true=false->
     (∀e∈ok.after,Region.binds .any e=true->e.on≠i)->oi.apart ops ok=true:=λk ok hk hki hun hno=>by
    refine hfree k ok hk hki ?_ hno;by_cases hjk:j=k
    .subst hjk;exact hjun
    .rw[getD_set_ne true hjk] at hun;exact hun
   refine wpOpIn_mono (λa' w' h3=>⟨h3.2.1,λq=>hSS _ _<|h3.2.2.1 q,?_⟩) h2;obtain ⟨⟨e1,e2⟩,h4,h5,h6⟩:=h3;refine ih (listed.setIfInBounds j true) a' w' (hd.set hj) hfree' (ready_mono hr<|Ne.symm hji) (λw3 h7=>?_) ?_ ?_
   .have:=hy w3 h7;unfold Yl at this ⊢;rw[e1,e2];exact this
   .cases hq:qt j with
    | true=>rw[h4 hq];exact hT
    | false=>exact hST j w' hanc (h5 hq)
   .rw[Array.setIfInBounds_comm _ _ hji];exact h6
def ZcC (P:Program) (ops:Array Oper) (i:Nat):Bool:=match ops[i]? with | some o=>quiet P o | none=>false
def ZDD (ops:Array Oper) (j:Nat) (w:World) (rest:Prop):List (Nat × (World->Prop))->Prop
 | []=>rest
 | (i,T)::l=>match anc ops ops.size i j with
  | true=>ZDD ops j w rest l
  | false=>T w/\ZDD ops j w rest l
def ZF1:List Nat->(Nat->Prop)->Prop
 | [],_=>True
 | [i],f=>f i
 | i::j::l,f=>f i/\ZF1 (j::l) f
theorem Zst {f:Nat->Prop}:∀{l:List Nat},ZF1 l f->∀i∈l,f i
 | [],_,_,h=>by cases h
 | [_],h,_,hi=>by simp at hi;subst hi;exact h
 | a::b::l,h,i,hi=>by
  cases hi with
  | head=>exact h.1
  | tail _ hi=>exact Zst (l:=b::l) h.2 i hi
def Zvz (P:Program) (ops:Array Oper) (K:Ev->World->Prop):Nat->Array Bool->List (Nat × (World->Prop))->Ev->World->Prop
 | 0,_,_,ρ,w=>K ρ w
 | n+1,listed,tk,ρ,w=>
  match (Region.ready .any ops listed).find? (ZcC P ops) with
  | some i=>match ops[i]? with
   | some o=>gop P ops o ρ w λv _=>Zvz P ops K n (listed.setIfInBounds i true) (match Zl3 o with | true=>(i,λw'=>gop P ops o ρ w' λv' w''=>v'=v/\w''=w')::tk | false=>tk) (ρ.put o.dst v) w
   | none=>False
  | none=>match Region.ready .any ops listed with
   | []=>K ρ w
   | i::l=>ZF1 (i::l) λi=>match ops[i]? with
    | some o=>gop P ops o ρ w λv w'=>ZDD ops i w' (Zvz P ops K n (listed.setIfInBounds i true) tk (ρ.put o.dst v) w') tk
    | none=>False
def sub (m A:Nat):Bool:=Nat.beq (m &&&A) m
theorem Zga {m A:Nat} (h:sub m A=true):∀t,m.testBit t=true->A.testBit t=true:=by
 intro t ht;have:=Nat.eq_of_beq_eq_true h;rw[<-this,Nat.testBit_and,Bool.and_eq_true] at ht;exact ht.2
def Znl (P:Program) (ops:Array Oper) (nt out:Nat):Nat->Array Bool->Nat->Bool
 | 0,listed,A=>(Region.ready .any ops listed).isEmpty&&sub out A
 | n+1,listed,A=>
  match (Region.ready .any ops listed).find? (ZcC P ops) with
  | some i=>match ops[i]? with
   | some o=>okD nt o.dst&&sub (Zxb ops o) A&&Region.free .any ops listed i&&Znl P ops nt out n (listed.setIfInBounds i true) (A ||| Zro o.dst)
   | none=>false
  | none=>match Region.ready .any ops listed with
   | []=>sub out A
   | i::l=>(i::l).all λi=>match ops[i]? with
    | some o=>okD nt o.dst&&sub (Zxb ops o) A&&Znl P ops nt out n (listed.setIfInBounds i true) (A ||| Zro o.dst)
    | none=>false
def ZCu (ops:Array Oper) (tk:List<|Nat × (World->Prop)) (j:Nat) (w:World):Prop:=∀x∈tk,anc ops ops.size x.1 j=false->x.2 w
theorem Zis {j:Nat} {w:World} {rest:Prop}:∀(l:List<|Nat × (World->Prop)),ZDD ops j w rest l->ZCu ops l j w/\rest
 | [],h=>⟨(λ_ h=>by cases h),h⟩
 | (i,T)::l,h=>by
  unfold ZDD at h;split at h
  .rename_i ha;obtain ⟨h1,h2⟩:=Zis l h;refine ⟨λx hx hb=>?_,h2⟩;cases hx with
   | head=>rw[ha] at hb;cases hb
   | tail _ hx=>exact h1 x hx hb
  .obtain ⟨h0,h⟩:=h;obtain ⟨h1,h2⟩:=Zis l h;refine ⟨λx hx hb=>?_,h2⟩;cases hx with
   | head=>exact h0
   | tail _ hx=>exact h1 x hx hb
theorem ZxF {n m:Nat} {a:Act} {ρ:Ev} {o:Oper} {v:Value} {w:World} (ha:ZdN ds n m a ρ) (hs:ZnX o=true) (hu:∀t,(Zxb ops o).testBit t=true->m.testBit t=true)
  (h:gop P ops o ρ w λv' w'=>v'=v/\w'=w):Yl P ops o v a w:=by
 have e:execOp a.eval o=execOp ρ.opd o:=execOp_congr o (Zkl hs) (by
  intro x hx;exact ha.opd (l:=o.op.operands.toList) (λt ht=>hu t<|by simp[Zxb,ht]) x<|by simpa using hx)
 unfold Yl;unfold gop at h;split at h
 .rename_i hg;rw[if_pos (by simp[Region.wanted,hg]),e];exact ZhQ (λ_=>rfl) (λ_=>rfl) o h
 .rename_i j want hg;rw[Zly hg ha<|λt ht=>hu t (by simp[Zxb,ht])];obtain ⟨h1,h2⟩:=h;cases hw:ZoG (ZBG ops ρ j) want with
  | true=>rw[if_pos rfl,e];exact ZhQ (λ_=>rfl) (λ_=>rfl) o (h1 hw)
  | false=>rw[if_neg (by simp)];exact (h2 hw).1.symm
theorem Ztn {K:Ev->World->Prop} {nt out W:Nat} {ρ0:Ev} (hW:∀o∈ops,∀t,(Zro o.dst).testBit t=true->W.testBit t=true) (hs:ops.all ZnX=true) (hQ:∀c a w,¬Q (.panic c) a w) (hk:∀ρ a w,ZdN ds nt out a ρ->Fr W ρ0 ρ->K ρ w->Q .normal a w) :
  ∀(n:Nat) (listed:Array Bool) (tk:List<|Nat × (World->Prop)) (A:Nat) (a:Act) (ρ:Ev) (w:World),ZwU ops listed->Znl P ops nt out n listed A=true->ZdN ds nt A a ρ->Fr W ρ0 ρ->
   Zvz P ops K n listed tk ρ w->ZkV P ops Q (ZcC P ops) (ZCu ops tk) n listed a w:=by
 have hsel:∀(j:Nat) (o:Oper) cs b,ops[j]?=some o->o.op≠.select cs b:=λj o cs b ho=>by
  have hm:o∈ops:=Array.mem_of_getElem? ho;exact Zkl (by have:=Array.all_eq_true_iff_forall_mem.1 hs o hm;exact this) cs b
 have hsel':∀(j:Nat) (o:Oper),ops[j]?=some o->ZnX o=true:=λj o ho=>Array.all_eq_true_iff_forall_mem.1 hs o<|Array.mem_of_getElem? ho;intro n;induction n with
 | zero=>
  intro listed tk A a ρ w hd hok ha hfr h;simp only[Znl,Bool.and_eq_true,List.isEmpty_iff] at hok;exact ⟨hok.1,hk ρ a w (ha.mono<|Zga hok.2) hfr h⟩
 | succ n ih=>
  intro listed tk A a ρ w hd hok ha hfr h;unfold Znl at hok;unfold Zvz at h;cases hf:(Region.ready .any ops listed).find? (ZcC P ops) with
  | some i=>
   simp only[hf] at hok h;have hir:i∈Region.ready .any ops listed:=List.mem_of_find?_eq_some hf;have hiq:ZcC P ops i=true:=List.find?_some hf;cases ho:ops[i]? with
   | none=>rw[ho] at h;exact h.elim
   | some o=>
    simp only[ho,Bool.and_eq_true] at hok h;obtain ⟨⟨⟨ho1,ho2⟩,ho3⟩,ho4⟩:=hok;have hq:quiet P o=true:=by simpa [ZcC,ho] using hiq
    obtain ⟨v,hv,h1,h2⟩:=Zu4 hq h;have ha':=(ha.put (v:=v)<|Zlj ho1);have hH:=ih _ _ _ (a.put o.dst v) (ρ.put o.dst v) w (hd.set hir) ho4 ha' (hfr.put v<|hW o<|Array.mem_of_getElem? ho) hv;cases hr:Zl3 o with
    | false=>
     rw[hr] at hH;exact ZkJ (N:=ops.size) (T:=λ_=>True) ho hiq hsel (λc a w hp=>absurd hp<|hQ _ _ _) (λ_ _ _ _=>trivial) (λ_ _ h=>h) n listed a w hd (Region.free_spec ho ho3) hir
      (λw2 _=>ZxF ha (hsel' i o ho) (Zga ho2)<|h2 hr w2) trivial hH
    | true=>
     rw[hr] at hH;refine ZkJ (N:=ops.size) (T:=λw'=>gop P ops o ρ w' λv' w''=>v'=v/\w''=w') ho hiq hsel (λc a w hp=>absurd hp<|hQ _ _ _) (λj w' hanc hS=>hS (i,_) (List.mem_cons_self ..) hanc)
      (λj w' hS x hx=>hS x<|List.mem_cons_of_mem _ hx) n listed a w hd (Region.free_spec ho ho3) hir ?_ ?_ hH
     .intro w2 hT;exact ZxF ha (hsel' i o ho) (Zga ho2) hT
     .exact h1
  | none=>
   simp only[hf] at hok h;cases hr:Region.ready .any ops listed with
   | nil=>
    simp only[hr] at hok h;exact ⟨λ_=>hk ρ a w (ha.mono<|Zga hok) hfr h,λj hj=>by rw[hr] at hj;cases hj⟩
   | cons i0 l0=>
    simp only[hr] at hok h;refine ⟨λh0=>by (rw[hr] at h0;cases h0),λi hi=>?_⟩;have hir:i∈Region.ready .any ops listed:=hi;rw[hr] at hi
    replace h:=Zst h i hi
    replace hok:=List.all_eq_true.1 hok i hi
    have hiq:ZcC P ops i=false:=by
     cases hx:ZcC P ops i with
     | false=>rfl
     | true=>
      have:=List.find?_eq_none.1 hf i hir;rw[hx] at this;exact absurd rfl this
    cases ho:ops[i]? with
    | none=>rw[ho] at h;exact h.elim
    | some o=>
     simp only[ho,Bool.and_eq_true] at hok h;obtain ⟨⟨ho1,ho2⟩,ho4⟩:=hok;have hg:=ZpB (P:=P) (ro:=none) (ops:=ops) (Q:=Q) (next:=λa' w'=>(ZcC P ops i=true->w'=w)/\(ZcC P ops i=false->ZCu ops tk i w')/\ZkV P ops Q (ZcC P ops) (ZCu ops tk) n (listed.setIfInBounds i true) a' w')
      ha (hsel' i o ho) (Zga ho2) h (λv w' hv=>⟨λq=>by (rw[hiq] at q;cases q),λ_=>(Zis tk hv).1,ih _ _ _ _ _ _ (hd.set hir) ho4 (ha.put<|Zlj ho1) (hfr.put v<|hW o<|Array.mem_of_getElem? ho) (Zis tk hv).2⟩)
     unfold wpOpIn;simp only[ho];split
     .rename_i hw;rw[if_pos hw] at hg;exact hg
     .rename_i hw;rw[if_neg hw] at hg;exact ⟨λf _=>ZnO none f,λ_=>trivial,hg.2⟩
end
end Go.E
end
section
namespace Go.E
open Go.RowKit
variable {ds:List Deferred}
def ZpT (l:List Oper):Nat:=l.foldr (λo m=>Zro o.dst ||| m) 0
def wr:Code->Nat
 | .region _ ops _=>ZpT ops.toList
 | .seq a b=>wr a ||| wr b
 | .cond _ a b=>wr a ||| wr b
 | .block _ a=>wr a
 | .loop a=>wr a
 | _=>0
def lv (rl:Nat):Code->(out:Nat)->(ex:Nat->Nat)->Nat
 | .skip,out,_=>out
 | .region _ ops _,out,_=>Zvi ops ops.toList out
 | .seq a b,out,ex=>lv rl a (lv rl b out ex) ex
 | .cond c a b,out,ex=>ZAC c ||| (lv rl a out ex ||| lv rl b out ex)
 | .block id a,out,ex=>lv rl a out (λi=>match Nat.beq i id with | true=>out | false=>ex i)
 | .exit id,_,ex=>ex id
 | .loop a,_,ex=>lv rl a 0 ex
 | .ret,_,_=>rl
 | _,_,_=>0
def Zd4 (n m:Nat):List Nat:=(List.range n).filter λt=>m.testBit t
theorem Zmy {n m t:Nat}:t∈Zd4 n m↔t<n/\m.testBit t=true:=by simp[Zd4]
def Zqo (id:Nat):Code->Nat
 | .exit i=>match Nat.beq i id with | true=>1 | false=>0
 | .seq a b=>Zqo id a+Zqo id b
 | .cond _ a b=>Zqo id a+Zqo id b
 | .block _ a=>Zqo id a
 | .loop a=>Zqo id a
 | _=>0
def Zxz:Code->Nat
 | .skip=>1
 | .region ..=>1
 | .seq a b=>match Zxz a with | 0=>0 | _=>Zxz b
 | .cond _ a b=>Zxz a+Zxz b
 | .block id a=>Zxz a+Zqo id a
 | _=>0
structure KS where
 nrm:Ev->World->Prop
 ext:Nat->Ev->World->Prop
 ret:Ev->World->Prop
def jn (rest:List Value->World->Prop) (body:(List Value->World->Prop)->Prop):Prop:=body rest
def lp (init:List Value) (w:World) (body:List Value->World->(List Value->World->Prop)->Prop):Prop:=
 ∃(I:List Value->World->Prop) (μ:List Value->World->Nat),I init w/\∀vs w,vs.length=init.length->I vs w->body vs w (λvs' w'=>I vs' w'/\μ vs' w'<μ vs w)
def Zr (c:Value) (A B:Prop):Prop:=∃b,c=.bool b/\(b=true->A)/\(b=false->B)
def dr (w:World) (K:World->Prop):Prop:=K w.drew
def cw (P:Program) (nt rl:Nat):Code->(out:Nat)->(ex:Nat->Nat)->KS->Ev->World->Prop
 | .skip,_,_,K,ρ,w=>K.nrm ρ w
 | .region _ ops false,_,_,K,ρ,w=>Zt5 P ops K.nrm ops.toList ρ w
 | .region _ ops true,_,_,K,ρ,w=>dr w λw=>Zvz P ops K.nrm ops.size (Array.replicate ops.size false) [] ρ w
 | .seq a b,out,ex,K,ρ,w=>cw P nt rl a (lv rl b out ex) ex { K with nrm:=λρ' w'=>cw P nt rl b out ex K ρ' w' } ρ w
 | .cond c a b,out,ex,K,ρ,w=>
  match Nat.ble (Zxz a+Zxz b) 1 with
  | true=>Zr (ρ.opd c) (cw P nt rl a out ex K ρ w) (cw P nt rl b out ex K ρ w)
  | false=>
   jn (λvs w'=>K.nrm (ρ.over (Zd4 nt<|(wr a ||| wr b) &&&out) vs) w') λk=>
    Zr (ρ.opd c) (cw P nt rl a out ex { K with nrm:=λρ' w'=>k ((Zd4 nt<|(wr a ||| wr b) &&&out).map ρ') w' } ρ w) (cw P nt rl b out ex { K with nrm:=λρ' w'=>k ((Zd4 nt<|(wr a ||| wr b) &&&out).map ρ') w' } ρ w)
 | .block id a,out,ex,K,ρ,w=>
  match Nat.ble (Zxz a+Zqo id a) 1 with
  | true=>cw P nt rl a out (λi=>match Nat.beq i id with | true=>out | false=>ex i) { K with ext:=λi=>match Nat.beq i id with | true=>K.nrm | false=>K.ext i } ρ w
  | false=>
   jn (λvs w'=>K.nrm (ρ.over (Zd4 nt<|wr a &&&out) vs) w') λk=>
    cw P nt rl a out (λi=>match Nat.beq i id with | true=>out | false=>ex i)
     { K with nrm:=λρ' w'=>k ((Zd4 nt<|wr a &&&out).map ρ') w',ext:=λi=>match Nat.beq i id with | true=>λρ' w'=>k ((Zd4 nt<|wr a &&&out).map ρ') w' | false=>K.ext i } ρ w
 | .exit id,_,_,K,ρ,w=>K.ext id ρ w
 | .loop a,out,ex,K,ρ,w=>
  lp ((Zd4 nt<|wr a &&&lv rl (.loop a) out ex).map ρ) w λvs w' again=>
   cw P nt rl a (lv rl (.loop a) out ex) ex { K with nrm:=λρ' w''=>again ((Zd4 nt<|wr a &&&lv rl (.loop a) out ex).map ρ') w'' } (ρ.over (Zd4 nt<|wr a &&&lv rl (.loop a) out ex) vs) w'
 | .ret,_,_,K,ρ,w=>K.ret ρ w
 | _,_,_,_,_,_=>False
def Zf6 (P:Program) (nt rl:Nat):Code->(out:Nat)->(ex:Nat->Nat)->Bool
 | .skip,_,_=>true
 | .region _ ops false,_,_=>ops.toList.all λo=>ZnX o&&okD nt o.dst
 | .region _ ops true,out,_=>ops.all ZnX&&(ops.toList.all λo=>okD nt o.dst)&&Znl P ops nt out ops.size (Array.replicate ops.size false) (Zvi ops ops.toList out)
 | .seq a b,out,ex=>Zf6 P nt rl a (lv rl b out ex) ex&&Zf6 P nt rl b out ex
 | .cond _ a b,out,ex=>Zf6 P nt rl a out ex&&Zf6 P nt rl b out ex
 | .block id a,out,ex=>Zf6 P nt rl a out (λi=>match Nat.beq i id with | true=>out | false=>ex i)
 | .exit _,_,_=>true
 | .loop a,out,ex=>Zf6 P nt rl a (lv rl (.loop a) out ex) ex&&sub (lv rl a (lv rl (.loop a) out ex) ex) (lv rl (.loop a) out ex)
 | .ret,_,_=>true
 | _,_,_=>true
theorem ZrO:∀(ms:List Nat) (i t:Nat),t∉ms->idx t ms i=none
 | [],_,_,_=>rfl
 | m::ms,i,t,h=>by
  unfold idx;cases hb:Nat.beq t m with
  | true=>exact absurd (Nat.eq_of_beq_eq_true hb) (λe=>h<|by simp[e])
  | false=>exact ZrO ms (i+1) t (λe=>h<|by simp[e])
theorem Zr7:∀(ms:List Nat) (i t:Nat),t∈ms->∃j,idx t ms i=some (i+j)/\ms[j]?=some t
 | [],_,_,h=>by cases h
 | m::ms,i,t,h=>by
  unfold idx;cases hb:Nat.beq t m with
  | true=>exact ⟨0,rfl,by rw[Nat.eq_of_beq_eq_true hb];rfl⟩
  | false=>
   have h':t∈ms:=by
    cases h with
    | head=>simp at hb
    | tail _ h=>exact h
   obtain ⟨j,h1,h2⟩:=Zr7 ms (i+1) t h';refine ⟨j+1,?_,by simpa using h2⟩;simp only[h1];congr 1;omega
theorem Zkt (ms:List Nat) (vs:List Value) (ρ:Ev) (t:Nat) (h:t∉ms):ρ.over ms vs t=ρ t:=by
 simp only[Ev.over,ZrO ms 0 t h]
theorem ZwD (ms:List Nat) (ρ ρ':Ev) (t:Nat) (h:t∈ms):ρ.over ms (ms.map ρ') t=ρ' t:=by
 obtain ⟨j,h1,h2⟩:=Zr7 ms 0 t h;simp only[Ev.over,h1,Nat.zero_add];simp[h2]
theorem Zrt {n m:Nat} (ms:List Nat) (h:ms=Zd4 n m) (vs:List Value) (ρ:Ev):Fr m ρ (ρ.over ms vs):=λt ht=>
 Zkt ms vs ρ t (λhm=>by rw[h,Zmy] at hm;rw[hm.2] at ht;cases ht)
theorem ZdN.over {n out W:Nat} {a:Act} {ρ ρ':Ev} (h:ZdN ds n out a ρ') (hW:∀t,W.testBit t=true->t<n) (hf:Fr W ρ ρ'):ZdN ds n out a (ρ.over (Zd4 n<|W &&&out)<|(Zd4 n<|W &&&out).map ρ'):=by
 refine ⟨h.1,h.2.1,λt ht=>?_⟩;by_cases hm:t∈Zd4 n (W &&&out)
 .rw[ZwD _ _ _ _ hm];exact h.2.2 t ht
 .rw[Zkt _ _ _ _ hm];cases hw:W.testBit t with
  | false=>rw[<-hf t hw];exact h.2.2 t ht
  | true=>exact absurd (Zmy.2 ⟨hW t hw,by simp[Nat.testBit_and,hw,ht]⟩) hm
theorem ZnG {l:List Oper} {o:Oper} (h:o∈l):∀t,(Zro o.dst).testBit t=true->(ZpT l).testBit t=true:=by
 intro t ht;induction l with
 | nil=>cases h
 | cons x l ih=>
  simp only[ZpT,List.foldr_cons,Nat.testBit_or,Bool.or_eq_true];cases h with
  | head=>exact .inl ht
  | tail _ h=>exact .inr (ih h)
theorem Zn2 {n:Nat}:∀{l:List Oper},l.all (λo=>okD n o.dst)=true->∀t,(ZpT l).testBit t=true->t<n
 | [],_,t,h=>by simp[ZpT] at h
 | o::l,hs,t,h=>by
  simp only[List.all_cons,Bool.and_eq_true] at hs;simp only[ZpT,List.foldr_cons,Nat.testBit_or,Bool.or_eq_true] at h;rcases h with h | h
  .cases hd:o.dst with
   | none=>rw[hd] at h;simp[Zro] at h
   | some d=>
    rw[hd] at h;simp only[Zro,Zlw,decide_eq_true_eq] at h;subst h;exact Zlj hs.1 _ hd
  .exact Zn2 hs.2 t h
theorem Zoa {P:Program} {nt rl:Nat}:∀(c:Code) (out:Nat) (ex:Nat->Nat),Zf6 P nt rl c out ex=true->∀t,(wr c).testBit t=true->t<nt
 | .region _ ops d,out,ex,h,t,ht=>by
  cases d with
  | false=>
   refine Zn2 (l:=ops.toList) ?_ t ht;simp only[Zf6,List.all_eq_true,Bool.and_eq_true] at h ⊢;exact λo ho=>(h o ho).2
  | true=>
   simp only[Zf6,Bool.and_eq_true] at h;exact Zn2 h.1.2 t ht
 | .seq a b,out,ex,h,t,ht=>by
  simp only[Zf6,Bool.and_eq_true] at h;simp only[wr,Nat.testBit_or,Bool.or_eq_true] at ht;rcases ht with ht | ht
  .exact Zoa a _ _ h.1 t ht
  .exact Zoa b _ _ h.2 t ht
 | .cond _ a b,out,ex,h,t,ht=>by
  simp only[Zf6,Bool.and_eq_true] at h;simp only[wr,Nat.testBit_or,Bool.or_eq_true] at ht;rcases ht with ht | ht
  .exact Zoa a _ _ h.1 t ht
  .exact Zoa b _ _ h.2 t ht
 | .block _ a,out,ex,h,t,ht=>Zoa a _ _ h t ht
 | .loop a,out,ex,h,t,ht=>by
  simp only[Zf6,Bool.and_eq_true] at h;exact Zoa a _ _ h.1 t ht
 | .skip,_,_,_,t,ht=>by simp[wr] at ht
 | .exit _,_,_,_,t,ht=>by simp[wr] at ht
 | .ret,_,_,_,t,ht=>by simp[wr] at ht
 | .label _,_,_,_,t,ht=>by simp[wr] at ht
 | .goto _,_,_,_,t,ht=>by simp[wr] at ht
 | .scope _,_,_,_,t,ht=>by simp[wr] at ht
 | .refuse _,_,_,_,t,ht=>by simp[wr] at ht
 | .rangeFunc ..,_,_,_,t,ht=>by simp[wr] at ht
def noP (Q:Exit->Act->World->Prop):Exit->Act->World->Prop
 | .panic _,_,_=>False
 | e,a,w=>Q e a w
theorem ZzR {Q:Exit->Act->World->Prop}:∀(e:Exit) (a:Act) (w:World),noP Q e a w->Q e a w:=λe a w h=>by
 cases e <;> first | exact h | exact (h:False).elim
theorem ZwU.start (ops:Array Oper):ZwU ops (Array.replicate ops.size false):=by
 intro k o hk hl;have hlt:k<ops.size:=(Array.getElem?_eq_some_iff.1 hk).1;simp[hlt] at hl
def ZaT:Code->Bool
 | .region _ _ d=>!d
 | .seq a b=>ZaT a&&ZaT b
 | .cond _ a b=>ZaT a&&ZaT b
 | .block _ a=>ZaT a
 | .loop a=>ZaT a
 | _=>true
theorem Zac {P:Program} {ro:Option Nat} {nt rl:Nat} (hm:P.follows .mixedOrders=true):∀(c:Code) (out:Nat) (ex:Nat->Nat) (K:KS) (ρ:Ev) (a:Act) (w:World) (Q:Exit->Act->World->Prop),
  (ro=none\/ZaT c=true)->Zf6 P nt rl c out ex=true->ZdN ds nt (lv rl c out ex) a ρ->
  (∀ρ' a' w',K.nrm ρ' w'->ZdN ds nt out a' ρ'->Fr (wr c) ρ ρ'->Q .normal a' w')->
  (∀id ρ' a' w',K.ext id ρ' w'->ZdN ds nt (ex id) a' ρ'->Fr (wr c) ρ ρ'->Q (.exit id) a' w')->
  (∀ρ' a' w',K.ret ρ' w'->ZdN ds nt rl a' ρ'->Q .ret a' w')->
  cw P nt rl c out ex K ρ w->c.wpIn (fen ro) 0 P Q a w
 | .skip,out,ex,K,ρ,a,w,Q,hd,_,ha,hn,_,_,h=>wpIn_skip (hn _ _ _ h ha<|Fr.refl _ _)
 | .exit id,out,ex,K,ρ,a,w,Q,hd,_,ha,_,hx,_,h=>wpIn_exit (hx _ _ _ _ h ha<|Fr.refl _ _)
 | .ret,out,ex,K,ρ,a,w,Q,hd,_,ha,_,_,hr,h=>wpIn_ret (hr _ _ _ h ha)
 | .region id ops false,out,ex,K,ρ,a,w,Q,hd,hok,ha,hn,_,_,h=>
  wpIn_region_list (ZkL (W:=ZpT ops.toList) (ρ0:=ρ) (λρ' a' w' h1 h2 h3=>hn _ _ _ h3 h1 h2) ops.toList a ρ w (λo ho=>ZnG ho) hok ha (Fr.refl _ _) h)
 | .region id ops true,out,ex,K,ρ,a,w,Q,hd,hok,ha,hn,_,_,h=>by
  simp only[Zf6,Bool.and_eq_true] at hok;obtain rfl:ro=none:=hd.resolve_right (by simp[ZaT]);refine Code.wpIn_mono ZzR<|wpIn_region_any hm<|Znd (qt:=ZcC P ops) (S:=ZCu ops []) _ _ _ _ ?_;exact Ztn (Q:=noP Q) (W:=ZpT ops.toList) (ρ0:=ρ) (λo ho=>ZnG<|by simpa using ho) hok.1.1 (λ_ _ _ h=>h) (λρ' a' w' h1 h2 h3=>hn _ _ _ h3 h1 h2) ops.size _ [] _ a ρ _ (ZwU.start ops) hok.2 ha (Fr.refl _ _) h
 | .seq x y,out,ex,K,ρ,a,w,Q,hd,hok,ha,hn,hx,hr,h=>by
  have hdx:ro=none\/ZaT x=true:=hd.imp (λh=>h) (λh=>by simp only[ZaT,Bool.and_eq_true] at h;exact h.1);have hdy:ro=none\/ZaT y=true:=hd.imp (λh=>h) (λh=>by simp only[ZaT,Bool.and_eq_true] at h;exact h.2);simp only[Zf6,Bool.and_eq_true] at hok;refine wpIn_seq<|Zac hm x _ ex _ ρ a w _ hdx hok.1 ha ?_ ?_ ?_ h
  .intro ρ1 a1 w1 h1 ha1 hf1;refine Zac hm y out ex K ρ1 a1 w1 Q hdy hok.2 ha1 ?_ ?_ hr h1
   .intro ρ2 a2 w2 h2 ha2 hf2;exact hn _ _ _ h2 ha2<|hf1.trans hf2
   .intro id ρ2 a2 w2 h2 ha2 hf2;exact hx _ _ _ _ h2 ha2<|hf1.trans hf2
  .intro id ρ1 a1 w1 h1 ha1 hf1;exact hx _ _ _ _ h1 ha1 (hf1.mono λt ht=>by simp[wr,ht])
  .exact hr
 | .cond c x y,out,ex,K,ρ,a,w,Q,hd,hok,ha,hn,hx,hr,h=>by
  have hdx:ro=none\/ZaT x=true:=hd.imp (λh=>h) (λh=>by simp only[ZaT,Bool.and_eq_true] at h;exact h.1);have hdy:ro=none\/ZaT y=true:=hd.imp (λh=>h) (λh=>by simp only[ZaT,Bool.and_eq_true] at h;exact h.2);have hwl:=Zoa (.cond c x y) out ex hok;simp only[Zf6,Bool.and_eq_true] at hok;have hax:ZdN ds nt (lv rl x out ex) a ρ:=ha.mono λt ht=>by simp[lv,ht]
  have hay:ZdN ds nt (lv rl y out ex) a ρ:=ha.mono λt ht=>by simp[lv,ht]
  have hc:a.eval c=ρ.opd c:=ha.opd (l:=[c]) (λt ht=>by
   simp only[Zra,List.foldr_cons,List.foldr_nil,Nat.or_zero] at ht;simp[lv,ht]) c (by simp)
  unfold cw at h;split at h
  .obtain ⟨b,hb,h1,h2⟩:=h;refine wpIn_cond_split (t:=b) (hc.trans hb) (λe=>?_)<|λe=>?_
   .exact Zac hm x out ex K ρ a w Q hdx hok.1 hax (λ_ _ _ k1 k2 k3=>hn _ _ _ k1 k2<|k3.mono λt ht=>by simp[wr,ht]) (λ_ _ _ _ k1 k2 k3=>hx _ _ _ _ k1 k2<|k3.mono λt ht=>by simp[wr,ht]) hr<|h1 e
   .exact Zac hm y out ex K ρ a w Q hdy hok.2 hay (λ_ _ _ k1 k2 k3=>hn _ _ _ k1 k2<|k3.mono λt ht=>by simp[wr,ht]) (λ_ _ _ _ k1 k2 k3=>hx _ _ _ _ k1 k2<|k3.mono λt ht=>by simp[wr,ht]) hr<|h2 e
  .obtain ⟨b,hb,h1,h2⟩:=h;have hn':∀ρ' a' w',K.nrm (ρ.over (Zd4 nt<|(wr x ||| wr y) &&&out)<|(Zd4 nt<|(wr x ||| wr y) &&&out).map ρ') w'->ZdN ds nt out a' ρ'->Fr (wr x ||| wr y) ρ ρ'->Q .normal a' w':=λρ' a' w' k1 k2 k3=>
    hn _ _ _ k1 (k2.over hwl k3) ((Zrt _ rfl _ _).mono λt ht=>by simp only[Nat.testBit_and,Bool.and_eq_true] at ht;exact ht.1)
   refine wpIn_cond_split (t:=b) (hc.trans hb) (λe=>?_)<|λe=>?_
   .refine Zac hm x out ex _ ρ a w Q hdx hok.1 hax ?_ ?_ ?_<|h1 e
    .exact λρ' a' w' k1 k2 k3=>hn' ρ' a' w' k1 k2 (k3.mono λt ht=>by simp[ht])
    .exact λ_ _ _ _ k1 k2 k3=>hx _ _ _ _ k1 k2 (k3.mono λt ht=>by simp[wr,ht])
    .exact hr
   .refine Zac hm y out ex _ ρ a w Q hdy hok.2 hay ?_ ?_ ?_<|h2 e
    .exact λρ' a' w' k1 k2 k3=>hn' ρ' a' w' k1 k2 (k3.mono λt ht=>by simp[ht])
    .exact λ_ _ _ _ k1 k2 k3=>hx _ _ _ _ k1 k2 (k3.mono λt ht=>by simp[wr,ht])
    .exact hr
 | .block id x,out,ex,K,ρ,a,w,Q,hd,hok,ha,hn,hx,hr,h=>by
  have hdx:ro=none\/ZaT x=true:=hd.imp (λh=>h) (λh=>by simpa only[ZaT] using h);have hwl:=Zoa (.block id x) out ex hok;unfold cw at h;split at h
  .refine wpIn_block ?_;refine Zac hm x out _ _ ρ a w _ hdx hok ha ?_ ?_ ?_ h
   .exact λ_ _ _ k1 k2 k3=>hn _ _ _ k1 k2 k3
   rotate_left
   .exact hr
   intro i ρ' a' w' k1 k2 k3;show Exit.inBlock id Q (.exit i) a' w';simp only[Exit.inBlock];cases hb:Nat.beq i id with
   | true=>
    rw[if_pos<|Nat.eq_of_beq_eq_true hb];simp only[hb] at k1 k2;exact hn _ _ _ k1 k2 k3
   | false=>
    rw[if_neg (λe=>by rw[e,Nat.beq_refl] at hb;cases hb)];simp only[hb] at k1 k2;exact hx _ _ _ _ k1 k2 k3
  .have hn':∀ρ' a' w',K.nrm (ρ.over (Zd4 nt<|wr x &&&out)<|(Zd4 nt<|wr x &&&out).map ρ') w'->ZdN ds nt out a' ρ'->Fr (wr x) ρ ρ'->Q .normal a' w':=λρ' a' w' k1 k2 k3=>
    hn _ _ _ k1 (k2.over hwl k3) ((Zrt _ rfl _ _).mono λt ht=>by simp only[Nat.testBit_and,Bool.and_eq_true] at ht;exact ht.1)
   refine wpIn_block ?_;refine Zac hm x out _ _ ρ a w _ hdx hok ha ?_ ?_ ?_ h
   .exact λρ' a' w' k1 k2 k3=>hn' ρ' a' w' k1 k2 k3
   rotate_left
   .exact hr
   intro i ρ' a' w' k1 k2 k3;show Exit.inBlock id Q (.exit i) a' w';simp only[Exit.inBlock];cases hb:Nat.beq i id with
   | true=>
    rw[if_pos<|Nat.eq_of_beq_eq_true hb];simp only[hb] at k1 k2;exact hn' _ _ _ k1 k2 k3
   | false=>
    rw[if_neg (λe=>by rw[e,Nat.beq_refl] at hb;cases hb)];simp only[hb] at k1 k2;exact hx _ _ _ _ k1 k2 k3
 | .loop x,out,ex,K,ρ,a,w,Q,hd,hok,ha,hn,hx,hr,h=>by
  have hdx:ro=none\/ZaT x=true:=hd.imp (λh=>h) (λh=>by simpa only[ZaT] using h);have hwl:=Zoa (.loop x) out ex hok;simp only[Zf6,Bool.and_eq_true] at hok;obtain ⟨I,μ,h0,hround⟩:=h;generalize hL:lv rl (.loop x) out ex=L at*;generalize hms:Zd4 nt (wr x &&&L)=ms at*;have hmem:∀t,t∈ms->L.testBit t=true:=λt ht=>by
   rw[<-hms,Zmy,Nat.testBit_and,Bool.and_eq_true] at ht;exact ht.2.2
  have hvs:∀{a':Act} {ρ':Ev},ZdN ds nt L a' ρ'->ms.map (λt=>a'.tmps.getD t undef)=ms.map ρ':=λh1=>
   List.map_congr_left λt ht=>h1.2.2 t<|hmem t ht
  refine wpIn_loop (λa' w'=>I (ms.map λt=>a'.tmps.getD t undef) w'/\ZdN ds nt L a' (ρ.over ms<|ms.map λt=>a'.tmps.getD t undef)) (λa' w'=>μ (ms.map λt=>a'.tmps.getD t undef) w') ?_ ?_
  .refine ⟨by rw[hvs ha];exact h0,?_⟩;rw[hvs ha];have:=ha.over (W:=wr x) (ρ:=ρ) hwl<|Fr.refl (wr x) ρ;rw[hms] at this;exact this
  .intro a1 w1 ⟨h1,ha1⟩;have hb:=hround (ms.map λt=>a1.tmps.getD t undef) w1 (by simp) h1;have hfo:Fr (wr x) ρ (ρ.over ms<|ms.map λt=>a1.tmps.getD t undef):=(Zrt ms hms.symm _ _).mono λt ht=>by simp only[Nat.testBit_and,Bool.and_eq_true] at ht;exact ht.1
   refine Zac hm x L ex _ _ a1 w1 _ hdx hok.1 (ha1.mono<|Zga hok.2) ?_ ?_ ?_ hb
   rotate_right
   .exact hr
   .intro ρ' a' w' ⟨k1,k1'⟩ k2 k3;have k4:Fr (wr x) ρ ρ':=(hfo.trans k3).mono λt ht=>by simpa using ht
    refine ⟨⟨by rw[hvs k2];exact k1,?_⟩,by rw[hvs k2];exact k1'⟩;rw[hvs k2];have:=k2.over (W:=wr x) hwl k4;rw[hms] at this;exact this
   .intro id ρ' a' w' k1 k2 k3;exact hx _ _ _ _ k1 k2 ((hfo.trans k3).mono λt ht=>by simpa [wr] using ht)
 | .label _,_,_,_,_,_,_,_,_,_,_,_,_,_,h=>(h:False).elim
 | .goto _,_,_,_,_,_,_,_,_,_,_,_,_,_,h=>(h:False).elim
 | .scope _,_,_,_,_,_,_,_,_,_,_,_,_,_,h=>(h:False).elim
 | .refuse _,_,_,_,_,_,_,_,_,_,_,_,_,_,h=>(h:False).elim
 | .rangeFunc ..,_,_,_,_,_,_,_,_,_,_,_,_,_,h=>(h:False).elim
def Ev.init (args:Array Value):Ev:=λt=>args.getD t undef
def ZBO (rs:List Nat) (ρ:Ev):Value:=
 match rs with
 | [t]=>ρ t
 | _=>.tuple (rs.map ρ).toArray
theorem Zia {P:Program} {fn:Func} {rs:List Nat} (hr:fn.results=(rs.map ResultVar.tmp).toArray) {nt m:Nat} {a:Act} {ρ:Ev} (ha:ZdN ds nt m a ρ) (hm:∀t∈rs,m.testBit t=true) (w:World) :
  (results fn a.tmps).run P w=.ok (ZBO rs ρ) w:=by
 have h1:∀(g:ResultVar->Sem Value),(∀t,g (.tmp t)=pure (a.tmps.getD t undef))->∀l:List Nat,(∀t∈l,m.testBit t=true)->((l.map ResultVar.tmp).mapM g).run P w=.ok (l.map ρ) w:=by
  intro g hg l;induction l with
  | nil=>intro _;simp
  | cons t l ih=>
   intro hl;simp only[List.map_cons,List.mapM_cons,Sem.run_bind,hg,Sem.run_pure,Result.andThen_ok,ih<|λu hu=>hl u (by simp[hu]),ha.2.2 t<|hl t (by simp)]
 unfold results;rw[hr,Array.mapM_eq_mapM_toList];simp only[Sem.run_bind,Sem.run_map];rw[h1 _ (λt=>rfl) rs hm];simp only[Result.andThen_ok,Sem.run_pure];congr 1;unfold ZBO
 match rs with
 | []=>rfl
 | [t]=>rfl
 | t::u::l=>simp
def Zgs (l:List Nat):Nat:=l.foldr (λt m=>2 ^ t ||| m) 0
theorem Zfs {l:List Nat} {t:Nat} (h:t∈l):(Zgs l).testBit t=true:=by
 induction l with
 | nil=>cases h
 | cons x l ih=>
  simp only[Zgs,List.foldr_cons,Nat.testBit_or,Bool.or_eq_true];cases h with
  | head=>left;simp
  | tail _ h=>right;exact ih h
def fnW (P:Program) (nt:Nat) (rs:List Nat) (c:Code) (args:Array Value) (w:World) (K:KV):Prop:=
 cw P nt (Zgs rs) c (Zgs rs) (λ_=>0) ⟨λρ w=>K (ZBO rs ρ) w,λ_ _ _=>False,λρ w=>K (ZBO rs ρ) w⟩ (Ev.init args) w
def ZGz (P:Program) (nt:Nat) (rs:List Nat) (c:Code):Bool:=Zf6 P nt (Zgs rs) c (Zgs rs)<|λ_=>0
theorem Zqr {P:Program} {f:FuncId} {fn:Func} {c:Code} {args:Array Value} {w:World} {K:KV} {nt:Nat} {rs:List Nat} (hm:P.follows .mixedOrders=true)
  (hf:P.funcs[f]?=some fn) (hb:fn.body=some c) (hn:fn.ntmps=nt) (hr:fn.results=(rs.map ResultVar.tmp).toArray) (hargs:args.size<=nt) (hok:ZGz P nt rs c=true)
  (h:fnW P nt rs c args w K):Zdi P f args w K:=by
 refine calls_of_wp hf hb<|wpIn_wide (n:=0).1<|Zac (ro:=none) hm c _ _ _ (Ev.init args) _ w _ (.inl rfl) hok ⟨by simp[hn];omega,rfl,λt _=>?_⟩ ?_ ?_ ?_ h
 .simp only[Ev.init,Array.getD_eq_getD_getElem?,Array.getElem?_append];split
  .rfl
  .rename_i hge;rw[Array.getElem?_eq_none (xs:=args) (by omega)];cases hx:(Array.replicate (fn.ntmps - args.size) undef)[t - args.size]? with
   | none=>rfl
   | some v=>
    simp only[Array.getElem?_replicate] at hx;split at hx
    .cases hx;rfl
    .cases hx
 .intro ρ' a' w' k1 k2 _;exact ⟨k2.2.1,_,Zia hr k2 (λt ht=>Zfs ht) w',_,rfl,k1⟩
 .intro id ρ' a' w' k1;exact k1.elim
 .intro ρ' a' w' k1 k2;exact ⟨k2.2.1,_,Zia hr k2 (λt ht=>Zfs ht) w',_,rfl,k1⟩
theorem Zc {P:Program} {f:FuncId} {fn:Func} {args:Array Value} {w:World} {K:KV} {nt:Nat} {rs:List Nat} {F:Prop} (hm:P.follows .mixedOrders=true)
  (hf:P.funcs[f]?=some fn) (hs:(match fn.body with | some _=>true | none=>false)=true) (hn:fn.ntmps=nt) (hr:fn.results=(rs.map ResultVar.tmp).toArray) (hargs:args.size<=nt)
  (hok:ZGz P nt rs (match fn.body with | some c=>c | none=>.skip)=true) (he:F=fnW P nt rs (match fn.body with | some c=>c | none=>.skip) args w K) (h:F):Zdi P f args w K:=by
 cases hb:fn.body with
 | none=>rw[hb] at hs;cases hs
 | some c=>
  rw[hb] at hok he;exact Zqr hm hf hb hn hr hargs hok<|he▸h
abbrev Zbc:=List Value->World->Prop
def J0 (rest:World->Prop) (body:(World->Prop)->Prop):Prop:=body rest
def b0 (f:World->Zbc->Prop):List Value->World->Zbc->Prop:=λ_ w g=>f w g
theorem J0.cut {rest:World->Prop} {body:(World->Prop)->Prop} (A:World->Prop) (h2:∀k,(∀w,A w->k w)->body k) (h1:∀w,A w->rest w):J0 rest body:=h2 rest h1
theorem lp0 {w:World} {f:World->Zbc->Prop} (I:World->Prop) (μ:World->Nat) (h0:I w)
  (hr:∀w (g:Zbc),I w->(∀w',I w'->μ w'<μ w->g [] w')->f w g):lp [] w (b0 f):=by
 refine ⟨λvs w=>vs=[]/\I w,λ_ w=>μ w,⟨rfl,h0⟩,?_⟩;rintro vs w _ ⟨rfl,hI⟩;exact hr w _ hI λw' k1 k2=>⟨⟨rfl,k1⟩,k2⟩
def J1 (rest:Value->World->Prop) (body:(Value->World->Prop)->Prop):Prop:=body rest
def b1 (f:Value->World->Zbc->Prop):List Value->World->Zbc->Prop:=λvs w g=>f (vs.getD 0 undef) w g
theorem J1.cut {rest:Value->World->Prop} {body:(Value->World->Prop)->Prop} (A:Value->World->Prop) (h2:∀k,(∀x0 w,A x0 w->k x0 w)->body k) (h1:∀x0 w,A x0 w->rest x0 w):J1 rest body:=h2 rest h1
theorem lp1 {x0:Value} {w:World} {f:Value->World->Zbc->Prop} (I:Value->World->Prop) (μ:Value->World->Nat) (h0:I x0 w)
  (hr:∀x0 w (g:Zbc),I x0 w->(∀x0' w',I x0' w'->μ x0' w'<μ x0 w->g [x0'] w')->f x0 w g):lp [x0] w (b1 f):=by
 refine ⟨λvs w=>∃x0,vs=[x0]/\I x0 w,λvs w=>μ (vs.getD 0 undef) w,⟨x0,rfl,h0⟩,?_⟩;rintro vs w _ ⟨x0,rfl,hI⟩;exact hr x0 w _ hI λx0' w' k1 k2=>⟨⟨x0',rfl,k1⟩,k2⟩
def J2 (rest:Value->Value->World->Prop) (body:(Value->Value->World->Prop)->Prop):Prop:=body rest
def b2 (f:Value->Value->World->Zbc->Prop):List Value->World->Zbc->Prop:=λvs w g=>f (vs.getD 0 undef) (vs.getD 1 undef) w g
theorem J2.cut {rest:Value->Value->World->Prop} {body:(Value->Value->World->Prop)->Prop} (A:Value->Value->World->Prop) (h2:∀k,(∀x0 x1 w,A x0 x1 w->k x0 x1 w)->body k) (h1:∀x0 x1 w,A x0 x1 w->rest x0 x1 w):J2 rest body:=h2 rest h1
theorem lp2 {x0 x1:Value} {w:World} {f:Value->Value->World->Zbc->Prop} (I:Value->Value->World->Prop) (μ:Value->Value->World->Nat) (h0:I x0 x1 w)
  (hr:∀x0 x1 w (g:Zbc),I x0 x1 w->(∀x0' x1' w',I x0' x1' w'->μ x0' x1' w'<μ x0 x1 w->g [x0',x1'] w')->f x0 x1 w g):lp [x0,x1] w (b2 f):=by
 refine ⟨λvs w=>∃x0 x1,vs=[x0,x1]/\I x0 x1 w,λvs w=>μ (vs.getD 0 undef) (vs.getD 1 undef) w,⟨x0,x1,rfl,h0⟩,?_⟩;rintro vs w _ ⟨x0,x1,rfl,hI⟩;exact hr x0 x1 w _ hI λx0' x1' w' k1 k2=>⟨⟨x0',x1',rfl,k1⟩,k2⟩
def J3 (rest:Value->Value->Value->World->Prop) (body:(Value->Value->Value->World->Prop)->Prop):Prop:=body rest
def b3 (f:Value->Value->Value->World->Zbc->Prop):List Value->World->Zbc->Prop:=λvs w g=>f (vs.getD 0 undef) (vs.getD 1 undef) (vs.getD 2 undef) w g
theorem J3.cut {rest:Value->Value->Value->World->Prop} {body:(Value->Value->Value->World->Prop)->Prop} (A:Value->Value->Value->World->Prop) (h2:∀k,(∀x0 x1 x2 w,A x0 x1 x2 w->k x0 x1 x2 w)->body k) (h1:∀x0 x1 x2 w,A x0 x1 x2 w->rest x0 x1 x2 w):J3 rest body:=h2 rest h1
theorem lp3 {x0 x1 x2:Value} {w:World} {f:Value->Value->Value->World->Zbc->Prop} (I:Value->Value->Value->World->Prop) (μ:Value->Value->Value->World->Nat) (h0:I x0 x1 x2 w)
  (hr:∀x0 x1 x2 w (g:Zbc),I x0 x1 x2 w->(∀x0' x1' x2' w',I x0' x1' x2' w'->μ x0' x1' x2' w'<μ x0 x1 x2 w->g [x0',x1',x2'] w')->f x0 x1 x2 w g):lp [x0,x1,x2] w (b3 f):=by
 refine ⟨λvs w=>∃x0 x1 x2,vs=[x0,x1,x2]/\I x0 x1 x2 w,λvs w=>μ (vs.getD 0 undef) (vs.getD 1 undef) (vs.getD 2 undef) w,⟨x0,x1,x2,rfl,h0⟩,?_⟩;rintro vs w _ ⟨x0,x1,x2,rfl,hI⟩;exact hr x0 x1 x2 w _ hI λx0' x1' x2' w' k1 k2=>⟨⟨x0',x1',x2',rfl,k1⟩,k2⟩
def J4 (rest:Value->Value->Value->Value->World->Prop) (body:(Value->Value->Value->Value->World->Prop)->Prop):Prop:=body rest
def b4 (f:Value->Value->Value->Value->World->Zbc->Prop):List Value->World->Zbc->Prop:=λvs w g=>f (vs.getD 0 undef) (vs.getD 1 undef) (vs.getD 2 undef) (vs.getD 3 undef) w g
theorem J4.cut {rest:Value->Value->Value->Value->World->Prop} {body:(Value->Value->Value->Value->World->Prop)->Prop} (A:Value->Value->Value->Value->World->Prop) (h2:∀k,(∀x0 x1 x2 x3 w,A x0 x1 x2 x3 w->k x0 x1 x2 x3 w)->body k) (h1:∀x0 x1 x2 x3 w,A x0 x1 x2 x3 w->rest x0 x1 x2 x3 w):J4 rest body:=h2 rest h1
def J5 (rest:Value->Value->Value->Value->Value->World->Prop) (body:(Value->Value->Value->Value->Value->World->Prop)->Prop):Prop:=body rest
def b5 (f:Value->Value->Value->Value->Value->World->Zbc->Prop):List Value->World->Zbc->Prop:=λvs w g=>f (vs.getD 0 undef) (vs.getD 1 undef) (vs.getD 2 undef) (vs.getD 3 undef) (vs.getD 4 undef) w g
theorem J5.cut {rest:Value->Value->Value->Value->Value->World->Prop} {body:(Value->Value->Value->Value->Value->World->Prop)->Prop} (A:Value->Value->Value->Value->Value->World->Prop) (h2:∀k,(∀x0 x1 x2 x3 x4 w,A x0 x1 x2 x3 x4 w->k x0 x1 x2 x3 x4 w)->body k) (h1:∀x0 x1 x2 x3 x4 w,A x0 x1 x2 x3 x4 w->rest x0 x1 x2 x3 x4 w):J5 rest body:=h2 rest h1
def J6 (rest:Value->Value->Value->Value->Value->Value->World->Prop) (body:(Value->Value->Value->Value->Value->Value->World->Prop)->Prop):Prop:=body rest
def b6 (f:Value->Value->Value->Value->Value->Value->World->Zbc->Prop):List Value->World->Zbc->Prop:=λvs w g=>f (vs.getD 0 undef) (vs.getD 1 undef) (vs.getD 2 undef) (vs.getD 3 undef) (vs.getD 4 undef) (vs.getD 5 undef) w g
theorem J6.cut {rest:Value->Value->Value->Value->Value->Value->World->Prop} {body:(Value->Value->Value->Value->Value->Value->World->Prop)->Prop} (A:Value->Value->Value->Value->Value->Value->World->Prop) (h2:∀k,(∀x0 x1 x2 x3 x4 x5 w,A x0 x1 x2 x3 x4 x5 w->k x0 x1 x2 x3 x4 x5 w)->body k) (h1:∀x0 x1 x2 x3 x4 x5 w,A x0 x1 x2 x3 x4 x5 w->rest x0 x1 x2 x3 x4 x5 w):J6 rest body:=h2 rest h1
def J7 (rest:Value->Value->Value->Value->Value->Value->Value->World->Prop) (body:(Value->Value->Value->Value->Value->Value->Value->World->Prop)->Prop):Prop:=body rest
def b7 (f:Value->Value->Value->Value->Value->Value->Value->World->Zbc->Prop):List Value->World->Zbc->Prop:=λvs w g=>f (vs.getD 0 undef) (vs.getD 1 undef) (vs.getD 2 undef) (vs.getD 3 undef) (vs.getD 4 undef) (vs.getD 5 undef) (vs.getD 6 undef) w g
theorem J7.cut {rest:Value->Value->Value->Value->Value->Value->Value->World->Prop} {body:(Value->Value->Value->Value->Value->Value->Value->World->Prop)->Prop} (A:Value->Value->Value->Value->Value->Value->Value->World->Prop) (h2:∀k,(∀x0 x1 x2 x3 x4 x5 x6 w,A x0 x1 x2 x3 x4 x5 x6 w->k x0 x1 x2 x3 x4 x5 x6 w)->body k) (h1:∀x0 x1 x2 x3 x4 x5 x6 w,A x0 x1 x2 x3 x4 x5 x6 w->rest x0 x1 x2 x3 x4 x5 x6 w):J7 rest body:=h2 rest h1
def J8 (rest:Value->Value->Value->Value->Value->Value->Value->Value->World->Prop) (body:(Value->Value->Value->Value->Value->Value->Value->Value->World->Prop)->Prop):Prop:=body rest
def b8 (f:Value->Value->Value->Value->Value->Value->Value->Value->World->Zbc->Prop):List Value->World->Zbc->Prop:=λvs w g=>f (vs.getD 0 undef) (vs.getD 1 undef) (vs.getD 2 undef) (vs.getD 3 undef) (vs.getD 4 undef) (vs.getD 5 undef) (vs.getD 6 undef) (vs.getD 7 undef) w g
theorem J8.cut {rest:Value->Value->Value->Value->Value->Value->Value->Value->World->Prop} {body:(Value->Value->Value->Value->Value->Value->Value->Value->World->Prop)->Prop} (A:Value->Value->Value->Value->Value->Value->Value->Value->World->Prop) (h2:∀k,(∀x0 x1 x2 x3 x4 x5 x6 x7 w,A x0 x1 x2 x3 x4 x5 x6 x7 w->k x0 x1 x2 x3 x4 x5 x6 x7 w)->body k) (h1:∀x0 x1 x2 x3 x4 x5 x6 x7 w,A x0 x1 x2 x3 x4 x5 x6 x7 w->rest x0 x1 x2 x3 x4 x5 x6 x7 w):J8 rest body:=h2 rest h1
def J9 (rest:Value->Value->Value->Value->Value->Value->Value->Value->Value->World->Prop) (body:(Value->Value->Value->Value->Value->Value->Value->Value->Value->World->Prop)->Prop):Prop:=body rest
def b9 (f:Value->Value->Value->Value->Value->Value->Value->Value->Value->World->Zbc->Prop):List Value->World->Zbc->Prop:=λvs w g=>f (vs.getD 0 undef) (vs.getD 1 undef) (vs.getD 2 undef) (vs.getD 3 undef) (vs.getD 4 undef) (vs.getD 5 undef) (vs.getD 6 undef) (vs.getD 7 undef) (vs.getD 8 undef) w g
theorem J9.cut {rest:Value->Value->Value->Value->Value->Value->Value->Value->Value->World->Prop} {body:(Value->Value->Value->Value->Value->Value->Value->Value->Value->World->Prop)->Prop} (A:Value->Value->Value->Value->Value->Value->Value->Value->Value->World->Prop) (h2:∀k,(∀x0 x1 x2 x3 x4 x5 x6 x7 x8 w,A x0 x1 x2 x3 x4 x5 x6 x7 x8 w->k x0 x1 x2 x3 x4 x5 x6 x7 x8 w)->body k) (h1:∀x0 x1 x2 x3 x4 x5 x6 x7 x8 w,A x0 x1 x2 x3 x4 x5 x6 x7 x8 w->rest x0 x1 x2 x3 x4 x5 x6 x7 x8 w):J9 rest body:=h2 rest h1
def J10 (rest:Value->Value->Value->Value->Value->Value->Value->Value->Value->Value->World->Prop) (body:(Value->Value->Value->Value->Value->Value->Value->Value->Value->Value->World->Prop)->Prop):Prop:=body rest
def b10 (f:Value->Value->Value->Value->Value->Value->Value->Value->Value->Value->World->Zbc->Prop):List Value->World->Zbc->Prop:=λvs w g=>f (vs.getD 0 undef) (vs.getD 1 undef) (vs.getD 2 undef) (vs.getD 3 undef) (vs.getD 4 undef) (vs.getD 5 undef) (vs.getD 6 undef) (vs.getD 7 undef) (vs.getD 8 undef) (vs.getD 9 undef) w g
theorem J10.cut {rest:Value->Value->Value->Value->Value->Value->Value->Value->Value->Value->World->Prop} {body:(Value->Value->Value->Value->Value->Value->Value->Value->Value->Value->World->Prop)->Prop} (A:Value->Value->Value->Value->Value->Value->Value->Value->Value->Value->World->Prop) (h2:∀k,(∀x0 x1 x2 x3 x4 x5 x6 x7 x8 x9 w,A x0 x1 x2 x3 x4 x5 x6 x7 x8 x9 w->k x0 x1 x2 x3 x4 x5 x6 x7 x8 x9 w)->body k) (h1:∀x0 x1 x2 x3 x4 x5 x6 x7 x8 x9 w,A x0 x1 x2 x3 x4 x5 x6 x7 x8 x9 w->rest x0 x1 x2 x3 x4 x5 x6 x7 x8 x9 w):J10 rest body:=h2 rest h1
end Go.E
end
section
namespace Go.E
open Go.RowKit
abbrev Hp:=Nat->Option Obj
abbrev HP:=Hp->Prop
def hp (w:World):Hp:=λb=>w.heap[b]?
def Sub (h g:Hp):Prop:=∀b o,h b=some o->g b=some o
def Dis (h g:Hp):Prop:=∀b,h b=none\/g b=none
def ZcB:List HP->Hp->Prop
 | [],_=>True
 | P::l,h=>∃h1 h2,Dis h1 h2/\Sub h1 h/\Sub h2 h/\P h1/\ZcB l h2
theorem Sub.refl (h:Hp):Sub h h:=λ_ _ e=>e
theorem Sub.trans {a b c:Hp} (h:Sub a b) (k:Sub b c):Sub a c:=λx o e=>k x o<|h x o e
theorem Dis.symm {a b:Hp} (h:Dis a b):Dis b a:=λx=>(h x).symm
theorem Dis.sub {a b c:Hp} (h:Dis a b) (k:Sub c b):Dis a c:=λx=>by
 cases hc:c x with
 | none=>exact .inr rfl
 | some o=>
  rcases h x with h | h
  .exact .inl h
  .rw[k x o hc] at h;cases h
theorem ZcB.up {l:List HP} {h g:Hp} (hl:ZcB l h) (hs:Sub h g):ZcB l g:=by
 cases l with
 | nil=>trivial
 | cons P l=>
  obtain ⟨h1,h2,d,s1,s2,p,r⟩:=hl;exact ⟨h1,h2,d,s1.trans hs,s2.trans hs,p,r⟩
theorem ZcB.swap {P Q:HP} {l:List HP} {h:Hp} (hl:ZcB (P::Q::l) h):ZcB (Q::P::l) h:=by
 obtain ⟨h1,h2,d,s1,s2,p,g1,g2,d',t1,t2,q,r⟩:=hl;let u:Hp:=λb=>match h1 b with | some o=>some o | none=>g2 b
 have u1:Sub h1 u:=λb o e=>by simp only[u,e]
 have u2:Sub g2 u:=λb o e=>by
  rcases d b with k | k
  .simp only[u,k,e]
  .rw[t2 b o e] at k;cases k
 have uh:Sub u h:=λb o e=>by
  simp only[u] at e;cases hb:h1 b with
  | some o'=>rw[hb] at e;simp only at e;cases e;exact s1 b _ hb
  | none=>rw[hb] at e;exact s2 b o<|t2 b o e
 refine ⟨g1,u,λb=>?_,t1.trans s2,uh,q,h1,g2,d.sub t2,u1,u2,p,r⟩;cases hb:g1 b with
 | none=>exact .inl rfl
 | some o=>
  refine .inr ?_;simp only[u];rcases d b with k | k
  .rw[k];rcases d' b with k' | k'
   .rw[hb] at k';cases k'
   .exact k'
  .rw[t1 b o hb] at k;cases k
theorem ZcB.perm {l l':List HP} (hp:l.Perm l'):∀{h:Hp},ZcB l h->ZcB l' h:=by
 induction hp with
 | nil=>exact λh=>h
 | cons P _ ih=>
  intro h ⟨h1,h2,d,s1,s2,p,r⟩;exact ⟨h1,h2,d,s1,s2,p,ih r⟩
 | swap P Q l=>exact λh=>h.swap
 | trans _ _ ih1 ih2=>exact λh=>ih2<|ih1 h
theorem ZcB.head_imp {P Q:HP} {l:List HP} {h:Hp} (hl:ZcB (P::l) h) (hi:∀g,P g->Q g):ZcB (Q::l) h:=by
 obtain ⟨h1,h2,d,s1,s2,p,r⟩:=hl;exact ⟨h1,h2,d,s1,s2,hi _ p,r⟩
theorem ZcB.tail {P:HP} {l:List HP} {h:Hp} (hl:ZcB (P::l) h):ZcB l h:=by
 obtain ⟨h1,h2,d,s1,s2,p,r⟩:=hl;exact r.up s2
def Yh (l:List HP):HP:=λh=>ZcB l h
theorem ZcB.append {l:List HP}:∀{k:List HP} {h:Hp},ZcB (Yh k::l) h->ZcB (k++l) h
 | [],h,hl=>hl.tail
 | P::k,h,hl=>by
  obtain ⟨h1,h2,d,s1,s2,⟨g1,g2,d',t1,t2,p,r'⟩,r⟩:=hl;have:ZcB (P::Yh k::l) h:=by
   let u:Hp:=λb=>match g2 b with | some o=>some o | none=>h2 b
   have u1:Sub g2 u:=λb o e=>by simp only[u,e]
   have u2:Sub h2 u:=λb o e=>by
    cases hb:g2 b with
    | none=>simp only[u,hb,e]
    | some o'=>
     rcases d b with k | k
     .rw[t2 b o' hb] at k;cases k
     .rw[e] at k;cases k
   refine ⟨g1,u,λb=>?_,t1.trans s1,λb o e=>?_,p,g2,h2,?_,u1,u2,r',r⟩
   .cases hb:g1 b with
    | none=>exact .inl rfl
    | some o=>
     refine .inr ?_;simp only[u];rcases d' b with k | k
     .rw[hb] at k;cases k
     .rw[k];rcases d b with k' | k'
      .rw[t1 b o hb] at k';cases k'
      .exact k'
   .simp only[u] at e;cases hb:g2 b with
    | some o'=>rw[hb] at e;simp only at e;cases e;exact s1 b _ (t2 b _ hb)
    | none=>rw[hb] at e;exact s2 b o e
   .exact (d.symm.sub t2).symm
  obtain ⟨h1,h2,d,s1,s2,p,r⟩:=this;exact ⟨h1,h2,d,s1,s2,p,r.append⟩
theorem ZcB.group {l:List HP}:∀{k:List HP} {h:Hp},ZcB (k++l) h->ZcB (Yh k::l) h
 | [],h,hl=>⟨λ_=>none,h,λ_=>.inl rfl,λ_ _ e=>by (cases e),Sub.refl h,trivial,hl⟩
 | P::k,h,hl=>by
  obtain ⟨h1,h2,d,s1,s2,p,r⟩:=hl;obtain ⟨g1,g2,d',t1,t2,q,r'⟩:=r.group;let u:Hp:=λb=>match h1 b with | some o=>some o | none=>g1 b
  have u1:Sub h1 u:=λb o e=>by simp only[u,e]
  have u2:Sub g1 u:=λb o e=>by
   rcases d b with k | k
   .simp only[u,k,e]
   .rw[t1 b o e] at k;cases k
  refine ⟨u,g2,λb=>?_,λb o e=>?_,t2.trans s2,⟨h1,g1,d.sub t1,u1,u2,p,q⟩,r'⟩
  .cases hb:g2 b with
   | none=>exact .inr rfl
   | some o=>
    refine .inl ?_;simp only[u];rcases d b with k | k
    .rw[k];rcases d' b with k' | k'
     .exact k'
     .rw[hb] at k';cases k'
    .rw[t2 b o hb] at k;cases k
  .simp only[u] at e;cases hb:h1 b with
   | some o'=>rw[hb] at e;simp only at e;cases e;exact s1 b _ hb
   | none=>rw[hb] at e;exact s2 b o<|t1 b o e
structure Sat (e w:World) (l:List HP):Prop where
 os:w.os=e.os
 tape:w.tape=e.tape
 output:w.output=e.output
 drawn:e.drawn<=w.drawn
 size:e.heap.size<=w.heap.size
 mem:ZcB l<|hp w
section
variable {e w:World} {l l':List HP} {P Q:HP}
theorem Sat.of_mem (h:Sat e w l) (k:ZcB l (hp w)->ZcB l' (hp w)):Sat e w l':=⟨h.os,h.tape,h.output,h.drawn,h.size,k h.mem⟩
theorem Sat.perm (h:Sat e w l) (p:l.Perm l'):Sat e w l':=h.of_mem λm=>m.perm p
theorem Sat.swap (h:Sat e w<|P::Q::l):Sat e w (Q::P::l):=h.of_mem λm=>m.swap
theorem Sat.drop (h:Sat e w<|P::l):Sat e w l:=h.of_mem λm=>m.tail
theorem Sat.imp (h:Sat e w<|P::l) (k:∀g,P g->Q g):Sat e w (Q::l):=h.of_mem λm=>m.head_imp k
theorem ZfR:∀(l:List HP) (i:Nat) (P:HP),l[i]?=some P->l.Perm (P::l.eraseIdx i)
 | [],i,P,h=>by simp at h
 | Q::l,0,P,h=>by
  simp at h;subst h;exact List.Perm.refl _
 | Q::l,i+1,P,h=>by
  simp only[List.getElem?_cons_succ] at h;simp only[List.eraseIdx_cons_succ];exact ((ZfR l i P h).cons Q).trans<|List.Perm.swap _ _ _
theorem Sat.pick (h:Sat e w l) (i:Nat) (hi:l[i]?=some P):Sat e w (P::l.eraseIdx i):=h.perm<|ZfR l i P hi
theorem Zjm:∀(l:List HP) (i:Nat) (P Q:HP),l[i]?=some P->(Q::l.eraseIdx i).Perm (l.set i Q)
 | [],i,P,Q,h=>by simp at h
 | R::l,0,P,Q,h=>List.Perm.refl _
 | R::l,i+1,P,Q,h=>by
  simp only[List.getElem?_cons_succ] at h;simp only[List.eraseIdx_cons_succ,List.set_cons_succ];exact (List.Perm.swap _ _ _).trans<|(Zjm l i P Q h).cons R
theorem Sat.split (h:Sat e w<|Yh l'::l):Sat e w (l'++l):=h.of_mem λm=>m.append
theorem Sat.join (h:Sat e w<|l'++l):Sat e w (Yh l'::l):=h.of_mem λm=>m.group
theorem ZcB.parts:∀{l:List HP} {h:Hp},ZcB l h->∃hs:Nat->Hp,(∀i j,i≠j->Dis (hs i) (hs j))/\(∀i,Sub (hs i) h)/\∀(i:Nat) (P:HP),l[i]?=some P->P (hs i)
 | [],h,_=>⟨λ_ _=>none,λ_ _ _ _=>.inl rfl,λ_ _ _ e=>(by cases e),λi P e=>by simp at e⟩
 | P::l,h,⟨h1,h2,d,s1,s2,p,r⟩=>by
  obtain ⟨hs,k1,k2,k3⟩:=r.parts;refine ⟨λi=>match i with | 0=>h1 | i+1=>hs i,?_,?_,?_⟩
  .intro i j hij
   match i,j with
   | 0,0=>exact absurd rfl hij
   | 0,j+1=>exact d.sub (k2 j)
   | i+1,0=>exact (d.sub<|k2 i).symm
   | i+1,j+1=>exact k1 i j (λe=>hij<|by rw[e])
  .intro i
   match i with
   | 0=>exact s1
   | i+1=>exact (k2 i).trans s2
  .intro i Q hi
   match i with
   | 0=>simp at hi;subst hi;exact p
   | i+1=>exact k3 i Q hi
theorem ZcB.of_parts {hs:Nat->Hp} (hd:∀i j,i≠j->Dis (hs i) (hs j)):∀(is:List Nat) (l:List HP) (h:Hp),is.Nodup->(∀i∈is,Sub (hs i) h)->l.length=is.length->(∀(n i:Nat) (P:HP),is[n]?=some i->l[n]?=some P->P (hs i))->ZcB l h
 | [],[],_,_,_,_,_=>trivial
 | [],_::_,_,_,_,hl,_=>by simp at hl
 | _::_,[],_,_,_,hl,_=>by simp at hl
 | i::is,P::l,h,hn,hsub,hl,hp=>by
  have hn':=List.nodup_cons.1 hn;let u:Hp:=λb=>is.findSome? λj=>hs j b;have hu:∀j∈is,Sub (hs j) u:=by
   intro j hj b o e;simp only[u];cases hf:is.findSome? (λj=>hs j b) with
   | none=>rw[List.findSome?_eq_none_iff] at hf;rw[hf j hj] at e;cases e
   | some o'=>
    obtain ⟨j',hj',e'⟩:=List.exists_of_findSome?_eq_some hf;by_cases hjj:j=j'
    .subst hjj;rw[e] at e';exact e'.symm
    .rcases hd j j' hjj b with k | k
     .rw[k] at e;cases e
     .rw[k] at e';cases e'
  have huh:Sub u h:=by
   intro b o e;obtain ⟨j',hj',e'⟩:=List.exists_of_findSome?_eq_some e;exact hsub j' (by simp[hj']) b o e'
  refine ⟨hs i,u,λb=>?_,hsub i (by simp),huh,hp 0 i P rfl rfl,ZcB.of_parts hd is l u hn'.2 hu (by simpa using hl) λn j Q h1 h2=>hp (n+1) j Q (by simpa using h1)<|by simpa using h2⟩;cases hb:hs i b with
  | none=>exact .inl rfl
  | some o=>
   refine .inr ?_;simp only[u];rw[List.findSome?_eq_none_iff];intro j hj;have hij:i≠j:=λe=>hn'.1<|e▸hj;rcases hd i j hij b with k | k
   .rw[hb] at k;cases k
   .exact k
theorem Sat.sel (h:Sat e w l) (is:List Nat) (hn:is.Nodup) (hl:is.map (λi=>l[i]?)=l'.map some):Sat e w l':=h.of_mem λm=>by
 obtain ⟨hs,k1,k2,k3⟩:=m.parts;refine ZcB.of_parts k1 is l' _ hn (λi _=>k2 i) ?_ λn i P h1 h2=>?_
 .have:=congrArg List.length hl;simpa using this.symm
 .refine k3 i P ?_;have:=congrArg (λx=>x[n]?) hl;simp only[List.getElem?_map,h1,h2,Option.map_some,Option.some.injEq] at this;exact this
theorem Sat.selR {R:List HP} (a b:List HP) (h:Sat e w<|a++R) (is:List Nat) (hn:is.Nodup) (hl:is.map (λi=>a[i]?)=b.map some):Sat e w (b++R):=by
 have h1:Sat e w (Yh R::a):=Sat.join (l':=R)<|h.perm List.perm_append_comm;have h2:Sat e w (Yh R::b):=h1.sel (0::is.map (·+1)) (by
  rw[List.nodup_cons];refine ⟨by simp,?_⟩;exact List.Pairwise.map _ (λx y hxy e=>hxy<|by omega) hn) (by simp[<-hl,List.map_map,Function.comp_def])
 exact h2.split.perm List.perm_append_comm
theorem Sat.sn {L L2:List HP} (h:Sat e w L) (n:Nat) (is:List Nat) (hL:is.map (λi=>L.getD i<|λ_=>True)++L.drop n=L2:=by rfl) (hn:is.Nodup:=by decide) (hm:is.all (λi=>Nat.ble (i+1) n)=true:=by decide) (hk:Nat.ble n L.length=true:=by rfl):Sat e w L2:=by
 subst hL;have h1:Sat e w (L.take n++L.drop n):=by rw[List.take_append_drop];exact h
 refine Sat.selR _ _ h1 is hn ?_;rw[List.map_map];refine List.map_congr_left λi hi=>?_;have h2:=Nat.le_of_ble_eq_true<|List.all_eq_true.1 hm i hi;have h3:=Nat.le_of_ble_eq_true hk;rw[List.getElem?_take_of_lt (by omega)];show _=some (L.getD i _);rw[List.getD_eq_getElem?_getD,List.getElem?_eq_getElem (by omega)];rfl
def hex {α:Type} (f:α->HP):HP:=λh=>∃x,f x h
def pur (p:Prop):HP:=λ_=>p
theorem Sat.ex {α:Type} {f:α->HP} (h:Sat e w<|hex f::l):∃x,Sat e w (f x::l):=by
 obtain ⟨h1,h2,d,s1,s2,⟨x,p⟩,r⟩:=h.mem;exact ⟨x,h.of_mem λ_=>⟨h1,h2,d,s1,s2,p,r⟩⟩
theorem Sat.mk_ex {α:Type} {f:α->HP} (x:α) (h:Sat e w<|f x::l):Sat e w (hex f::l):=h.imp λ_ p=>⟨x,p⟩
theorem Sat.pure {p:Prop} (h:Sat e w<|pur p::l):p/\Sat e w l:=by
 obtain ⟨h1,h2,d,s1,s2,q,r⟩:=h.mem;exact ⟨q,h.drop⟩
theorem Sat.mk_pure {p:Prop} (hp:p) (h:Sat e w l):Sat e w (pur p::l):=
 h.of_mem λm=>⟨λ_=>none,Go.E.hp w,λ_=>.inl rfl,λ_ _ e=>by (cases e),Sub.refl _,hp,m⟩
end
end Go.E
end
section
namespace Go.E
open Go.RowKit
def ZsF (h:Hp) (a:Addr):Option Value:=
 match h a.block with
 | some (.cells c _ _)=>if a.spot.isSome then none else c[a.off]?
 | _=>none
theorem ZrR {h g:Hp} (s:Sub h g) {a:Addr} {v:Value} (e:ZsF h a=some v):ZsF g a=some v:=by
 unfold ZsF at*;cases hb:h a.block with
 | none=>rw[hb] at e;cases e
 | some o=>rw[s _ _ hb];rw[hb] at e;exact e
def ZbM (h:Hp) (a:Addr) (vs:List Value):Prop:=∀i v,vs[i]?=some v->ZsF h (a.add i)=some v
theorem ZbM.up {h g:Hp} (s:Sub h g) {a:Addr} {vs:List Value} (e:ZbM h a vs):ZbM g a vs:=λi v hv=>ZrR s<|e i v hv
theorem add_add (a:Addr) (i j:Nat):(a.add i).add j=a.add (i+j):=by
 unfold Addr.add;by_cases hi:i=0 <;> by_cases hj:j=0 <;> simp[hi,hj,Nat.add_assoc]
theorem ZbM.drop {h:Hp} {a:Addr} {vs:List Value} (e:ZbM h a vs) (n:Nat):ZbM h (a.add n) (vs.drop n):=λi v hv=>by
 rw[add_add];exact e (n+i) v (by rw[<-hv,List.getElem?_drop])
theorem ZbM.take {h:Hp} {a:Addr} {vs:List Value} (e:ZbM h a vs) (n:Nat):ZbM h a (vs.take n):=λi v hv=>by
 rw[List.getElem?_take] at hv;split at hv
 .exact e i v hv
 .cases hv
def blk (b:Nat) (t:TypeId) (cs:List Value):HP:=λh=>h b=some (.cells cs.toArray t (0,0))
theorem ZcZ {b:Nat} {t:TypeId} {cs:List Value} {h:Hp} (k:blk b t cs h) (off:Nat):ZbM h ⟨b,off,none⟩ (cs.drop off):=λi v hv=>by
 have e:((⟨b,off,none⟩:Addr).add i)=⟨b,off+i,none⟩:=by
  unfold Addr.add;split
  .rename_i h0;subst h0;rfl
  .rfl
 rw[e];have k':h b=some (.cells cs.toArray t (0,0)):=k;unfold ZsF;simp only[k'];simp only[Option.isSome_none,Bool.false_eq_true,if_false,List.getElem?_toArray];rw[<-hv,List.getElem?_drop]
section
variable {e w:World} {l:List HP} {S:HP} {K:KV}
theorem ZcB.get:∀{l:List HP} {h:Hp} {i:Nat},ZcB l h->l[i]?=some S->∃g,S g/\Sub g h
 | [],_,_,_,hi=>by simp at hi
 | P::l,h,0,⟨h1,h2,d,s1,s2,p,r⟩,hi=>by simp at hi;subst hi;exact ⟨h1,p,s1⟩
 | P::l,h,i+1,⟨h1,h2,d,s1,s2,p,r⟩,hi=>by
  obtain ⟨g,hg,hs⟩:=ZcB.get (i:=i) r hi;exact ⟨g,hg,hs.trans s2⟩
theorem Sat.get (hS:Sat e w l) (i:Nat) (hi:l[i]?=some S):∃g,S g/\Sub g (hp w):=hS.mem.get hi
theorem Sat.cells {a:Addr} {vs:List Value} (hS:Sat e w l) (i:Nat) (hi:l[i]?=some S) (hc:∀g,S g->ZbM g a vs):Zj1 w a vs:=by
 obtain ⟨g,hg,hs⟩:=hS.get i hi;exact (hc g hg).up hs
theorem Sat.heap {b:Nat} {t:TypeId} {cs:List Value} (hS:Sat e w l) (i:Nat) (hi:l[i]?=some (blk b t cs)):w.heap[b]?=some (.cells cs.toArray t (0,0)):=by
 obtain ⟨g,hg,hs⟩:=hS.get i hi;exact hs _ _ hg
theorem Yt {a:Addr} {vs:List Value} {v:Value} (hS:Sat e w l) (i:Nat) (hi:l[i]?=some S) (hc:∀g,S g->ZbM g a vs) (hv:vs[0]?=some v) (hk:K v w):ld1 (.pointer<|some a) w K:=
 ⟨a,v,rfl,by have:=hS.cells i hi hc 0 v hv;simpa [Addr.add] using this,hk⟩
theorem Ym {a:Addr} {vs:List Value} {n:Nat} (hS:Sat e w l) (i:Nat) (hi:l[i]?=some S) (hc:∀g,S g->ZbM g a vs) (hn:vs.length=n) (hk:K (.agg vs.toArray) w):ldN n (.pointer<|some a) w K:=
 ⟨a,vs,rfl,hn,hS.cells i hi hc,hk⟩
theorem Zn0 {a:Addr} {vs us:List Value} {n:Nat} (hS:Sat e w l) (i:Nat) (hi:l[i]?=some S) (hc:∀g,S g->ZbM g a vs) (he:vs.take n=us) (hn:us.length=n) (hk:K (.agg us.toArray) w):ldN n (.pointer<|some a) w K:=
 Ym hS i hi (λg hg=>he▸(hc g hg).take n) hn hk
theorem Zb {b off:Nat} {t:TypeId} {cs:List Value} {v:Value} (hS:Sat e w l) (i:Nat) (hi:l[i]?=some (blk b t cs)) (hv:cs[off]?=some v) (hk:K v w):ld1 (.pointer<|some ⟨b,off,none⟩) w K:=
 Yt hS i hi (λ_ k=>ZcZ k off) (by rw[List.getElem?_drop];exact hv) hk
theorem Zo {b off n:Nat} {t:TypeId} {cs vs:List Value} (hS:Sat e w l) (i:Nat) (hi:l[i]?=some (blk b t cs)) (hv:(cs.drop off).take n=vs) (hn:vs.length=n) (hk:K (.agg vs.toArray) w):ldN n (.pointer<|some ⟨b,off,none⟩) w K:=
 Ym hS i hi (λ_ k=>hv▸(ZcZ k off).take n) hn hk
theorem Za {b o off:Nat} (hk:K (.pointer<|some ⟨b,o+off,none⟩) w):fld off (.pointer<|some ⟨b,o,none⟩) w K:=by
 refine ⟨_,rfl,?_⟩;have e:((⟨b,o,none⟩:Addr).add off)=⟨b,o+off,none⟩:=by
  unfold Addr.add;split
  .rename_i h0;subst h0;rfl
  .rfl
 rw[e];exact hk
theorem Zbd {a:Addr} {off:Nat} {vs:List Value} (hc:∀g,S g->ZbM g a vs) (hk:∀a',(∀g,S g->ZbM g a' (vs.drop off))->K (.pointer<|some a') w):fld off (.pointer<|some a) w K:=
 ⟨a,rfl,hk _ λg hg=>(hc g hg).drop off⟩
theorem Sat.drew (hS:Sat e w l):Sat e w.drew l:=⟨hS.os,hS.tape,hS.output,Nat.le_succ_of_le hS.drawn,hS.size,hS.mem⟩
theorem ZaY {K:World->Prop} (hS:Sat e w l) (hk:∀w',Sat e w' l->K w'):dr w K:=hk _ hS.drew
theorem ZcB.alloc {h:Hp} {b:Nat} {o:Obj} (hl:ZcB l h) (hn:h b=none):ZcB ((λg=>g b=some o)::l) (λx=>if x=b then some o else h x):=
 ⟨λx=>if x=b then some o else none,h,λx=>by
  by_cases e:x=b
  .subst e;exact .inr hn
  .exact .inl (by simp[e]),λx o' k=>by
  by_cases e:x=b <;> simp_all,λx o' k=>by
  by_cases e:x=b
  .subst e;rw[hn] at k;cases k
  .simp[e,k],by simp,hl⟩
theorem Zwt (w:World) (o:Obj):hp (w.alloc o)=λx=>if x=w.heap.size then some o else hp w x:=by
 funext x;simp only[hp,World.alloc,Array.getElem?_push]
theorem Zzy (w:World):hp w w.heap.size=none:=by simp[hp]
theorem Sat.alloc (hS:Sat e w l) (o:Obj):Sat e (w.alloc o) ((λg=>g w.heap.size=some o)::l):=
 ⟨hS.os,hS.tape,hS.output,hS.drawn,by have:=hS.size;show e.heap.size<=(w.heap.push o).size;rw[Array.size_push];omega,by rw[Zwt];exact hS.mem.alloc<|Zzy w⟩
theorem Yp {cells:Array Value} {t:TypeId} {cs:List Value} (hS:Sat e w l) (hc:cells.toList=cs) (hk:∀b w',Sat e w' (blk b t cs::l)->K (pt b) w'):al cells t w K:=by
 subst hc;refine hk _ _ ?_;have:=hS.alloc (.cells cells t);exact this.imp λg hg=>by simpa [blk] using hg
theorem ZcB.upd {h:Hp} {b:Nat} {o o':Obj}:∀{l:List HP},ZcB ((λg=>g b=some o)::l) h->ZcB ((λg=>g b=some o')::l) (λx=>if x=b then some o' else h x):=by
 intro l ⟨h1,h2,d,s1,s2,p,r⟩;have hb:h2 b=none:=by
  rcases d b with k | k
  .rw[p] at k;cases k
  .exact k
 refine ⟨λx=>if x=b then some o' else none,h2,λx=>?_,λx u k=>?_,λx u k=>?_,by simp,r⟩
 .by_cases e:x=b
  .subst e;exact .inr hb
  .exact .inl (by simp[e])
 .by_cases e:x=b <;> simp_all
 .by_cases e:x=b
  .subst e;rw[hb] at k;cases k
  .simp only[if_neg e];exact s2 x u k
def World.setB (w:World) (b:Nat) (o:Obj):World:={ w with heap:=w.heap.setIfInBounds b o }
theorem ZqG (w:World) (b:Nat) (o:Obj) (h:b<w.heap.size):hp (World.setB w b o)=λx=>if x=b then some o else hp w x:=by
 funext x;simp only[hp,World.setB,Array.getElem?_setIfInBounds];by_cases e:x=b
 .subst e;simp[h]
 .rw[if_neg<|λk=>e k.symm,if_neg e]
theorem Sat.setB {b:Nat} {o o':Obj} (hS:Sat e w<|(λg=>g b=some o)::l):Sat e (World.setB w b o') ((λg=>g b=some o')::l):=by
 have hb:hp w b=some o:=by
  obtain ⟨g,hg,hs⟩:=hS.get 0 rfl;exact hs _ _ hg
 have hlt:b<w.heap.size:=(Array.getElem?_eq_some_iff.1 hb).1;exact ⟨hS.os,hS.tape,hS.output,hS.drawn,by simpa [World.setB] using hS.size,by rw[ZqG _ _ _ hlt];exact hS.mem.upd⟩
def wrL (cs:List Value) (k:Nat) (vs:List Value):List Value:=cs.take k++vs++cs.drop (k+vs.length)
theorem Zkk (cs:List Value) (k:Nat) (vs:List Value) (h:k+vs.length<=cs.length) (i:Nat):(wrL cs k vs)[i]?=if i<k then cs[i]? else if i<k+vs.length then vs[i - k]? else cs[i]?:=by
 simp only[wrL,List.getElem?_append,List.length_append,List.length_take,List.getElem?_take,List.getElem?_drop];have hm:min k cs.length=k:=by omega
 rw[hm];by_cases h1:i<k
 .simp[h1];omega
 .by_cases h2:i<k+vs.length
  .simp[h1,h2]
  .simp only[h1,h2,if_false];congr 1;omega
theorem ZnZ (cs:List Value) (k:Nat) (v:Value) (vs:List Value) (h:k+(v::vs).length<=cs.length):wrL (cs.set k v) (k+1) vs=wrL cs k (v::vs):=by
 apply List.ext_getElem?;intro i;simp only[List.length_cons] at h;rw[Zkk _ _ _ (by simp;omega),Zkk _ _ _ (by simp;omega)];simp only[List.length_cons,List.getElem?_set];by_cases h1:i<k
 .rw[if_pos (by omega),if_neg (by omega),if_pos h1]
 .by_cases h2:i=k
  .subst h2;rw[if_pos (by omega),if_pos rfl,if_pos (by omega),if_neg (by omega),if_pos (by omega)];simp
  .rw[if_neg (by omega),if_neg h1];by_cases h3:i<k+1+vs.length
   .rw[if_pos h3,if_pos (by omega),show i - k=(i - (k+1))+1 from by omega];simp
   .rw[if_neg h3,if_neg (by omega),if_neg (by omega)]
theorem ZmA {b:Nat} {t:TypeId}:∀(vs:List Value) (w:World) (off i:Nat) (cs:List Value),w.heap[b]?=some (.cells cs.toArray t (0,0))->off+i+vs.length<=cs.length->
  ZjP w ⟨b,off,none⟩ i vs=World.setB w b (.cells (wrL cs (off+i) vs).toArray t (0,0))
 | [],w,off,i,cs,h,_=>by
  have e:wrL cs (off+i) []=cs:=by simp[wrL]
  rw[e];simp only[ZjP,World.setB];rw[show w.heap.setIfInBounds b (.cells cs.toArray t (0,0))=w.heap from ?_];apply Array.ext_getElem?;intro x;rw[Array.getElem?_setIfInBounds];split
  .rename_i k;subst k;rw[h];split
   .rfl
   .rename_i k;exact absurd (Array.getElem?_eq_some_iff.1 h).1 k
  .rfl
 | v::vs,w,off,i,cs,h,hl=>by
  have ea:((⟨b,off,none⟩:Addr).add i)=⟨b,off+i,none⟩:=by
   unfold Addr.add;split
   .rename_i h0;subst h0;rfl
   .rfl
  simp only[ZjP,ea];have hlt:=(Array.getElem?_eq_some_iff.1 h).1;have e1:w.setCell ⟨b,off+i,none⟩ v=World.setB w b (.cells (cs.set (off+i) v).toArray t (0,0)):=by
   unfold World.setCell World.setB;congr 1;apply Array.ext_getElem?;intro x;rw[Array.getElem?_modify,Array.getElem?_setIfInBounds];split
   .rename_i k;subst k;rw[h];simp
   .rfl
  rw[e1,ZmA (t:=t) vs _ off (i+1) (cs.set (off+i) v) (by simp[World.setB,hlt]) (by simp at hl ⊢;omega)];rw[show off+(i+1)=off+i+1 from by omega,ZnZ cs (off+i) v vs (by omega)];simp only[World.setB,Array.setIfInBounds_setIfInBounds]
theorem Zq {b off n:Nat} {t:TypeId} {cs vs cs':List Value} {v:Value} (hS:Sat e w l) (i:Nat) (hi:l[i]?=some (blk b t cs)) (hv:v.cells.toList=vs) (hn:vs.length=n) (hb:off+n<=cs.length) (hf:∀c∈vs,flat c=true)
  (hc':wrL cs off vs=cs') (hk:∀w',Sat e w' (l.set i<|blk b t cs')->K undef w'):stN n (.pointer<|some ⟨b,off,none⟩) v w K:=by
 subst hv;subst hc';have hh:=hS.heap i hi;refine ⟨_,rfl,hn,hf,λj hj=>?_,?_⟩
 .have ea:((⟨b,off,none⟩:Addr).add j)=⟨b,off+j,none⟩:=by
   unfold Addr.add;split
   .rename_i h0;subst h0;rfl
   .rfl
  rw[ea];constructor
  .simp only[World.cell?,hh];simp;omega
  .simp[World.frozen?,hh]
 .have h1:=hS.pick i hi;have h2:Sat e (World.setB w b (.cells (wrL cs off v.cells.toList).toArray t (0,0))) (blk b t (wrL cs off v.cells.toList)::l.eraseIdx i):=h1.setB;have h3:=h2.perm<|Zjm l i _ _ hi;have e1:ZjP w ⟨b,off,none⟩ 0 v.cells.toList=World.setB w b (.cells (wrL cs off v.cells.toList).toArray t (0,0)):=ZmA _ w off 0 cs hh (by rw[hn];omega);rw[e1];exact hk _ h3
end
def Old (e:World):HP:=λh=>∀b,b<e.heap.size->h b=e.heap[b]?
theorem Sat.start (w:World):Sat w w [Old w]:=⟨rfl,rfl,rfl,Nat.le_refl _,Nat.le_refl _,hp w,λ_=>none,λ_=>.inr rfl,Sub.refl _,λ_ _ e=>(by cases e),λ_ _=>rfl,trivial⟩
theorem Sat.below {e w:World} {l:List HP} (h:Sat e w<|Old e::l):Below e.heap.size e w:=by
 obtain ⟨g,hg,hs⟩:=h.get 0 rfl;refine ⟨h.os,h.tape,h.output,h.size,λk hk=>?_⟩;have h1:=hg k hk;rw[Array.getElem?_eq_getElem hk] at h1 ⊢;exact hs _ _ h1
theorem Old.cells {e:World} {a:Addr} {vs:List Value} (ha:a.block<e.heap.size) (hc:Zj1 e a vs):∀g,Old e g->ZbM g a vs:=λg hg i v hv=>by
 have h1:=hc i v hv;have hb:(a.add i).block=a.block:=by unfold Addr.add;split <;> rfl
 unfold ZsF;rw[hg _ (by rw[hb];exact ha)];exact h1
section
variable {α:Type}
def Zz (t:TypeId) (size:Nat) (f:α->List Value) (v:Value) (l:List α):HP:=λh=>
 (v=Sn/\l=[])\/
 ∃(b c:Nat) (cs:List Value),v=.slice (some ⟨b,0,none⟩) l.length c/\h b=some (.cells cs.toArray t (0,0))/\cs.length=c*size/\l.length<=c/\cs.take (l.length*size)=l.flatMap f
def rdS (_size:Nat) (f:α->List Value) (v:Value) (l:List α):HP:=λh=>
 ∃A c,v=.slice A l.length c/\l.length<=c/\(0<l.length->∃a,A=some a/\ZbM h a (l.flatMap f))
theorem Zp {t:TypeId} {size:Nat} {f:α->List Value} {v:Value} {l:List α} {h:Hp} (k:Zz t size f v l h):rdS size f v l h:=by
 rcases k with ⟨rfl,rfl⟩ | ⟨b,c,cs,rfl,hb,hc,hn,hx⟩
 .exact ⟨none,0,rfl,Nat.le_refl _,λk=>absurd k<|by simp⟩
 .refine ⟨_,c,rfl,hn,λ_=>⟨_,rfl,?_⟩⟩;rw[<-hx];exact (ZcZ (cs:=cs) (t:=t) hb 0).take _
theorem Zy {f:α->List Value} {size:Nat} (hf:∀x,(f x).length=size) (l:List α):(l.flatMap f).length=l.length*size:=by
 induction l with
 | nil=>simp
 | cons x l ih=>simp[ih,hf,Nat.add_mul];omega
theorem ZjU {f:α->List Value} {size:Nat} (hf:∀x,(f x).length=size):∀(l:List α) (j:Nat) (x:α),l[j]?=some x->((l.flatMap f).drop<|j*size).take size=f x
 | [],j,x,h=>by simp at h
 | y::l,0,x,h=>by
  simp at h;subst h;simp[hf]
 | y::l,j+1,x,h=>by
  simp only[List.getElem?_cons_succ] at h;rw[List.flatMap_cons,show (j+1)*size=(f y).length+j*size from by rw[hf,Nat.add_mul];omega,<-List.drop_drop,List.drop_left];exact ZjU hf l j x h
variable {e w:World} {L:List HP} {S:HP} {K:KV} {size:Nat} {f:α->List Value} {v:Value} {l:List α}
theorem Sat.shape (hS:Sat e w L) (i:Nat) (hi:L[i]?=some S) (hr:∀g,S g->rdS size f v l g):∃A c,v=.slice A l.length c/\l.length<=c:=by
 obtain ⟨g,hg,_⟩:=hS.get i hi;obtain ⟨A,c,h1,h2,_⟩:=hr g hg;exact ⟨A,c,h1,h2⟩
theorem Zt (hS:Sat e w L) (i:Nat) (hi:L[i]?=some S) (hr:∀g,S g->rdS size f v l g) (hk:K (Iw (l.length:Int)) w):lnS v w K:=by
 obtain ⟨A,c,rfl,_⟩:=hS.shape i hi hr;exact ⟨_,_,_,rfl,hk⟩
theorem Qln {t:TypeId} (hS:Sat e w L) (i:Nat) (hi:L[i]?=some (Zz t size f v l)) (hk:K (Iw (l.length:Int)) w):lnS v w K:=Zt hS i hi (λ_=>Zp) hk
theorem Zw {k:IntKind} {j:Nat} {x:α} (hS:Sat e w L) (i:Nat) (hi:L[i]?=some S) (hr:∀g,S g->rdS size f v l g) (hf:∀x,(f x).length=size) (hx:l[j]?=some x)
  (hk:∀a,(∀g,S g->ZbM g a (f x))->K (.pointer<|some a) w):ixS size v (.int k (j:Int)) w K:=by
 obtain ⟨g,hg,_⟩:=hS.get i hi;obtain ⟨A,c,h1,h2,h3⟩:=hr g hg;have hj:j<l.length:=(List.getElem?_eq_some_iff.1 hx).1;obtain ⟨a,rfl,_⟩:=h3 (by omega);subst h1;refine ⟨a,_,_,k,(j:Int),rfl,rfl,by omega,by omega,hk _ λg' hg'=>?_⟩;obtain ⟨A',c',h1',h2',h3'⟩:=hr g' hg';injection h1' with e1 e2 e3;obtain ⟨a',e4,hc⟩:=h3' (by omega);rw[<-e1] at e4;cases e4;rw[<-ZjU hf l j x hx];exact ((hc.drop _).take _)
theorem Qix {t:TypeId} {k:IntKind} {j:Nat} {x:α} (hS:Sat e w L) (i:Nat) (hi:L[i]?=some (Zz t size f v l)) (hx:l[j]?=some x) (hk:∀a,(∀g,Zz t size f v l g->ZbM g a (f x))->K (.pointer<|some a) w) (hf:∀x,(f x).length=size:=by exact λ_=>rfl):ixS size v (.int k (j:Int)) w K:=Zw hS i hi (λ_=>Zp) hf hx hk
end
end Go.E
end
section
namespace Go.E
open Go.RowKit
structure TE (P:Program) (st t:TypeId) (size bytes:Nat):Prop where
 und:P.underlying st=some (.slice t)
 inf:∃i z,P.info? t=some i/\i.size=size/\i.bytes=bytes/\i.zero=some z/\z.cells.size=size
 pos:0<size/\0<bytes
section
variable {P:Program} {w:World}
theorem Zln {size n c:Nat} {a:Addr} {vs:List Value} (hn:vs.length=n*size) (hc:Zj1 w a vs):(Builtin.firstCells size n (.slice (some a) n c)).run P w=.ok vs.toArray w:=by
 simp only[Builtin.firstCells];rw[<-hn];exact ZoU hc
theorem ZmZ (z:Array Value) (n:Nat):(Builtin.zeroCells z n).size=n*z.size:=by simp[Builtin.zeroCells]
theorem Zl2 {st t xt ty:TypeId} {size bytes:Nat} (T:TE P st t size bytes) {t2:TypeId} (hx:P.underlying xt=some (.slice t2)) {b n c m c':Nat} {A:Option Addr} {new:List Value} (hroom:n+m<=c)
  (hsrc:(Builtin.firstCells size m (.slice A m c')).run P w=.ok new.toArray w) (hf:∀v∈new,flat v=true)
  (hset:∀j,j<new.length->(w.cell?<|(⟨b,n*size,none⟩:Addr).add j).isSome=true/\w.frozen? ((⟨b,n*size,none⟩:Addr).add j)=false) :
  (Builtin.append_ #[st,xt] ty #[.slice (some ⟨b,0,none⟩) n c,.slice A m c']).run P w=.ok (.slice (some ⟨b,0,none⟩) (n+m) c) (ZjP w ⟨b,n*size,none⟩ 0 new):=by
 obtain ⟨i,z,hi,h1,h2,h3,h4⟩:=T.inf;have ea:((⟨b,0,none⟩:Addr).add<|n*size)=⟨b,n*size,none⟩:=by
  unfold Addr.add;split
  .rename_i h0;rw[h0]
  .simp
 have hst:(storeCells ⟨b,n*size,none⟩ new).run P w=.ok () (ZjP w ⟨b,n*size,none⟩ 0 new):=
  ZdH new 0 w hf (λj _ h=>hset j<|by omega)
 unfold Builtin.append_;simp only[List.getElem?_toArray,List.getElem?_cons_zero,List.getElem?_cons_succ,Sem.run_bind,Yb T.und,Result.andThen_ok,Zcj hi,h1,Yb hx,Sem.run_pure,Builtin.lenOf,Bool.false_eq_true,if_false,hroom,if_true,Bool.not_false,hsrc,ea,hst]
theorem Zfv {st t xt ty:TypeId} {size bytes:Nat} (T:TE P st t size bytes) {t2:TypeId} (hx:P.underlying xt=some (.slice t2)) {n c m c':Nat} {A B:Option Addr} {old new:List Value} (hroom:¬n+m<=c) (hb:(n+m)*bytes<=140737488355328)
  (hold:∀w':World,w'.heap=w.heap->(Builtin.firstCells size n (.slice B n c)).run P w'=.ok old.toArray w') (hsrc:∀w':World,w'.heap=w.heap->(Builtin.firstCells size m (.slice A m c')).run P w'=.ok new.toArray w') :
  ∃cap rest,n+m<=cap/\rest.length=(cap - (n+m))*size/\(Builtin.append_ #[st,xt] ty #[.slice B n c,.slice A m c']).run P w=.ok (.slice (some ⟨w.heap.size,0,none⟩) (n+m) cap) (w.drew.alloc (.cells (old++new++rest).toArray t)):=by
 obtain ⟨i,z,hi,h1,h2,h3,h4⟩:=T.inf;have hn:n+m<=140737488355328:=by
  have:=T.pos.2;exact Nat.le_trans (Nat.le_mul_of_pos_right _ this) hb
 refine ⟨(Question.appendCap (n+m) c t).cut<|w.tape w.drawn (.appendCap (n+m) c t),(Builtin.zeroCells z.cells<|(Question.appendCap (n+m) c t).cut (w.tape w.drawn (.appendCap (n+m) c t)) - (n+m)).toList,by simp[Question.cut],by simp[ZmZ,h4],?_⟩;have g1:¬((n+m:Nat):Int) > IntKind.i64.max:=by
  simp only[IntKind.max,IntKind.signed,IntKind.bits];simp;omega
 have g2:¬Builtin.nextslicecap (n+m) c*bytes > 2 ^ 48:=by
  have:=growslice_fits (need:=n+m) (old:=c) (bytes:=bytes) (by omega) hb;omega
 have ho:=hold w.drew rfl;have hs:=hsrc w.drew rfl;have hask:∀(x:Nat) (w':World),(askRoom x).run P w'=.ok () w':=by
  intro x w';unfold askRoom;split <;> rfl
 unfold Builtin.append_;simp only[List.getElem?_toArray,List.getElem?_cons_zero,List.getElem?_cons_succ,Sem.run_bind,Yb T.und,Result.andThen_ok,Zcj hi,h1,Yb hx,Sem.run_pure,Builtin.lenOf,Bool.false_eq_true,if_false,hroom,Bool.not_false,ZnL hi,h2,g1,false_and,g2,if_true];simp only[choose,Sem.run,Question.forced,Bool.false_eq_true,if_false,Result.andThen_ok,hask];change ((Builtin.firstCells size n (.slice B n c)).run P w.drew).andThen _=_;rw[ho];simp only[Result.andThen_ok];change ((Builtin.firstCells size m (.slice A m c')).run P w.drew).andThen _=_;rw[hs];simp only[Result.andThen_ok,Zdn hi h3,newRow,newObj,Sem.run_bind,Sem.run,Sem.run_pure];congr 1;simp only[World.alloc,World.drew];congr 2;simp
end
section
variable {P:Program} {e w:World} {α:Type} {f:α->List Value} {size bytes:Nat} {R:List HP} {S:HP} {K:KV}
theorem Zcs {st t xt ty t2:TypeId} {s x:Value} {l m:List α} (T:TE P st t size bytes) (hx:P.underlying xt=some (.slice t2)) (hf:∀x,(f x).length=size) (hff:∀x∈m,∀v∈f x,flat v=true)
  (hS:Sat e w<|Zz t size f s l::S::R) (hr:∀g,S g->rdS size f x m g) (hb:(l.length+m.length)*bytes<=140737488355328)
  (hk:∀v' w',Sat e w' (Zz t size f v' (l++m)::S::R)->K v' w'):apS P #[st,xt] ty s x w K:=by
 obtain ⟨A,c',rfl,hmc⟩:=hS.shape 1 rfl hr;have hsrc:∀w':World,w'.heap=w.heap->(Builtin.firstCells size m.length (.slice A m.length c')).run P w'=.ok (m.flatMap f).toArray w':=by
  intro w' hw';have hhp:hp w=hp w':=by unfold hp;rw[hw']
  obtain ⟨g,hg,hs⟩:=hS.get 1 rfl;obtain ⟨A',c2,h1,h2,h3⟩:=hr g hg;injection h1 with e1 e2 e3;by_cases h0:0<m.length
  .obtain ⟨a,ha,hc⟩:=h3 h0;rw[<-e1] at ha;subst ha;exact Zln (Zy hf m)<|hc.up (by rw[<-hhp];exact hs:Sub g<|hp w')
  .obtain rfl:m=[]:=List.length_eq_zero_iff.1 (by omega);cases A with
   | none=>simp[Builtin.firstCells]
   | some a=>exact Zln (vs:=[]) (by simp) (λi v hv=>by simp at hv)
 obtain ⟨h1,h2,d,s1,s2,p,r⟩:=hS.mem;rcases p with ⟨rfl,rfl⟩ | ⟨b,c,cs,rfl,hbb,hcs,hlc,hx'⟩
 .-- the source is nil
  by_cases hm:m.length=0
  .obtain rfl:m=[]:=List.length_eq_zero_iff.1 hm;refine Yn (w':=w) (v:=Sn) ?_<|hk _ _ hS;obtain ⟨i,z,hi,h1,h2,h3,h4⟩:=T.inf;have hs0:=hsrc w rfl;simp only[List.flatMap_nil] at hs0;change (Builtin.firstCells size 0 (.slice A 0 c')).run P w=.ok #[] w at hs0;unfold Builtin.append_;simp only[List.getElem?_toArray,List.getElem?_cons_zero,List.getElem?_cons_succ,Sem.run_bind,Yb T.und,Result.andThen_ok,Zcj hi,h1,Yb hx,Sem.run_pure,Builtin.lenOf,Bool.false_eq_true,if_false,List.length_nil,Nat.add_zero,Nat.le_refl,if_true,Bool.not_false,hs0]
  .obtain ⟨cap,rest,g1,g2,g3⟩:=Zfv (P:=P) (w:=w) (ty:=ty) T hx (n:=0) (c:=0) (m:=m.length) (c':=c') (A:=A) (B:=none) (old:=[]) (new:=m.flatMap f) (by omega) hb
    (λw' _=>by simp[Builtin.firstCells]) hsrc
   refine Yn g3<|hk _ _ ?_;have h3:=hS.drop.drew.alloc (.cells ([]++m.flatMap f++rest).toArray t);refine h3.imp λg hg=>.inr ⟨w.heap.size,cap,m.flatMap f++rest,by simp,?_,?_,by simpa using g1,?_⟩
   .rw[List.nil_append] at hg;exact hg
   .rw[List.length_append,Zy hf,g2,<-Nat.add_mul];congr 1;omega
   .rw[List.nil_append,List.take_left'<|Zy hf m]
 .by_cases hroom:l.length+m.length<=c
  .have hh:w.heap[b]?=some (.cells cs.toArray t (0,0)):=s1 _ _ hbb;have hle:l.length*size+m.length*size<=cs.length:=by rw[hcs,<-Nat.add_mul];exact Nat.mul_le_mul_right _ hroom
   have hg:=Zl2 (P:=P) (w:=w) (ty:=ty) T hx (b:=b) (n:=l.length) (c:=c) (m:=m.length) (c':=c') (A:=A) (new:=m.flatMap f) hroom (hsrc w rfl) (λv hv=>by obtain ⟨x,hx,hv⟩:=List.mem_flatMap.1 hv;exact hff x hx v hv) (λj hj=>by
    rw[Zy hf] at hj;have ea:((⟨b,l.length*size,none⟩:Addr).add j)=⟨b,l.length*size+j,none⟩:=by
     unfold Addr.add;split
     .rename_i h0;subst h0;rfl
     .rfl
    rw[ea];constructor
    .simp only[World.cell?,hh];simp;omega
    .simp[World.frozen?,hh])
   refine Yn hg<|hk _ _ ?_;rw[ZmA _ w (l.length*size) 0 cs hh (by rw[Zy hf];omega)];have h0:Sat e w ((λg=>g b=some (.cells cs.toArray t (0,0)))::S::R):=⟨hS.os,hS.tape,hS.output,hS.drawn,hS.size,h1,h2,d,s1,s2,hbb,r⟩;refine h0.setB.imp λg hg=>.inr ⟨b,c,_,by simp,hg,?_,by simpa using hroom,?_⟩
   .simp only[wrL,List.length_append,List.length_take,List.length_drop,Zy hf,Nat.add_zero];omega
   .simp only[wrL,Nat.add_zero,hx',List.flatMap_append];rw[List.take_left' (by simp[Zy hf,Nat.add_mul])]
  .obtain ⟨cap,rest,g1,g2,g3⟩:=Zfv (P:=P) (w:=w) (ty:=ty) T hx (n:=l.length) (c:=c) (m:=m.length) (c':=c') (A:=A) (B:=some ⟨b,0,none⟩) (old:=l.flatMap f) (new:=m.flatMap f) hroom hb
    (λw' hw'=>by
     have hhp:hp w=hp w':=by unfold hp;rw[hw']
     refine Zln (Zy hf l) ?_;have:ZbM h1 ⟨b,0,none⟩ (l.flatMap f):=by rw[<-hx'];exact (ZcZ (cs:=cs) (t:=t) hbb 0).take _
     exact this.up (by rw[<-hhp];exact s1:Sub h1<|hp w')) hsrc
   refine Yn g3<|hk _ _ ?_;have h3:=hS.drop.drew.alloc (.cells (l.flatMap f++m.flatMap f++rest).toArray t);refine h3.imp λg hg=>.inr ⟨w.heap.size,cap,l.flatMap f++m.flatMap f++rest,by simp,hg,?_,by simpa using g1,?_⟩
   .rw[List.length_append,List.length_append,Zy hf,Zy hf,g2,<-Nat.add_mul,<-Nat.add_mul];congr 1;omega
   .rw[<-List.flatMap_append,List.take_left'<|Zy hf _]
theorem Zeo {st t xt ty t2:TypeId} {s x:Value} {l m:List α} (T:TE P st t size bytes) (hx:P.underlying xt=some (.slice t2)) (hf:∀x,(f x).length=size) (hff:∀x,∀v∈f x,flat v=true)
  (hS:Sat e w<|Zz t size f s l::S::R) (hr:∀g,S g->rdS size f x m g) (hb:(l.length+m.length)*bytes<=140737488355328)
  (hk:∀v' w',Sat e w' (Zz t size f v' (l++m)::S::R)->K v' w'):apS P #[st,xt] ty s x w K:=Zcs T hx hf (λx _=>hff x) hS hr hb hk
theorem Zv7 (vs:List Value):∀(k:Nat) (cs:Array Value),k+vs.length<=cs.size->((vs.zipIdx k).foldl (λ(cs:Array Value) (x:Value × Nat)=>cs.setIfInBounds x.2 x.1) cs).toList=wrL cs.toList k vs:=by
 induction vs with
 | nil=>intro k cs _;simp[wrL]
 | cons v vs ih=>
  intro k cs h;simp only[List.length_cons] at h;simp only[List.zipIdx_cons,List.foldl_cons];rw[ih (k+1) (cs.setIfInBounds k v) (by simp;omega)];rw[Array.toList_setIfInBounds,ZnZ _ _ _ _ (by simp;omega)]
theorem Zwp {size:Nat} {zero:Array Value} {v:Value} (hz:zero.size=size) (hv:v.cells.size=size) :
  Instr.fill (λi=>some (i*size,size)) zero [(0,v)]=some v.cells:=by
 simp only[Instr.fill,Nat.zero_mul,hv,hz,ne_eq,not_true_eq_false,decide_false,Nat.zero_add,Nat.lt_irrefl,gt_iff_lt,Bool.or_self,Bool.false_eq_true,if_false];congr 1;apply Array.ext';have h:=Zv7 v.cells.toList 0 zero (by simp[hv,hz]);have e:(Array.foldl (λ(cs:Array Value) (x:Value × Nat)=>cs.setIfInBounds x.2 x.1) zero v.cells.zipIdx)=(v.cells.toList.zipIdx 0).foldl (λ(cs:Array Value) (x:Value × Nat)=>cs.setIfInBounds x.2 x.1) zero:=by
  rw[<-Array.foldl_toList,Array.toList_zipIdx]
 rw[e,h];simp[wrL,hv,<-hz]
theorem ZwC {t:TypeId} {size:Nat} {zero:Array Value} {v:Value} {vs:List Value} {L:List HP} (hv:v.cells.toList=vs) (hn:vs.length=size) (hS:Sat e w L)
  (hk:∀b w',Sat e w' (blk b t vs::L)->K (.slice (some ⟨b,0,none⟩) 1 1) w'):bsl t size 1 zero [(0,v)] w K:=by
 subst hv;refine ⟨v.cells,?_,?_⟩
 .have:((Array.range (1*size)).map (zero[· % zero.size]!)).size=size:=by simp
  exact Zwp this hn
 .refine hk _ _ ?_;have:=hS.alloc (.cells v.cells t);exact this.imp λg hg=>by simpa [blk] using hg
theorem Zw3 {t:TypeId} {size:Nat} {L:List HP} (hS:Sat e w L) (f:α→List Value) (hk:∀v w',Sat e w' (Zz t size f v []::L)→K v w'):bsl t size 0 #[] [] w K:=by
 refine ⟨#[],by simp[Instr.fill],hk _ _ ?_⟩
 have:=hS.alloc (.cells #[] t)
 exact this.imp λg hg=>.inr ⟨_,0,[],rfl,by simpa using hg,by simp,Nat.le_refl _,by simp⟩
theorem Zfu {b:Nat} {t:TypeId} {x:α} {c:Nat} (hc:1<=c):∀g,blk b t (f x) g->rdS size f (.slice (some ⟨b,0,none⟩) 1 c) [x] g:=λg hg=>
 ⟨_,c,rfl,hc,λ_=>⟨_,rfl,by simpa using ZcZ hg 0⟩⟩
theorem Zj7 {st t ty:TypeId} {s v:Value} {l:List α} {x:α} {zero:Array Value} (T:TE P st t size bytes) (hf:∀x,(f x).length=size) (hff:∀x,∀v∈f x,flat v=true) 
  (hS:Sat e w<|Zz t size f s l::R) (hv:v.cells.toList=f x) (hb:(l.length+1)*bytes<=140737488355328)
  (hk:∀v' w',Sat e w' (Zz t size f v' (l++[x])::R)->K v' w'):bsl t size 1 zero [(0,v)] w λy w=>apS P #[st,st] ty s y w K:=by
 refine ZwC hv (hf x) hS λb w1 h1=>Zeo T T.und hf hff h1.swap (Zfu<|Nat.le_refl _) hb λv' w2 h2=>hk _ _ h2.swap.drop
end
section
variable {e w:World} {K:KV}
theorem Zaf {zero:Array Value} {places:Array<|Nat × Nat} {parts:List<|Nat × Value} (cs:List Value) (hf:Instr.fill (places[·]?) zero parts=some cs.toArray) (hk:K (.agg cs.toArray) w):bld zero places parts w K:=⟨_,hf,hk⟩
theorem Sat.own_nil {α:Type} {L:List HP} (t:TypeId) (size:Nat) (f:α->List Value) (h:Sat e w L):Sat e w (Zz t size f Sn []::L):=
 h.of_mem λm=>⟨λ_=>none,Go.E.hp w,λ_=>.inl rfl,λ_ _ e=>(by cases e),Sub.refl _,.inl ⟨rfl,rfl⟩,m⟩
theorem Sat.own_cells {α:Type} {L:List HP} {t:TypeId} {size:Nat} {f:α->List Value} {v:Value} {l:List α} (h:Sat e w L) (i:Nat) (hi:L[i]?=some (Zz t size f v l)):v.cells.toList=[v]/\flat v=true:=by
 obtain ⟨A,c,rfl,_⟩:=h.shape i hi<|λ_ hg=>Zp hg;exact ⟨rfl,rfl⟩
theorem Zpm {b off:Nat} {t:TypeId} {cs cs':List Value} {v:Value} {l:List HP} (hS:Sat e w l) (i:Nat) (hi:l[i]?=some (blk b t cs)) (hv:v.cells.toList=[v]/\flat v=true) (hb:off<cs.length)
  (hc':cs.set off v=cs') (hk:∀w',Sat e w' (l.set i<|blk b t cs')->K undef w'):stN 1 (.pointer<|some ⟨b,off,none⟩) v w K:=by
 refine Zq hS i hi hv.1 rfl (by omega) (λc hc=>by simp at hc;rw[hc];exact hv.2) ?_ hk;rw[<-hc',<-ZnZ cs off v [] (by simp;omega)];simp[wrL]
end
section
variable {e w:World} {K:KV}
theorem Zfk {t:TypeId} {size len:Nat} {zero:Array Value} {parts:List (Nat × Value)} {L:List HP} (cs:List Value) (hS:Sat e w L)
  (hf:Instr.fill (λi=>some (i*size,size)) ((Array.range (len*size)).map (zero[· % zero.size]!)) parts=some cs.toArray)
  (hk:∀b w',Sat e w' (blk b t cs::L)->K (.slice (some ⟨b,0,none⟩) len len) w'):bsl t size len zero parts w K:=by
 refine ⟨_,hf,hk _ _ ?_⟩;have:=hS.alloc (.cells cs.toArray t);exact this.imp λg hg=>hg
theorem Zbx {α:Type} {size:Nat} {f:α->List Value} {b:Nat} {t:TypeId} {cs:List Value} {c:Nat} (l:List α) (he:cs=l.flatMap f) (hc:l.length<=c):∀g,blk b t cs g->rdS size f (.slice (some ⟨b,0,none⟩) l.length c) l g:=λg hg=>
 ⟨_,c,rfl,hc,λ_=>⟨_,rfl,by subst he;simpa using ZcZ hg 0⟩⟩
end
end Go.E
end
section
namespace Go.E
open Go.RowKit
section
variable {w:World} {K:KV} {A B:Prop} {a b:Int} {k:IntKind}
theorem Zdl {n:Int} (h1:-9223372036854775808<=n) (h2:n<=9223372036854775807):IntKind.i64.wrap n=n:=by
 have e1:(2:Int) ^ 64=18446744073709551616:=by decide
 have e2:(2:Int) ^ 63=9223372036854775808:=by decide
 simp only[IntKind.wrap,IntKind.bits,IntKind.signed,Bool.true_and,decide_eq_true_eq,e1,show 64 - 1=63 from rfl,e2];split <;> omega
theorem Zi (h:A):Zr Bt A B:=⟨true,rfl,λ_=>h,(λe=>by cases e)⟩
theorem Zf (h:B):Zr Bf A B:=⟨false,rfl,(λe=>by cases e),λ_=>h⟩
theorem ZBL (q:Bool) (h1:q=true->A) (h2:q=false->B):Zr (.bool q) A B:=⟨q,rfl,h1,h2⟩
theorem Yv {x y:Value} (h:K x w):pk Bt x y w K:=⟨true,rfl,h⟩
theorem Yd {x y:Value} (h:K y w):pk Bf x y w K:=⟨false,rfl,h⟩
theorem Ze {body:KV->Prop} (h:body K):gd Bt true body w K:=⟨λ_=>h,(λe=>by cases e)⟩
theorem Zj {body:KV->Prop} (h:body K):gd Bf false body w K:=⟨λ_=>h,(λe=>by cases e)⟩
theorem Zd {body:KV->Prop} (h:K undef w):gd Bt false body w K:=⟨(λe=>by cases e),λ_=>h⟩
theorem Zu {body:KV->Prop} (h:K undef w):gd Bf true body w K:=⟨(λe=>by cases e),λ_=>h⟩
theorem ZaJ (h:K Bf w):Zb3 Bt w K:=⟨true,rfl,h⟩
theorem Zch (h:K Bt w):Zb3 Bf w K:=⟨false,rfl,h⟩
theorem Zh {x:Addr} {p:Prop} (h:p):ncP (.pointer<|some x) p:=⟨rfl,h⟩
theorem ZmP (x:Addr) (h:K Bf w):bn .eql (.pointer<|some x) w K:=⟨some x,rfl,h⟩
theorem Ztj (h:K Bt w):bn .eql Pn w K:=⟨none,rfl,h⟩
theorem ZtQ (x:Addr) (h:K Bt w):bn .neq (.pointer<|some x) w K:=⟨some x,rfl,h⟩
theorem ZtL (h:K Bf w):bn .neq Pn w K:=⟨none,rfl,h⟩
theorem Zid {i:Nat} {vs:Array Value} {v:Value} (hv:vs[i]?=some v) (h:K v w):xt i (.tuple vs) w K:=⟨vs,v,rfl,hv,h⟩
theorem Zqz {op:BinOp} (hd:Zwm op=false) (h:K (Zce op k a b) w):bi op k (.int k a) (.int k b) w K:=⟨a,b,rfl,rfl,(λe=>by rw[hd] at e;cases e),h⟩
theorem ZcD (h1:-9223372036854775808<=a+b) (h2:a+b<=9223372036854775807) (h:K (Iw<|a+b) w):bi .add .i64 (Iw a) (Iw b) w K:=Zqz rfl (by simp only[Zce,Zdl h1 h2];exact h)
theorem Qadds (h:K (Iw<|a+b) w) (h1:-9223372036854775808<=a+b:=by omega) (h2:a+b<=9223372036854775807:=by omega):bi .add .i64 (Iw a) (Iw b) w K:=ZcD h1 h2 h
theorem ZoJ (h1:-9223372036854775808<=a - b) (h2:a - b<=9223372036854775807) (h:K (Iw<|a - b) w):bi .sub .i64 (Iw a) (Iw b) w K:=Zqz rfl (by simp only[Zce,Zdl h1 h2];exact h)
theorem Qsubs (h:K (Iw<|a - b) w) (h1:-9223372036854775808<=a - b:=by omega) (h2:a - b<=9223372036854775807:=by omega):bi .sub .i64 (Iw a) (Iw b) w K:=ZoJ h1 h2 h
theorem ZGn (h1:-9223372036854775808<=a*b) (h2:a*b<=9223372036854775807) (h:K (Iw<|a*b) w):bi .mul .i64 (Iw a) (Iw b) w K:=Zqz rfl (by simp only[Zce,Zdl h1 h2];exact h)
theorem Zwn (hb:b≠0) (h:K (.int k<|a.tmod b) w):bi .rem k (.int k a) (.int k b) w K:=⟨a,b,rfl,rfl,λ_=>hb,h⟩
theorem Yr {j:Nat} (h2:(j:Int)<9223372036854775807) (h:K (Iw ((j+1:Nat):Int)) w):bi .add .i64 (Iw (j:Int)) (Iw 1) w K:=Qadds (by rw[show ((j:Int)+1)=((j+1:Nat):Int) from by omega];exact h)
theorem Qincs {j:Nat} (h:K (Iw ((j+1:Nat):Int)) w) (c:(j:Int)<9223372036854775807:=by omega):bi .add .i64 (Iw (j:Int)) (Iw 1) w K:=Yr c h
theorem Ztt (c:a<b) (h:K Bt w):bi .lss k (.int k a) (.int k b) w K:=Zqz rfl (by simp only[Zce,decide_eq_true c];exact h)
theorem Qltt (h:K Bt w) (c:a<b:=by omega):bi .lss k (.int k a) (.int k b) w K:=Ztt c h
theorem Ze7 (c:¬a<b) (h:K Bf w):bi .lss k (.int k a) (.int k b) w K:=Zqz rfl (by simp only[Zce,decide_eq_false c];exact h)
theorem Qltf (h:K Bf w) (c:¬a<b:=by omega):bi .lss k (.int k a) (.int k b) w K:=Ze7 c h
theorem Za7 (h1:a<b->K Bt w) (h2:¬a<b->K Bf w):bi .lss k (.int k a) (.int k b) w K:=by
 by_cases c:a<b
 .exact Ztt c<|h1 c
 .exact Ze7 c<|h2 c
theorem ZCA (c:a<=b) (h:K Bt w):bi .leq k (.int k a) (.int k b) w K:=Zqz rfl (by simp only[Zce,decide_eq_true c];exact h)
theorem ZCF (c:¬a<=b) (h:K Bf w):bi .leq k (.int k a) (.int k b) w K:=Zqz rfl (by simp only[Zce,decide_eq_false c];exact h)
theorem ZFH (h1:a<=b->K Bt w) (h2:¬a<=b->K Bf w):bi .leq k (.int k a) (.int k b) w K:=by
 by_cases c:a<=b
 .exact ZCA c<|h1 c
 .exact ZCF c<|h2 c
theorem ZtF (c:b<a) (h:K Bt w):bi .gtr k (.int k a) (.int k b) w K:=Zqz rfl (by simp only[Zce,decide_eq_true (show a > b from c)];exact h)
theorem Qgtt (h:K Bt w) (c:b<a:=by omega):bi .gtr k (.int k a) (.int k b) w K:=ZtF c h
theorem Zle (c:¬b<a) (h:K Bf w):bi .gtr k (.int k a) (.int k b) w K:=Zqz rfl (by simp only[Zce,decide_eq_false (show ¬a > b from c)];exact h)
theorem Qgtf (h:K Bf w) (c:¬b<a:=by omega):bi .gtr k (.int k a) (.int k b) w K:=Zle c h
theorem Ztu (h1:b<a->K Bt w) (h2:¬b<a->K Bf w):bi .gtr k (.int k a) (.int k b) w K:=by
 by_cases c:b<a
 .exact ZtF c<|h1 c
 .exact Zle c<|h2 c
theorem Zqv (c:b<=a) (h:K Bt w):bi .geq k (.int k a) (.int k b) w K:=Zqz rfl (by simp only[Zce,decide_eq_true (show a>=b from c)];exact h)
theorem Qget (h:K Bt w) (c:b<=a:=by omega):bi .geq k (.int k a) (.int k b) w K:=Zqv c h
theorem ZnR (c:¬b<=a) (h:K Bf w):bi .geq k (.int k a) (.int k b) w K:=Zqz rfl (by simp only[Zce,decide_eq_false (show ¬a>=b from c)];exact h)
theorem Qgef (h:K Bf w) (c:¬b<=a:=by omega):bi .geq k (.int k a) (.int k b) w K:=ZnR c h
theorem Zu5 (h1:b<=a->K Bt w) (h2:¬b<=a->K Bf w):bi .geq k (.int k a) (.int k b) w K:=by
 by_cases c:b<=a
 .exact Zqv c<|h1 c
 .exact ZnR c<|h2 c
theorem Znq (c:a=b) (h:K Bt w):bi .eql k (.int k a) (.int k b) w K:=Zqz rfl (by simp only[Zce,beq_iff_eq.2 c];exact h)
theorem Qeqt (h:K Bt w) (c:a=b:=by omega):bi .eql k (.int k a) (.int k b) w K:=Znq c h
theorem Zd8 (c:¬a=b) (h:K Bf w):bi .eql k (.int k a) (.int k b) w K:=Zqz rfl (by simp only[Zce,beq_eq_false_iff_ne.2 c];exact h)
theorem Qeqf (h:K Bf w) (c:¬a=b:=by omega):bi .eql k (.int k a) (.int k b) w K:=Zd8 c h
theorem ZoR (h1:a=b->K Bt w) (h2:¬a=b->K Bf w):bi .eql k (.int k a) (.int k b) w K:=by
 by_cases c:a=b
 .exact Znq c<|h1 c
 .exact Zd8 c<|h2 c
theorem Zng (c:¬a=b) (h:K Bt w):bi .neq k (.int k a) (.int k b) w K:=Zqz rfl (by simp only[Zce,bne,beq_eq_false_iff_ne.2 c];exact h)
theorem Qnet (h:K Bt w) (c:¬a=b:=by omega):bi .neq k (.int k a) (.int k b) w K:=Zng c h
theorem ZoP (c:a=b) (h:K Bf w):bi .neq k (.int k a) (.int k b) w K:=Zqz rfl (by simp only[Zce,bne,beq_iff_eq.2 c];exact h)
theorem Qnef (h:K Bf w) (c:a=b:=by omega):bi .neq k (.int k a) (.int k b) w K:=ZoP c h
theorem ZrP (h1:¬a=b->K Bt w) (h2:a=b->K Bf w):bi .neq k (.int k a) (.int k b) w K:=by
 by_cases c:a=b
 .exact ZoP c<|h2 c
 .exact Zng c<|h1 c
theorem ZMz {p q:Bool} (h:K (.bool<|p != q) w):bb .neq (.bool p) (.bool q) w K:=⟨p,q,rfl,rfl,h⟩
theorem Zty (h:K (.int k<|min a b) w):mnI k (.int k a) (.int k b) w K:=⟨a,b,rfl,rfl,by
 have e:(if b<a then b else a)=min a b:=by split <;> omega
 rw[e];exact h⟩
theorem ZwQ (h:K (.int k<|max a b) w):mxI k (.int k a) (.int k b) w K:=⟨a,b,rfl,rfl,by
 have e:(if b > a then b else a)=max a b:=by split <;> omega
 rw[e];exact h⟩
theorem ZDy {j:IntKind} (h:K (.int k<|k.wrap a) w):cvI k (.int j a) w K:=⟨j,a,rfl,h⟩
end
def Yi (ns:List Int):List Value:=ns.map<|Value.int .i64
def Ye (k:IntKind) (n:Int):List Value:=[.int k n]
theorem Z0E {k:IntKind} (n:Int):∀v∈Ye k n,flat v=true:=by
 intro v hv;simp only[Ye,List.mem_singleton] at hv;subst hv;rfl
theorem Zg (ns:List Int):∀v∈Yi ns,flat v=true:=by
 intro v hv;obtain ⟨n,_,rfl⟩:=List.mem_map.1 hv;rfl
theorem Zen (ns:List Int):(Yi ns).length=ns.length:=by simp[Yi]
def eqT (P:Program):Nat->TypeId->Option Nat
 | 0,_=>none
 | n+1,t=>
  match P.underlying t with
  | some (.int .i64)=>some 1
  | some (.struct fs)=>match P.stoodInHeld t with
   | true=>none
   | false=>fs.toList.foldl (λ(acc:Option Nat) f=>match acc with
    | none=>none
    | some off=>match decide (f.name≠ "_")&&decide (f.offset=off)&&okT P f.type,eqT P n f.type with
     | true,some s=>match decide (szD P f.type=s) with | true=>some (off+s) | false=>none
     | _,_=>none) (some 0)
  | _=>none
section
variable {P:Program} {w:World}
theorem Zbg {α:Type} (g:Option Nat->α->Option Nat) (hg:∀x,g none x=none):∀l:List α,l.foldl g none=none
 | []=>rfl
 | x::l=>by simp only[List.foldl_cons,hg];exact Zbg g hg l
theorem Zn4:∀(n:Nat) (t:TypeId) (s:Nat),eqT P n t=some s->∀(d:Nat) (ns ms:List Int),ns.length=s->ms.length=s->∀w:World,
  (Zb7 P t=false->∀a b,ns=[a]->ms=[b]->(Op.equalIn (d+n) t (Iw a)<|Iw b).run P w=.ok (ns==ms) w)/\
  (Zb7 P t=true->(Op.equalIn (d+n) t (.agg (Yi ns).toArray) (.agg (Yi ms).toArray)).run P w=.ok (ns==ms) w):=by
 intro n;induction n with
 | zero=>intro t s h;simp[eqT] at h
 | succ n ih=>
  intro t s h d ns ms hns hms w;unfold eqT at h;split at h
  .rename_i hu;constructor
   .rintro _ a b rfl rfl;have:=run_equalIn_int (P:=P) w (d+n) t .i64 .i64 a b hu;rw[show d+(n+1)=d+n+1 from by omega,this];simp
   .intro hg;simp[Zb7,hu,ZeC] at hg
  .rename_i fs hu;split at h
   .cases h
   .rename_i hst;constructor
    .intro hg;simp[Zb7,hu,ZeC] at hg
    .intro _;have hfo:P.fieldsOf t=fs:=by simp[Program.fieldsOf,hu]
     rw[show d+(n+1)=d+n+1 from by omega,run_equalIn_struct (P:=P) w (d+n) t _ _ (by rw[hfo];exact hu) hst,hfo];have key:∀(l:List Field) (off:Nat),l.foldl (λ(acc:Option Nat) f=>match acc with
       | none=>none
       | some off=>match decide (f.name≠ "_")&&decide (f.offset=off)&&okT P f.type,eqT P n f.type with
        | true,some s=>match decide (szD P f.type=s) with | true=>some (off+s) | false=>none
        | _,_=>none) (some off)=some s->(Op.eqFields (d+n) (Yi ns).toArray (Yi ms).toArray l).run P w=.ok (ns.drop off==ms.drop off) w:=by
      intro l;induction l with
      | nil=>
       intro off ho;simp only[List.foldl_nil,Option.some.injEq] at ho;subst ho;rw[List.drop_of_length_le (by omega),List.drop_of_length_le (by omega)];rfl
      | cons f l ihl=>
       intro off ho;simp only[List.foldl_cons] at ho;cases hc:(decide (f.name≠ "_")&&decide (f.offset=off)&&okT P f.type) with
       | false=>
        rw[hc] at ho;simp only at ho;rw[Zbg _<|λ_=>rfl] at ho;cases ho
       | true=>
        cases he:eqT P n f.type with
        | none=>
         rw[hc,he] at ho;simp only at ho;rw[Zbg _<|λ_=>rfl] at ho;cases ho
        | some sf=>
         rw[hc,he] at ho;simp only at ho;cases hz:decide (szD P f.type=sf) with
         | false=>
          rw[hz] at ho;simp only at ho;rw[Zbg _<|λ_=>rfl] at ho;cases ho
         | true=>
          rw[hz] at ho;simp only at ho;simp only[Bool.and_eq_true,decide_eq_true_eq] at hc hz;obtain ⟨⟨hname,hoff⟩,hok⟩:=hc;have hle:off+sf<=s:=by
           have mono:∀(l:List Field) (o:Nat),l.foldl (λ(acc:Option Nat) f=>match acc with
             | none=>none
             | some off=>match decide (f.name≠ "_")&&decide (f.offset=off)&&okT P f.type,eqT P n f.type with
              | true,some s=>match decide (szD P f.type=s) with | true=>some (off+s) | false=>none
              | _,_=>none) (some o)=some s->o<=s:=by
            intro l;induction l with
            | nil=>intro o h;simp at h;omega
            | cons g l ih2=>
             intro o h;simp only[List.foldl_cons] at h;split at h
             .rename_i s2 _ _;split at h
              .have:=ih2 _ h;omega
              .rw[Zbg _<|λ_=>rfl] at h;cases h
             .rw[Zbg _<|λ_=>rfl] at h;cases h
           exact mono l _ ho
          obtain ⟨d',i,z,hd,hi,hz0,hs,hg,hz'⟩:=Za9 hok;have hsz:i.size=sf:=by omega
          have hA:∀(xs:List Int),xs.length=s->(xs.drop off)=(xs.drop off).take sf++xs.drop (off+sf):=λxs hxs=>by
           rw[<-List.drop_drop,List.take_append_drop]
          have hcut:∀xs:List Int,xs.length=s->((Yi xs).toArray.extract off<|off+sf)=(Yi<|(xs.drop off).take sf).toArray:=λxs hxs=>by
           apply Array.ext';simp[Yi]
          have hl1:((ns.drop off).take sf).length=sf:=by simp;omega
          have hl2:((ms.drop off).take sf).length=sf:=by simp;omega
          have heq:(ns.drop off==ms.drop off)=(((ns.drop off).take sf==(ms.drop off).take sf)&&(ns.drop (off+sf)==ms.drop (off+sf))):=by
           rw[Bool.eq_iff_iff];simp only[beq_iff_eq,Bool.and_eq_true];constructor
           .intro e;rw[<-List.drop_drop,<-List.drop_drop,e];exact ⟨rfl,rfl⟩
           .rintro ⟨e1,e2⟩;rw[hA ns hns,hA ms hms,e1,e2]
          have hrest:=ihl (off+sf) ho;have ihf:=ih f.type sf he d _ _ hl1 hl2 w;rw[Op.eqFields,if_pos hname];cases hag:Zb7 P f.type with
          | true=>
           have p1:(part f.type (Yi ns).toArray f.offset).run P w=.ok (.agg (Yi<|(ns.drop off).take sf).toArray) w:=by
            rw[ZlR hd hi<|hg▸hag,hoff,hsz,hcut ns hns]
           have p2:(part f.type (Yi ms).toArray f.offset).run P w=.ok (.agg (Yi<|(ms.drop off).take sf).toArray) w:=by
            rw[ZlR hd hi<|hg▸hag,hoff,hsz,hcut ms hms]
           have p3:=ihf.2 hag;simp only[Sem.run_bind,p1,p2,p3,Result.andThen_ok];rw[heq];cases hb:((ns.drop off).take sf==(ms.drop off).take sf) with
           | true=>simpa using hrest
           | false=>simp
          | false=>
           have hone:sf=1:=by
            cases n with
            | zero=>simp[eqT] at he
            | succ n=>
             unfold eqT at he;split at he
             .simpa using he.symm
             .rename_i h2;simp[Zb7,h2,ZeC] at hag
             .cases he
           subst hone;obtain ⟨x,hx⟩:∃x,(ns.drop off).take 1=[x]:=by
            match h1:(ns.drop off).take 1,hl1 with
            | [x],_=>exact ⟨x,rfl⟩
           obtain ⟨y,hy⟩:∃y,(ms.drop off).take 1=[y]:=by
            match h1:(ms.drop off).take 1,hl2 with
            | [y],_=>exact ⟨y,rfl⟩
           have gx:ns[off]?=some x:=by
            have:((ns.drop off).take 1)[0]?=some x:=by rw[hx];rfl
            simpa [List.getElem?_take,List.getElem?_drop] using this
           have gy:ms[off]?=some y:=by
            have:((ms.drop off).take 1)[0]?=some y:=by rw[hy];rfl
            simpa [List.getElem?_take,List.getElem?_drop] using this
           have p1:(part f.type (Yi ns).toArray f.offset).run P w=.ok (Iw x) w:=Zlr hd (hg▸hag) (by rw[hoff];simp[Yi,gx]);have p2:(part f.type (Yi ms).toArray f.offset).run P w=.ok (Iw y) w:=Zlr hd (hg▸hag) (by rw[hoff];simp[Yi,gy]);have p3:=ihf.1 hag x y hx hy;simp only[Sem.run_bind,p1,p2,p3,Result.andThen_ok];rw[heq];cases hb:((ns.drop off).take 1==(ms.drop off).take 1) with
           | true=>simpa using hrest
           | false=>simp
     have:=key fs.toList 0 h
     simpa using this
  .cases h
theorem ZFS {K:KV} {t:TypeId} {xo yo:Operand} {ns ms:List Int} {n:Nat} (hT:eqT P n t=some ns.length) (hg:Zb7 P t=true) (hgd:P.eqGuardType P.depth t=false) (hn:n<=10000) (hl:ms.length=ns.length) (hk:K (.bool<|ns==ms) w) :
  bO P .eql t xo yo (.agg (Yi ns).toArray) (.agg (Yi ms).toArray) w K:=by
 have h:=(Zn4 n t _ hT (10000 - n) ns ms rfl hl w).2 hg;rw[show 10000 - n+n=10000 from by omega] at h;refine Yn (w':=w) (v:=.bool<|ns==ms) ?_ hk;simp only[Sem.run_bind,run_eqGuard_agg (P:=P) w .eql t xo yo _ _ hgd,Result.andThen_ok];rw[run_eql_struct,h];rfl
theorem ZDr {K:KV} {t:TypeId} {xo yo:Operand} {ns ms:List Int} {n:Nat} (hT:eqT P n t=some ns.length) (hg:Zb7 P t=true) (hgd:P.eqGuardType P.depth t=false) (hn:n<=10000) (hl:ms.length=ns.length) (hk:K (.bool<|!(ns==ms)) w) :
  bO P .neq t xo yo (.agg (Yi ns).toArray) (.agg (Yi ms).toArray) w K:=by
 have h:=(Zn4 n t _ hT (10000 - n) ns ms rfl hl w).2 hg;rw[show 10000 - n+n=10000 from by omega] at h;refine Yn (w':=w) (v:=.bool<|!(ns==ms)) ?_ hk;simp only[Sem.run_bind,run_eqGuard_agg (P:=P) w .neq t xo yo _ _ hgd,Result.andThen_ok];rw[run_neq_struct,h];rfl
end
end Go.E
end
section
namespace Go.E
open Go.RowKit Go.WideShapes Go.Deep
section
variable {H:Type} {enc:TypeId × Value->H} {P:Program} {w:World} {base:Nat} {spare:Nat->Bool} {held:Bool}
theorem Zs8 {t:TypeId} {k:IntKind} {fuel:Nat} {cs:List Value} {x:DataW H × List MemPlace} (hu:P.underlying t=some (.int k)) (h:DataW.trod enc P w base spare held fuel t cs=some x) :
  ∃n,cs=[.int k n]/\(Lit.int k n).wf=true:=by
 cases fuel with
 | zero=>simp[DataW.trod] at h
 | succ fuel=>
  unfold DataW.trod at h;rw[hu] at h
  match cs,h with
  | [.int k' n],h=>
   simp only at h;split at h
   .rename_i hc;obtain ⟨rfl,hw⟩:=hc;exact ⟨n,rfl,hw⟩
   .cases h
theorem Zup:∀(n:Nat) (t:TypeId) (s:Nat),eqT P n t=some s->szD P t=s->∀(fuel:Nat) (cs:List Value) (x:DataW H × List MemPlace),DataW.trod enc P w base spare held fuel t cs=some x->
  ∃ns:List Int,ns.length=s/\cs=Yi ns/\∀m∈ns,(Lit.int .i64 m).wf=true:=by
 intro n;induction n with
 | zero=>intro t s h;simp[eqT] at h
 | succ n ih=>
  intro t s h hsz fuel cs x hx;unfold eqT at h;split at h
  .rename_i hu;obtain ⟨m,rfl,hw⟩:=Zs8 hu hx;exact ⟨[m],by simpa using h,rfl,by simpa using hw⟩
  .rename_i fs hu;split at h
   .cases h
   .obtain ⟨xs,k,_,_,hlen,hxl,hg⟩:=DataW.trod_struct hu hx;have hcl:P.cellsOf t=s:=by
     rw[<-hsz];unfold Program.cellsOf szD;cases P.info? t <;> rfl
    have hlen':cs.length=s:=hlen.trans hcl;have key:∀(l:List Field) (i off:Nat),(∀j,l[j]?=fs[i+j]?)->l.foldl (λ(acc:Option Nat) f=>match acc with
      | none=>none
      | some off=>match decide (f.name≠ "_")&&decide (f.offset=off)&&okT P f.type,eqT P n f.type with
       | true,some s=>match decide (szD P f.type=s) with | true=>some (off+s) | false=>none
       | _,_=>none) (some off)=some s->∃ns:List Int,ns.length=s - off/\cs.drop off=Yi ns/\∀m∈ns,(Lit.int .i64 m).wf=true:=by
     intro l;induction l with
     | nil=>
      intro i off _ ho;simp only[List.foldl_nil,Option.some.injEq] at ho;subst ho;exact ⟨[],by simp,by rw[List.drop_of_length_le (by omega)];rfl,by simp⟩
     | cons f l ihl=>
      intro i off hl ho;simp only[List.foldl_cons] at ho;split at ho
      .rename_i sf hc he;split at ho
       .rename_i hz;simp only[Bool.and_eq_true,decide_eq_true_eq] at hc hz;obtain ⟨⟨hname,hoff⟩,hok⟩:=hc;obtain ⟨ns2,hl2,hc2,hw2⟩:=ihl (i+1) (off+sf) (λj=>by have:=hl<|j+1;simpa [Nat.add_assoc,Nat.add_comm 1 j] using this) ho;have hfi:fs[i]?=some f:=by simpa using (hl 0).symm
        have hgf:=hg i f hfi;have hcf:P.cellsOf f.type=sf:=by
         rw[<-hz];unfold Program.cellsOf szD;cases P.info? f.type <;> rfl
        rw[hoff,hcf] at hgf;have hle:off+sf<=s:=by
         have mono:∀(l:List Field) (o:Nat),l.foldl (λ(acc:Option Nat) f=>match acc with
           | none=>none
           | some off=>match decide (f.name≠ "_")&&decide (f.offset=off)&&okT P f.type,eqT P n f.type with
            | true,some s=>match decide (szD P f.type=s) with | true=>some (off+s) | false=>none
            | _,_=>none) (some o)=some s->o<=s:=by
          intro l;induction l with
          | nil=>intro o h;simp at h;omega
          | cons g l ih2=>
           intro o h;simp only[List.foldl_cons] at h;split at h
           .split at h
            .have:=ih2 _ h;omega
            .rw[Zbg _<|λ_=>rfl] at h;cases h
           .rw[Zbg _<|λ_=>rfl] at h;cases h
         exact mono l _ ho
        cases hxi:xs[i]? with
        | none=>
         have h1:=(Array.getElem?_eq_some_iff.1 hfi).1;rw[List.getElem?_eq_none_iff] at hxi;omega
        | some y=>
         rw[hxi] at hgf;obtain ⟨ns1,hl1,hc1,hw1⟩:=ih f.type sf he hz _ _ _ hgf;refine ⟨ns1++ns2,by rw[List.length_append,hl1,hl2];omega,?_,λm hm=>?_⟩
         .have:cs.drop off=(cs.drop off).take sf++cs.drop (off+sf):=by rw[<-List.drop_drop,List.take_append_drop]
          rw[this,hc1,hc2];simp[Yi]
         .rcases List.mem_append.1 hm with hm | hm
          .exact hw1 m hm
          .exact hw2 m hm
       .rw[Zbg _<|λ_=>rfl] at ho;cases ho
      .rw[Zbg _<|λ_=>rfl] at ho;cases ho
    obtain ⟨ns,h1,h2,h3⟩:=key fs.toList 0 0 (λj=>by simp) h;exact ⟨ns,by simpa using h1,by simpa using h2,h3⟩
  .cases h
theorem Zuq {w:World} {a:Addr} {n:Nat} {cs:List Value} (hn:0<n) (h:w.cells? base a n=some cs):a.block<w.heap.size:=by
 obtain ⟨_,hl,hc⟩:=World.cells?_some h;have h0:=hc 0 hn;have:(w.cell?<|a.add 0).isSome=true:=by rw[h0];simp;omega
 unfold World.cell? at this;cases hb:w.heap[(a.add 0).block]? with
 | none=>rw[hb] at this;simp at this
 | some o=>exact (Array.getElem?_eq_some_iff.1 hb).1
theorem ZsI (t:TypeId):P.cellsOf t=szD P t:=by unfold Program.cellsOf szD;cases P.info? t <;> rfl
theorem ZpR {st t:TypeId} {s n:Nat} (hu:P.underlying st=some (.slice t)) (hT:eqT P n t=some s) (hsz:szD P t=s) (hs:0<s) {v:Value} {d:DataW H} {p:List MemPlace} {a:Option Addr} {len cap:Nat} (hv:v=.slice a len cap)
  (h:DataW.Trod enc P w base spare held st v d p):∃l:List<|List Int,(∀ns∈l,ns.length=s/\∀m∈ns,(Lit.int .i64 m).wf=true)/\∀g,Old w g->rdS s Yi v l g:=by
 subst hv;obtain ⟨fuel,hf⟩:=h;have hf':DataW.trod enc P w base spare held fuel st [.slice a len cap]=some (d,p):=hf;rcases open_slice hu hf' with ⟨hcs,_⟩ | ⟨a',len',cap',m,k,D,Pl,hcs,hb,hl,hm,hmm,hx,hi⟩
 .injection hcs with hcs _;injection hcs with e1 e2 e3;subst e1;subst e2;subst e3;exact ⟨[],by simp,λg _=>⟨none,0,rfl,Nat.le_refl _,λh=>absurd h<|by simp⟩⟩
 .injection hcs with hcs _;injection hcs with e1 e2 e3;subst e1;subst e2;subst e3;rw[ZsI,hsz] at hi;have hlm:len<=m:=by rw[hmm];split <;> omega
  have hex:∀i,i<len->∃ns:List Int,ns.length=s/\(∀x∈ns,(Lit.int .i64 x).wf=true)/\w.cells? base (a'.add<|i*s) s=some (Yi ns):=by
   intro i hil;obtain ⟨cs',h1,h2⟩:=hi i (by omega);obtain ⟨ns,h3,h4,h5⟩:=Zup n t s hT hsz _ _ _ h2;exact ⟨ns,h3,h5,by rw[<-h4];exact h1⟩
  obtain ⟨f,hf2⟩:∃f:Nat->List Int,∀i,i<len->(f i).length=s/\(∀x∈f i,(Lit.int .i64 x).wf=true)/\w.cells? base (a'.add<|i*s) s=some (Yi<|f i):=
   ⟨λi=>if h:i<len then (hex i h).choose else [],λi h=>by simp only[dif_pos h];exact (hex i h).choose_spec⟩
  refine ⟨(List.range len).map f,λns hns=>?_,λg hg=>⟨some a',cap,by simp,by simpa using hl,λh0=>⟨a',rfl,?_⟩⟩⟩
  .obtain ⟨i,hi,rfl⟩:=List.mem_map.1 hns;obtain ⟨h1,h2,_⟩:=hf2 i (by simpa using hi);exact ⟨h1,h2⟩
  .have hlen0:0<len:=by simpa using h0
   have hblk:a'.block<w.heap.size:=by
    have:=Zuq hs (hf2 0 hlen0).2.2
    simpa [Addr.add] using this
   refine Old.cells hblk (λi v hv=>?_) g hg;have hli:i<((List.range len).map f).length*s:=by
    have:=(List.getElem?_eq_some_iff.1 hv).1;have h2:∀l:List Nat,(∀i∈l,i<len)->(l.flatMap λi=>Yi<|f i).length=l.length*s:=by
     intro l;induction l with
     | nil=>intro _;simp
     | cons x l ih=>intro hx;simp only[List.flatMap_cons,List.length_append,List.length_cons,ih<|λi hi=>hx i (by simp[hi]),Zen,(hf2 x<|hx x<|by simp).1,Nat.add_mul];omega
    have h3:=h2 (List.range len) (λi hi=>by simpa using hi);rw[List.flatMap_map] at this
    simpa [h3] using this
   have hq:i / s<len:=by
    rw[Nat.div_lt_iff_lt_mul hs]
    simpa using hli
   have hmod:=Nat.mod_lt i hs;obtain ⟨h1,_,h2⟩:=hf2 (i / s) hq;obtain ⟨_,_,h3⟩:=World.cells?_some h2;have h4:=h3 (i % s) hmod;rw[add_add,show i / s*s+i % s=i from by rw[Nat.mul_comm];exact Nat.div_add_mod i s] at h4;rw[h4];have hdrop:∀(l:List Nat) (q r:Nat),(∀i∈l,i<len)->r<s->∀x,l[q]?=some x->((l.map f).flatMap Yi)[q*s+r]?=(Yi<|f x)[r]?:=by
    intro l;induction l with
    | nil=>intro q r _ _ x hx;simp at hx
    | cons y l ih=>
     intro q r hl hr x hx;have hly:(Yi<|f y).length=s:=by rw[Zen];exact (hf2 y<|hl y<|by simp).1
     cases q with
     | zero=>
      simp at hx;subst hx;simp only[Nat.zero_mul,Nat.zero_add,List.map_cons,List.flatMap_cons];rw[List.getElem?_append_left (by omega)]
     | succ q=>
      simp only[List.getElem?_cons_succ] at hx;simp only[List.map_cons,List.flatMap_cons];rw[List.getElem?_append_right (by rw[hly,Nat.add_mul];omega),hly,show (q+1)*s+r - s=q*s+r from by rw[Nat.add_mul];omega];exact ih q r (λi hi=>hl i<|by simp[hi]) hr x hx
   have:=hdrop (List.range len) (i / s) (i % s) (λi hi=>by simpa using hi) hmod (i / s) (by simp[hq]);rw[show i / s*s+i % s=i from by rw[Nat.mul_comm];exact Nat.div_add_mod i s] at this;rw[<-this];exact hv
theorem ZFV {α:Type} {s:Nat} {f:α->List Value} (of:List Int->α) {v:Value} {l:List<|List Int} {g:Hp} (h:rdS s Yi v l g) (hof:∀ns∈l,f (of ns)=Yi ns):rdS s f v (l.map of) g:=by
 obtain ⟨A,c,h1,h2,h3⟩:=h;refine ⟨A,c,by simpa using h1,by simpa using h2,λh0=>?_⟩;obtain ⟨a,h4,h5⟩:=h3 (by simpa using h0);refine ⟨a,h4,?_⟩;have e:(l.map of).flatMap f=l.flatMap Yi:=by
  clear h1 h2 h3 h5 h0;induction l with
  | nil=>rfl
  | cons x l ih=>simp only[List.map_cons,List.flatMap_cons,hof x (by simp),ih<|λns hns=>hof ns (by simp[hns])]
 rw[e];exact h5
end
end Go.E
end
section
namespace Go.E
structure Key where
 T:Int
 From:Int
 Seq:Int
 deriving DecidableEq
def Key.ns (k:Key):List Int:=[k.T,k.From,k.Seq]
abbrev Key.cs (k:Key):List Value:=Yi k.ns
structure Msg where
 key:Key
 To:Int
 Class:Int
 Body:Int
 deriving DecidableEq
def Msg.ns (m:Msg):List Int:=[m.key.T,m.key.From,m.key.Seq,m.To,m.Class,m.Body]
abbrev Msg.cs (m:Msg):List Value:=Yi m.ns
structure Yz where
 cause:Key
 m:Msg
 deriving DecidableEq
def Yz.ns (k:Yz):List Int:=[k.cause.T,k.cause.From,k.cause.Seq,k.m.key.T,k.m.key.From,k.m.key.Seq,k.m.To,k.m.Class,k.m.Body]
abbrev Yz.cs (k:Yz):List Value:=Yi k.ns
theorem Key.eq_ns (a b:Key):(a.ns==b.ns)=decide (a=b):=by
 rw[Bool.eq_iff_iff];obtain ⟨a1,a2,a3⟩:=a;obtain ⟨b1,b2,b3⟩:=b;simp[Key.ns]
theorem Msg.eq_ns (a b:Msg):(a.ns==b.ns)=decide (a=b):=by
 rw[Bool.eq_iff_iff];obtain ⟨⟨a1,a2,a3⟩,a4,a5,a6⟩:=a;obtain ⟨⟨b1,b2,b3⟩,b4,b5,b6⟩:=b;simp[Msg.ns,and_assoc]
def Key.zero:Key:=⟨0,0,0⟩
def Msg.zero:Msg:=⟨⟨0,0,0⟩,0,0,0⟩
theorem Zx {α:Type} {l:List α} {j:Nat} {x:α} (h:l[j]?=some x):l.take (j+1)=l.take j++[x]:=by
 rw[List.take_add_one,h];rfl
theorem Zk {α:Type} {l:List α} {j:Nat} (h:j<l.length):∃x,l[j]?=some x:=⟨l[j],List.getElem?_eq_getElem h⟩
def nOf:Value->Nat
 | .int _ n=>n.toNat
 | _=>0
structure Zdo where
 Kind:Int
 K:Key
 M:Msg
 deriving DecidableEq
def Zdo.ns (s:Zdo):List Int:=[s.Kind,s.K.T,s.K.From,s.K.Seq,s.M.key.T,s.M.key.From,s.M.key.Seq,s.M.To,s.M.Class,s.M.Body]
abbrev Zdo.cs (s:Zdo):List Value:=Yi s.ns
def Key.of (l:List Int):Key:=⟨l.getD 0 0,l.getD 1 0,l.getD 2 0⟩
theorem Key.of_cs {l:List Int} (h:l.length=3):(Key.of l).cs=Yi l:=by
 match l,h with
 | [_,_,_],_=>rfl
def Msg.of (l:List Int):Msg:=⟨⟨l.getD 0 0,l.getD 1 0,l.getD 2 0⟩,l.getD 3 0,l.getD 4 0,l.getD 5 0⟩
theorem Msg.of_cs {l:List Int} (h:l.length=6):(Msg.of l).cs=Yi l:=by
 match l,h with
 | [_,_,_,_,_,_],_=>rfl
def Zdo.of (l:List Int):Zdo:=⟨l.getD 0 0,⟨l.getD 1 0,l.getD 2 0,l.getD 3 0⟩,⟨⟨l.getD 4 0,l.getD 5 0,l.getD 6 0⟩,l.getD 7 0,l.getD 8 0,l.getD 9 0⟩⟩
theorem Zdo.of_cs {l:List Int} (h:l.length=10):(Zdo.of l).cs=Yi l:=by
 match l,h with
 | [_,_,_,_,_,_,_,_,_,_],_=>rfl
end Go.E
end
