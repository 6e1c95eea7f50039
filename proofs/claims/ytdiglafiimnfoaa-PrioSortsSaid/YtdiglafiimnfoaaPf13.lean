/- Printed by prt.py: the Go functions of this seat as shallow predicate transformers. Conditions: none. -/
import Derived.Test.YtdiglafiimnfoaaEngO
import Derived.Test.YtdiglafiimnfoaaPfHead
import Derived.KernelRfl
namespace Go.Proofs.Ytdiglafiimnfoaa
open Go Go.E
set_option linter.unusedVariables false
set_option maxRecDepth 100000
/-- (*paceline/link.Net).items -/
def link_Net_items (t0 : Value) (w : World) (K : KV) : Prop :=
  al (Value.cells t0) 56 w fun t1 w =>
  K (Value.func (Fn.func 103) #[] #[t1]) w
theorem link_Net_items_eq (t0 : Value) (w : World) (K : KV) : link_Net_items t0 w K = fnW prog 4 [2] (match fn84.body with | some c => c | none => .skip) #[t0] w K := by kernel_rfl
theorem link_Net_items_ok : fnOk prog 4 [2] (match fn84.body with | some c => c | none => .skip) = true := by kernel_rfl
theorem link_Net_items_calls {t0 : Value} {w : World} {K : KV} (h : link_Net_items t0 w K) : Cl prog 84 #[t0] w K :=
  ⟨by kernel_rfl, calls_of_F (fn := fn84) (nt := 4) (rs := [2]) mixed fnAt84 (by kernel_rfl) (by kernel_rfl) (by kernel_rfl) (Nat.le_of_ble_eq_true (by kernel_rfl)) link_Net_items_ok (link_Net_items_eq t0 w K) h⟩

/-- paceline/vtime.Least -/
def vtime_Least (t0 : Value) (w : World) (K : KV) : Prop :=
  lnS t0 w fun t7 w =>
  lp [(Value.int IntKind.i64 1125899906842624), (Value.int IntKind.i64 0)] w (b2 fun t3 t8 w g1 =>
  bi .lss .i64 t8 t7 w fun t9 w =>
  iff' t9
  (ixS 1 t0 t8 w fun t10 w =>
  ld1 t10 w fun t11 w =>
  Cl prog 104 #[t11] w fun t14 w =>
  mnI .i64 t3 t14 w fun t15 w =>
  bi .add .i64 t8 (Value.int IntKind.i64 1) w fun t16 w =>
  g1 [t15, t16] w)
  (K t3 w))
theorem vtime_Least_eq (t0 : Value) (w : World) (K : KV) : vtime_Least t0 w K = fnW prog 18 [2] (match fn85.body with | some c => c | none => .skip) #[t0] w K := by kernel_rfl
theorem vtime_Least_ok : fnOk prog 18 [2] (match fn85.body with | some c => c | none => .skip) = true := by kernel_rfl
theorem vtime_Least_calls {t0 : Value} {w : World} {K : KV} (h : vtime_Least t0 w K) : Cl prog 85 #[t0] w K :=
  ⟨by kernel_rfl, calls_of_F (fn := fn85) (nt := 18) (rs := [2]) mixed fnAt85 (by kernel_rfl) (by kernel_rfl) (by kernel_rfl) (Nat.le_of_ble_eq_true (by kernel_rfl)) vtime_Least_ok (vtime_Least_eq t0 w K) h⟩

/-- (*paceline/pacelineref10.Net).is -/
def pacelineref10_Net_is (t0 t1 t2 : Value) (w : World) (K : KV) : Prop :=
  bi .geq .i64 t1 (Value.int IntKind.i64 0) w fun t8 w =>
  gd t8 true (fun k => k t1 w) w fun t10 w =>
  gd t8 true (fun k => k t0 w) w fun t11 w =>
  gd t8 true (fun k => nc t11 w k) w fun t12 w =>
  gd t8 true (fun k => fld 0 t12 w k) w fun t13 w =>
  gd t8 true (fun k => ld1 t13 w k) w fun t14 w =>
  gd t8 true (fun k => bi .lss .i64 t10 t14 w k) w fun t15 w =>
  pk t8 t15 (Value.bool false) w fun t16 w =>
  gd t16 true (fun k => k t2 w) w fun t18 w =>
  gd t16 true (fun k => bi .geq .i64 t18 (Value.int IntKind.i64 0) w k) w fun t19 w =>
  pk t16 t19 (Value.bool false) w fun t20 w =>
  gd t20 true (fun k => k t2 w) w fun t22 w =>
  gd t20 true (fun k => k t0 w) w fun t23 w =>
  gd t20 true (fun k => nc t23 w k) w fun t24 w =>
  gd t20 true (fun k => fld 0 t24 w k) w fun t25 w =>
  gd t20 true (fun k => ld1 t25 w k) w fun t26 w =>
  gd t20 true (fun k => bi .lss .i64 t22 t26 w k) w fun t27 w =>
  pk t20 t27 (Value.bool false) w fun t28 w =>
  gd t28 true (fun k => k t1 w) w fun t30 w =>
  gd t28 true (fun k => k t2 w) w fun t31 w =>
  gd t28 true (fun k => bi .neq .i64 t30 t31 w k) w fun t32 w =>
  pk t28 t32 (Value.bool false) w fun t33 w =>
  K t33 w
theorem pacelineref10_Net_is_eq (t0 t1 t2 : Value) (w : World) (K : KV) : pacelineref10_Net_is t0 t1 t2 w K = fnW prog 34 [6] (match fn86.body with | some c => c | none => .skip) #[t0, t1, t2] w K := by kernel_rfl
theorem pacelineref10_Net_is_ok : fnOk prog 34 [6] (match fn86.body with | some c => c | none => .skip) = true := by kernel_rfl
theorem pacelineref10_Net_is_calls {t0 t1 t2 : Value} {w : World} {K : KV} (h : pacelineref10_Net_is t0 t1 t2 w K) : Cl prog 86 #[t0, t1, t2] w K :=
  ⟨by kernel_rfl, calls_of_F (fn := fn86) (nt := 34) (rs := [6]) mixed fnAt86 (by kernel_rfl) (by kernel_rfl) (by kernel_rfl) (Nat.le_of_ble_eq_true (by kernel_rfl)) pacelineref10_Net_is_ok (pacelineref10_Net_is_eq t0 t1 t2 w K) h⟩

/-- paceline/pacelineref01.Least -/
def pacelineref01_Least (t0 : Value) (w : World) (K : KV) : Prop :=
  lp [(Value.int IntKind.i64 1125899906842624), (Value.int IntKind.i64 0)] w (b2 fun t3 t4 w g1 =>
  lnS t0 w fun t7 w =>
  bi .lss .i64 t4 t7 w fun t8 w =>
  iff' t8
  (ixS 1 t0 t4 w fun t14 w =>
  ld1 t14 w fun t15 w =>
  Cl prog 105 #[t15] w fun t16 w =>
  mnI .i64 t3 t16 w fun t17 w =>
  bi .add .i64 t4 (Value.int IntKind.i64 1) w fun t10 w =>
  g1 [t17, t10] w)
  (K t3 w))
theorem pacelineref01_Least_eq (t0 : Value) (w : World) (K : KV) : pacelineref01_Least t0 w K = fnW prog 19 [2] (match fn87.body with | some c => c | none => .skip) #[t0] w K := by kernel_rfl
theorem pacelineref01_Least_ok : fnOk prog 19 [2] (match fn87.body with | some c => c | none => .skip) = true := by kernel_rfl
theorem pacelineref01_Least_calls {t0 : Value} {w : World} {K : KV} (h : pacelineref01_Least t0 w K) : Cl prog 87 #[t0] w K :=
  ⟨by kernel_rfl, calls_of_F (fn := fn87) (nt := 19) (rs := [2]) mixed fnAt87 (by kernel_rfl) (by kernel_rfl) (by kernel_rfl) (Nat.le_of_ble_eq_true (by kernel_rfl)) pacelineref01_Least_ok (pacelineref01_Least_eq t0 w K) h⟩

/-- container/heap.Push -/
def heap_Push (t0 t1 : Value) (w : World) (K : KV) : Prop :=
  clI prog t0 "Push" #[t1] w fun _ w =>
  clI prog t0 "Len" #[] w fun t9 w =>
  bi .sub .i64 t9 (Value.int IntKind.i64 1) w fun t10 w =>
  Cl prog 106 #[t0, t10] w fun _ w =>
  K (Value.tuple #[]) w
theorem heap_Push_eq (t0 t1 : Value) (w : World) (K : KV) : heap_Push t0 t1 w K = fnW prog 12 [] (match fn88.body with | some c => c | none => .skip) #[t0, t1] w K := by kernel_rfl
theorem heap_Push_ok : fnOk prog 12 [] (match fn88.body with | some c => c | none => .skip) = true := by kernel_rfl
theorem heap_Push_calls {t0 t1 : Value} {w : World} {K : KV} (h : heap_Push t0 t1 w K) : Cl prog 88 #[t0, t1] w K :=
  ⟨by kernel_rfl, calls_of_F (fn := fn88) (nt := 12) (rs := []) mixed fnAt88 (by kernel_rfl) (by kernel_rfl) (by kernel_rfl) (Nat.le_of_ble_eq_true (by kernel_rfl)) heap_Push_ok (heap_Push_eq t0 t1 w K) h⟩

/-- (*paceline/pacelineref03.Queue).find -/
def pacelineref03_Queue_find (t0 t1 : Value) (w : World) (K : KV) : Prop :=
  al (Value.cells t1) 61 w fun t3 w =>
  lp [(Value.int IntKind.i64 0)] w (b1 fun t5 w g1 =>
  ncP t0 <|
  fld 1 t0 w fun t9 w =>
  ld1 t9 w fun t10 w =>
  lnS t10 w fun t11 w =>
  bi .lss .i64 t5 t11 w fun t12 w =>
  iff' t12
  (dr w fun w =>
  ncP t0 <|
  fld 1 t0 w fun t17 _ =>
  ld1 t17 w fun t18 _ =>
  ixS 6 t18 t5 w fun t20 _ =>
  fld 0 t20 w fun t21 _ =>
  ldN 3 t21 w fun t22 _ =>
  ldN 3 t3 w fun t23 _ =>
  bO prog .eql 61 (Operand.tmp 22) (Operand.tmp 23) t22 t23 w fun t24 w =>
  iff' t24
  (K t5 w)
  (bi .add .i64 t5 (Value.int IntKind.i64 1) w fun t14 w =>
  g1 [t14] w))
  (K (Value.int IntKind.i64 (-1)) w))
theorem pacelineref03_Queue_find_eq (t0 t1 : Value) (w : World) (K : KV) : pacelineref03_Queue_find t0 t1 w K = fnW prog 26 [4] (match fn89.body with | some c => c | none => .skip) #[t0, t1] w K := by kernel_rfl
theorem pacelineref03_Queue_find_ok : fnOk prog 26 [4] (match fn89.body with | some c => c | none => .skip) = true := by kernel_rfl
theorem pacelineref03_Queue_find_calls {t0 t1 : Value} {w : World} {K : KV} (h : pacelineref03_Queue_find t0 t1 w K) : Cl prog 89 #[t0, t1] w K :=
  ⟨by kernel_rfl, calls_of_F (fn := fn89) (nt := 26) (rs := [4]) mixed fnAt89 (by kernel_rfl) (by kernel_rfl) (by kernel_rfl) (Nat.le_of_ble_eq_true (by kernel_rfl)) pacelineref03_Queue_find_ok (pacelineref03_Queue_find_eq t0 t1 w K) h⟩

end Go.Proofs.Ytdiglafiimnfoaa
