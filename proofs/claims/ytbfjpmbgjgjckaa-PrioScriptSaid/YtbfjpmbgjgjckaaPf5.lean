/- Printed by prt.py: the Go functions of this seat as shallow predicate transformers. Conditions: none. -/
import Derived.Test.YtbfjpmbgjgjckaaEngO
import Derived.Test.YtbfjpmbgjgjckaaPfHead
import Derived.KernelRfl
namespace Go.Proofs.Ytbfjpmbgjgjckaa
open Go Go.E
set_option linter.unusedVariables false
set_option maxRecDepth 100000
/-- (*paceline/prio.Queue).Below$1 -/
def prio_Queue_Below_1 (t0 t1 : Value) (w : World) (K : KV) : Prop :=
  al (Value.cells t0) 30 w fun t2 w =>
  fld 0 t2 w fun t4 w =>
  fld 0 t4 w fun t5 w =>
  ld1 t5 w fun t6 w =>
  ld1 t1 w fun t7 w =>
  bi .geq .i64 t6 t7 w fun t8 w =>
  K t8 w
theorem prio_Queue_Below_1_eq (t0 t1 : Value) (w : World) (K : KV) : prio_Queue_Below_1 t0 t1 w K = fnW prog 9 [3] (match fn34.body with | some c => c | none => .skip) #[t0, t1] w K := by kernel_rfl
theorem prio_Queue_Below_1_ok : fnOk prog 9 [3] (match fn34.body with | some c => c | none => .skip) = true := by kernel_rfl
theorem prio_Queue_Below_1_calls {t0 t1 : Value} {w : World} {K : KV} (h : prio_Queue_Below_1 t0 t1 w K) : Cl prog 34 #[t0, t1] w K :=
  Cl.mk (by kernel_rfl) (calls_of_F (fn := fn34) (nt := 9) (rs := [3]) mixed fnAt34 (by kernel_rfl) (by kernel_rfl) (by kernel_rfl) (Nat.le_of_ble_eq_true (by kernel_rfl)) prio_Queue_Below_1_ok (prio_Queue_Below_1_eq t0 t1 w K) h)

/-- container/heap.Pop -/
def heap_Pop (t0 : Value) (w : World) (K : KV) : Prop :=
  clI prog t0 "Len" #[] w fun t5 w =>
  bi .sub .i64 t5 (Value.int IntKind.i64 1) w fun t6 w =>
  clI prog t0 "Swap" #[(Value.int IntKind.i64 0), t6] w fun _ w =>
  Cl prog 44 #[t0, (Value.int IntKind.i64 0), t6] w fun _ w =>
  clI prog t0 "Pop" #[] w fun t14 w =>
  K t14 w
theorem heap_Pop_eq (t0 : Value) (w : World) (K : KV) : heap_Pop t0 w K = fnW prog 15 [2] (match fn35.body with | some c => c | none => .skip) #[t0] w K := by kernel_rfl
theorem heap_Pop_ok : fnOk prog 15 [2] (match fn35.body with | some c => c | none => .skip) = true := by kernel_rfl
theorem heap_Pop_calls {t0 : Value} {w : World} {K : KV} (h : heap_Pop t0 w K) : Cl prog 35 #[t0] w K :=
  Cl.mk (by kernel_rfl) (calls_of_F (fn := fn35) (nt := 15) (rs := [2]) mixed fnAt35 (by kernel_rfl) (by kernel_rfl) (by kernel_rfl) (Nat.le_of_ble_eq_true (by kernel_rfl)) heap_Pop_ok (heap_Pop_eq t0 w K) h)

/-- container/heap.Remove -/
def heap_Remove (t0 t1 : Value) (w : World) (K : KV) : Prop :=
  clI prog t0 "Len" #[] w fun t7 w =>
  bi .sub .i64 t7 (Value.int IntKind.i64 1) w fun t8 w =>
  bi .neq .i64 t8 t1 w fun t11 w =>
  J0 (fun w =>
  clI prog t0 "Pop" #[] w fun t25 w =>
  K t25 w) fun k1 =>
  iff' t11
  (clI prog t0 "Swap" #[t1, t8] w fun _ w =>
  Cl prog 44 #[t0, t1, t8] w fun t19 w =>
  bnot t19 w fun t20 w =>
  iff' t20
  (Cl prog 38 #[t0, t1] w fun _ w =>
  k1 w)
  (k1 w))
  (k1 w)
theorem heap_Remove_eq (t0 t1 : Value) (w : World) (K : KV) : heap_Remove t0 t1 w K = fnW prog 26 [4] (match fn36.body with | some c => c | none => .skip) #[t0, t1] w K := by kernel_rfl
theorem heap_Remove_ok : fnOk prog 26 [4] (match fn36.body with | some c => c | none => .skip) = true := by kernel_rfl
theorem heap_Remove_calls {t0 t1 : Value} {w : World} {K : KV} (h : heap_Remove t0 t1 w K) : Cl prog 36 #[t0, t1] w K :=
  Cl.mk (by kernel_rfl) (calls_of_F (fn := fn36) (nt := 26) (rs := [4]) mixed fnAt36 (by kernel_rfl) (by kernel_rfl) (by kernel_rfl) (Nat.le_of_ble_eq_true (by kernel_rfl)) heap_Remove_ok (heap_Remove_eq t0 t1 w K) h)

/-- (*paceline/pacelineref03.Queue).find -/
def pacelineref03_Queue_find (t0 t1 : Value) (w : World) (K : KV) : Prop :=
  al (Value.cells t1) 28 w fun t3 w =>
  lp [(Value.int IntKind.i64 0)] w (b1 fun t5 w g1 =>
  ncP t0 <|
  fld 1 t0 w fun t9 w =>
  ld1 t9 w fun t10 w =>
  lnS t10 w fun t11 w =>
  bi .lss .i64 t5 t11 w fun t12 w =>
  iff' t12
  (dr w fun w =>
  ncP t0 <|
  fld 1 t0 w fun t17 _ =>
  ld1 t17 w fun t18 _ =>
  ixS 6 t18 t5 w fun t20 _ =>
  fld 0 t20 w fun t21 _ =>
  ldN 3 t21 w fun t22 _ =>
  ldN 3 t3 w fun t23 _ =>
  bO prog .eql 28 (Operand.tmp 22) (Operand.tmp 23) t22 t23 w fun t24 w =>
  iff' t24
  (K t5 w)
  (bi .add .i64 t5 (Value.int IntKind.i64 1) w fun t14 w =>
  g1 [t14] w))
  (K (Value.int IntKind.i64 (-1)) w))
theorem pacelineref03_Queue_find_eq (t0 t1 : Value) (w : World) (K : KV) : pacelineref03_Queue_find t0 t1 w K = fnW prog 26 [4] (match fn37.body with | some c => c | none => .skip) #[t0, t1] w K := by kernel_rfl
theorem pacelineref03_Queue_find_ok : fnOk prog 26 [4] (match fn37.body with | some c => c | none => .skip) = true := by kernel_rfl
theorem pacelineref03_Queue_find_calls {t0 t1 : Value} {w : World} {K : KV} (h : pacelineref03_Queue_find t0 t1 w K) : Cl prog 37 #[t0, t1] w K :=
  Cl.mk (by kernel_rfl) (calls_of_F (fn := fn37) (nt := 26) (rs := [4]) mixed fnAt37 (by kernel_rfl) (by kernel_rfl) (by kernel_rfl) (Nat.le_of_ble_eq_true (by kernel_rfl)) pacelineref03_Queue_find_ok (pacelineref03_Queue_find_eq t0 t1 w K) h)

/-- container/heap.up -/
def heap_up (t0 t1 : Value) (w : World) (K : KV) : Prop :=
  lp [t1] w (b1 fun t1_1 w g1 =>
  bi .sub .i64 t1_1 (Value.int IntKind.i64 1) w fun t6 w =>
  bi .quo .i64 t6 (Value.int IntKind.i64 2) w fun t7 w =>
  bi .eql .i64 t7 t1_1 w fun t10 w =>
  gd t10 false (fun k => k t0 w) w fun t12 w =>
  gd t10 false (fun k => k t1_1 w) w fun t13 w =>
  gd t10 false (fun k => k t7 w) w fun t14 w =>
  gd t10 false (fun k => clI prog t12 "Less" #[t13, t14] w k) w fun t15 w =>
  gd t10 false (fun k => bnot t15 w k) w fun t16 w =>
  pk t10 (Value.bool true) t16 w fun t17 w =>
  iff' t17
  (K (Value.tuple #[]) w)
  (clI prog t0 "Swap" #[t7, t1_1] w fun _ w =>
  g1 [t7] w))
theorem heap_up_eq (t0 t1 : Value) (w : World) (K : KV) : heap_up t0 t1 w K = fnW prog 23 [] (match fn38.body with | some c => c | none => .skip) #[t0, t1] w K := by kernel_rfl
theorem heap_up_ok : fnOk prog 23 [] (match fn38.body with | some c => c | none => .skip) = true := by kernel_rfl
theorem heap_up_calls {t0 t1 : Value} {w : World} {K : KV} (h : heap_up t0 t1 w K) : Cl prog 38 #[t0, t1] w K :=
  Cl.mk (by kernel_rfl) (calls_of_F (fn := fn38) (nt := 23) (rs := []) mixed fnAt38 (by kernel_rfl) (by kernel_rfl) (by kernel_rfl) (Nat.le_of_ble_eq_true (by kernel_rfl)) heap_up_ok (heap_up_eq t0 t1 w K) h)

/-- cmp.Or[int] -/
def cmp_Or_int (t0 : Value) (w : World) (K : KV) : Prop :=
  lnS t0 w fun t7 w =>
  lp [(Value.int IntKind.i64 0)] w (b1 fun t8 w g1 =>
  bi .lss .i64 t8 t7 w fun t9 w =>
  iff' t9
  (ixS 1 t0 t8 w fun t10 w =>
  ld1 t10 w fun t11 w =>
  bi .neq .i64 t11 (Value.int IntKind.i64 0) w fun t14 w =>
  iff' t14
  (K t11 w)
  (bi .add .i64 t8 (Value.int IntKind.i64 1) w fun t16 w =>
  g1 [t16] w))
  (K (Value.int IntKind.i64 0) w))
theorem cmp_Or_int_eq (t0 : Value) (w : World) (K : KV) : cmp_Or_int t0 w K = fnW prog 18 [2] (match fn41.body with | some c => c | none => .skip) #[t0] w K := by kernel_rfl
theorem cmp_Or_int_ok : fnOk prog 18 [2] (match fn41.body with | some c => c | none => .skip) = true := by kernel_rfl
theorem cmp_Or_int_calls {t0 : Value} {w : World} {K : KV} (h : cmp_Or_int t0 w K) : Cl prog 41 #[t0] w K :=
  Cl.mk (by kernel_rfl) (calls_of_F (fn := fn41) (nt := 18) (rs := [2]) mixed fnAt41 (by kernel_rfl) (by kernel_rfl) (by kernel_rfl) (Nat.le_of_ble_eq_true (by kernel_rfl)) cmp_Or_int_ok (cmp_Or_int_eq t0 w K) h)

end Go.Proofs.Ytbfjpmbgjgjckaa
