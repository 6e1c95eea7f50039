/- Printed by prt.py: the Go functions of this seat as shallow predicate transformers. Conditions: none. -/
import Derived.Test.YtlmakkjbcmhaeaaEngO
import Derived.Test.YtlmakkjbcmhaeaaPfHead
import Derived.KernelRfl
namespace Go.Proofs.Ytlmakkjbcmhaeaa
open Go Go.E
set_option linter.unusedVariables false
set_option maxRecDepth 100000
/-- slices.BinarySearchFunc[[]paceline/api.Msg,paceline/api.Msg,paceline/api.Key] -/
def slices_BinarySearchFunc_api_Msg_api_Msg_api_Key (t0 t1 t2 : Value) (w : World) (K : KV) : Prop :=
  al (Value.cells t1) 30 w fun t4 w =>
  lnS t0 w fun t13 w =>
  lp [(Value.int IntKind.i64 0), t13] w (b2 fun t9 t10 w g1 =>
  bi .lss .i64 t9 t10 w fun t17 w =>
  iff' t17
  (bi .add .i64 t9 t10 w fun t20 w =>
  cvI .u64 t20 w fun t21 w =>
  bO prog .shr 84 (Operand.tmp 21) (Operand.const (Value.int IntKind.u64 1)) t21 (Value.int IntKind.u64 1) w fun t22 w =>
  cvI .i64 t22 w fun t23 w =>
  dr w fun w =>
  ixS 6 t0 t23 w fun t27 _ =>
  ldN 6 t27 w fun t28 _ =>
  ldN 3 t4 w fun t29 _ =>
  clV prog t2 #[t28, t29] w fun t30 w =>
  bi .lss .i64 t30 (Value.int IntKind.i64 0) w fun t31 _ =>
  iff' t31
  (bi .add .i64 t23 (Value.int IntKind.i64 1) w fun t33 w =>
  g1 [t33, t10] w)
  (g1 [t9, t23] w))
  (dr w fun w =>
  bi .lss .i64 t9 t13 w fun t38 _ =>
  gd t38 true (fun k => k t2 w) w fun t40 _ =>
  gd t38 true (fun k => k t0 w) w fun t41 _ =>
  gd t38 true (fun k => k t9 w) w fun t42 _ =>
  gd t38 true (fun k => ixS 6 t41 t42 w k) w fun t43 _ =>
  gd t38 true (fun k => ldN 6 t43 w k) w fun t44 _ =>
  gd t38 true (fun k => ldN 3 t4 w k) w fun t45 _ =>
  gd t38 true (fun k => clV prog t40 #[t44, t45] w k) w fun t46 w =>
  gd t38 true (fun k => bi .eql .i64 t46 (Value.int IntKind.i64 0) w k) w fun t47 _ =>
  pk t38 t47 (Value.bool false) w fun t48 _ =>
  K (Value.tuple #[t9, t48]) w))
theorem slices_BinarySearchFunc_api_Msg_api_Msg_api_Key_eq (t0 t1 t2 : Value) (w : World) (K : KV) : slices_BinarySearchFunc_api_Msg_api_Msg_api_Key t0 t1 t2 w K = fnW prog 49 [6, 7] (match fn52.body with | some c => c | none => .skip) #[t0, t1, t2] w K := by kernel_rfl
theorem slices_BinarySearchFunc_api_Msg_api_Msg_api_Key_ok : fnOk prog 49 [6, 7] (match fn52.body with | some c => c | none => .skip) = true := by kernel_rfl
theorem slices_BinarySearchFunc_api_Msg_api_Msg_api_Key_calls {t0 t1 t2 : Value} {w : World} {K : KV} (h : slices_BinarySearchFunc_api_Msg_api_Msg_api_Key t0 t1 t2 w K) : Cl prog 52 #[t0, t1, t2] w K :=
  Cl.mk (by kernel_rfl) (calls_of_F (fn := fn52) (nt := 49) (rs := [6, 7]) mixed fnAt52 (by kernel_rfl) (by kernel_rfl) (by kernel_rfl) (Nat.le_of_ble_eq_true (by kernel_rfl)) slices_BinarySearchFunc_api_Msg_api_Msg_api_Key_ok (slices_BinarySearchFunc_api_Msg_api_Msg_api_Key_eq t0 t1 t2 w K) h)

/-- paceline/calendar.place$1 -/
def calendar_place_1 (t0 t1 : Value) (w : World) (K : KV) : Prop :=
  al (Value.cells t0) 32 w fun t2 w =>
  al (Value.cells t1) 30 w fun t3 w =>
  fld 0 t2 w fun t5 w =>
  ldN 3 t5 w fun t6 w =>
  ldN 3 t3 w fun t7 w =>
  Cl prog 45 #[t6, t7] w fun t8 w =>
  K t8 w
theorem calendar_place_1_eq (t0 t1 : Value) (w : World) (K : KV) : calendar_place_1 t0 t1 w K = fnW prog 9 [4] (match fn53.body with | some c => c | none => .skip) #[t0, t1] w K := by kernel_rfl
theorem calendar_place_1_ok : fnOk prog 9 [4] (match fn53.body with | some c => c | none => .skip) = true := by kernel_rfl
theorem calendar_place_1_calls {t0 t1 : Value} {w : World} {K : KV} (h : calendar_place_1 t0 t1 w K) : Cl prog 53 #[t0, t1] w K :=
  Cl.mk (by kernel_rfl) (calls_of_F (fn := fn53) (nt := 9) (rs := [4]) mixed fnAt53 (by kernel_rfl) (by kernel_rfl) (by kernel_rfl) (Nat.le_of_ble_eq_true (by kernel_rfl)) calendar_place_1_ok (calendar_place_1_eq t0 t1 w K) h)

/-- paceline/pacelineref03.Insert -/
def pacelineref03_Insert (t0 t1 : Value) (w : World) (K : KV) : Prop :=
  al (Value.cells t1) 32 w fun t3 w =>
  bsl 32 6 0 #[] [] w fun t8 w =>
  lp [t8, (Value.bool false), (Value.int IntKind.i64 0)] w (b3 fun t5 t6 t7 w g1 =>
  lnS t0 w fun t11 w =>
  bi .lss .i64 t7 t11 w fun t12 w =>
  iff' t12
  (dr w fun w =>
  bnot t6 w fun t16 _ =>
  gd t16 true (fun k => fld 0 t3 w k) w fun t18 _ =>
  gd t16 true (fun k => ldN 3 t18 w k) w fun t19 _ =>
  gd t16 true (fun k => k t0 w) w fun t20 _ =>
  gd t16 true (fun k => k t7 w) w fun t21 _ =>
  gd t16 true (fun k => ixS 6 t20 t21 w k) w fun t22 _ =>
  gd t16 true (fun k => fld 0 t22 w k) w fun t23 _ =>
  gd t16 true (fun k => ldN 3 t23 w k) w fun t24 _ =>
  gd t16 true (fun k => Cl prog 64 #[t19, t24] w k) w fun t25 w =>
  gd t16 true (fun k => bi .lss .i64 t25 (Value.int IntKind.i64 0) w k) w fun t26 _ =>
  pk t16 t26 (Value.bool false) w fun t27 _ =>
  J2 (fun t5_1 t6_1 w =>
  ixS 6 t0 t7 w fun t35 w =>
  ldN 6 t35 w fun t36 w =>
  bsl 32 6 1 (zeroD prog 32) [(0, t36)] w fun t37 w =>
  apS prog #[36, 36] 36 t5_1 t37 w fun t38 w =>
  bi .add .i64 t7 (Value.int IntKind.i64 1) w fun t14 w =>
  g1 [t38, t6_1, t14] w) fun k2 =>
  iff' t27
  (ldN 6 t3 w fun t29 w =>
  bsl 32 6 1 (zeroD prog 32) [(0, t29)] w fun t30 w =>
  apS prog #[36, 36] 36 t5 t30 w fun t31 w =>
  k2 t31 (Value.bool true) w)
  (k2 t5 t6 w))
  (bnot t6 w fun t40 w =>
  J1 (fun t5_2 w =>
  K t5_2 w) fun k3 =>
  iff' t40
  (ldN 6 t3 w fun t42 w =>
  bsl 32 6 1 (zeroD prog 32) [(0, t42)] w fun t43 w =>
  apS prog #[36, 36] 36 t5 t43 w fun t44 w =>
  k3 t44 w)
  (k3 t5 w)))
theorem pacelineref03_Insert_eq (t0 t1 : Value) (w : World) (K : KV) : pacelineref03_Insert t0 t1 w K = fnW prog 46 [4] (match fn56.body with | some c => c | none => .skip) #[t0, t1] w K := by kernel_rfl
theorem pacelineref03_Insert_ok : fnOk prog 46 [4] (match fn56.body with | some c => c | none => .skip) = true := by kernel_rfl
theorem pacelineref03_Insert_calls {t0 t1 : Value} {w : World} {K : KV} (h : pacelineref03_Insert t0 t1 w K) : Cl prog 56 #[t0, t1] w K :=
  Cl.mk (by kernel_rfl) (calls_of_F (fn := fn56) (nt := 46) (rs := [4]) mixed fnAt56 (by kernel_rfl) (by kernel_rfl) (by kernel_rfl) (Nat.le_of_ble_eq_true (by kernel_rfl)) pacelineref03_Insert_ok (pacelineref03_Insert_eq t0 t1 w K) h)

/-- cmp.Or[int] -/
def cmp_Or_int (t0 : Value) (w : World) (K : KV) : Prop :=
  lnS t0 w fun t7 w =>
  lp [(Value.int IntKind.i64 0)] w (b1 fun t8 w g1 =>
  bi .lss .i64 t8 t7 w fun t9 w =>
  iff' t9
  (ixS 1 t0 t8 w fun t10 w =>
  ld1 t10 w fun t11 w =>
  bi .neq .i64 t11 (Value.int IntKind.i64 0) w fun t14 w =>
  iff' t14
  (K t11 w)
  (bi .add .i64 t8 (Value.int IntKind.i64 1) w fun t16 w =>
  g1 [t16] w))
  (K (Value.int IntKind.i64 0) w))
theorem cmp_Or_int_eq (t0 : Value) (w : World) (K : KV) : cmp_Or_int t0 w K = fnW prog 18 [2] (match fn59.body with | some c => c | none => .skip) #[t0] w K := by kernel_rfl
theorem cmp_Or_int_ok : fnOk prog 18 [2] (match fn59.body with | some c => c | none => .skip) = true := by kernel_rfl
theorem cmp_Or_int_calls {t0 : Value} {w : World} {K : KV} (h : cmp_Or_int t0 w K) : Cl prog 59 #[t0] w K :=
  Cl.mk (by kernel_rfl) (calls_of_F (fn := fn59) (nt := 18) (rs := [2]) mixed fnAt59 (by kernel_rfl) (by kernel_rfl) (by kernel_rfl) (Nat.le_of_ble_eq_true (by kernel_rfl)) cmp_Or_int_ok (cmp_Or_int_eq t0 w K) h)

/-- cmp.Compare[int] -/
def cmp_Compare_int (t0 t1 : Value) (w : World) (K : KV) : Prop :=
  Cl prog 75 #[t0] w fun t8 w =>
  Cl prog 75 #[t1] w fun t10 w =>
  iff' t8
  (iff' t10
  (K (Value.int IntKind.i64 0) w)
  (K (Value.int IntKind.i64 (-1)) w))
  (iff' t10
  (K (Value.int IntKind.i64 1) w)
  (bi .lss .i64 t0 t1 w fun t16 w =>
  iff' t16
  (K (Value.int IntKind.i64 (-1)) w)
  (bi .gtr .i64 t0 t1 w fun t19 w =>
  iff' t19
  (K (Value.int IntKind.i64 1) w)
  (K (Value.int IntKind.i64 0) w))))
theorem cmp_Compare_int_eq (t0 t1 : Value) (w : World) (K : KV) : cmp_Compare_int t0 t1 w K = fnW prog 20 [4] (match fn60.body with | some c => c | none => .skip) #[t0, t1] w K := by kernel_rfl
theorem cmp_Compare_int_ok : fnOk prog 20 [4] (match fn60.body with | some c => c | none => .skip) = true := by kernel_rfl
theorem cmp_Compare_int_calls {t0 t1 : Value} {w : World} {K : KV} (h : cmp_Compare_int t0 t1 w K) : Cl prog 60 #[t0, t1] w K :=
  Cl.mk (by kernel_rfl) (calls_of_F (fn := fn60) (nt := 20) (rs := [4]) mixed fnAt60 (by kernel_rfl) (by kernel_rfl) (by kernel_rfl) (Nat.le_of_ble_eq_true (by kernel_rfl)) cmp_Compare_int_ok (cmp_Compare_int_eq t0 t1 w K) h)

/-- container/heap.up -/
def heap_up (t0 t1 : Value) (w : World) (K : KV) : Prop :=
  lp [t1] w (b1 fun t1_1 w g1 =>
  bi .sub .i64 t1_1 (Value.int IntKind.i64 1) w fun t6 w =>
  bi .quo .i64 t6 (Value.int IntKind.i64 2) w fun t7 w =>
  bi .eql .i64 t7 t1_1 w fun t10 w =>
  gd t10 false (fun k => k t0 w) w fun t12 w =>
  gd t10 false (fun k => k t1_1 w) w fun t13 w =>
  gd t10 false (fun k => k t7 w) w fun t14 w =>
  gd t10 false (fun k => clI prog t12 "Less" #[t13, t14] w k) w fun t15 w =>
  gd t10 false (fun k => bnot t15 w k) w fun t16 w =>
  pk t10 (Value.bool true) t16 w fun t17 w =>
  iff' t17
  (K (Value.tuple #[]) w)
  (clI prog t0 "Swap" #[t7, t1_1] w fun _ w =>
  g1 [t7] w))
theorem heap_up_eq (t0 t1 : Value) (w : World) (K : KV) : heap_up t0 t1 w K = fnW prog 23 [] (match fn61.body with | some c => c | none => .skip) #[t0, t1] w K := by kernel_rfl
theorem heap_up_ok : fnOk prog 23 [] (match fn61.body with | some c => c | none => .skip) = true := by kernel_rfl
theorem heap_up_calls {t0 t1 : Value} {w : World} {K : KV} (h : heap_up t0 t1 w K) : Cl prog 61 #[t0, t1] w K :=
  Cl.mk (by kernel_rfl) (calls_of_F (fn := fn61) (nt := 23) (rs := []) mixed fnAt61 (by kernel_rfl) (by kernel_rfl) (by kernel_rfl) (Nat.le_of_ble_eq_true (by kernel_rfl)) heap_up_ok (heap_up_eq t0 t1 w K) h)

end Go.Proofs.Ytlmakkjbcmhaeaa
