/- Printed by prt.py: the Go functions of this seat as shallow predicate transformers. Conditions: none. -/
import Derived.Test.YtlmakkjbcmhaeaaEngO
import Derived.Test.YtlmakkjbcmhaeaaPfHead
import Derived.KernelRfl
namespace Go.Proofs.Ytlmakkjbcmhaeaa
open Go Go.E
set_option linter.unusedVariables false
set_option maxRecDepth 100000
/-- container/heap.down -/
def heap_down (t0 t1 t2 : Value) (w : World) (K : KV) : Prop :=
  J1 (fun t7 w =>
  bi .gtr .i64 t7 t1 w fun t47 w =>
  K t47 w) fun k1 =>
  lp [t1] w (b1 fun t7_1 w g2 =>
  bi .mul .i64 (Value.int IntKind.i64 2) t7_1 w fun t13 w =>
  bi .add .i64 t13 (Value.int IntKind.i64 1) w fun t14 w =>
  bi .geq .i64 t14 t2 w fun t17 w =>
  gd t17 false (fun k => k t14 w) w fun t19 w =>
  gd t17 false (fun k => bi .lss .i64 t19 (Value.int IntKind.i64 0) w k) w fun t20 w =>
  pk t17 (Value.bool true) t20 w fun t21 w =>
  iff' t21
  (k1 t7_1 w)
  (bi .add .i64 t14 (Value.int IntKind.i64 1) w fun t24 w =>
  bi .lss .i64 t24 t2 w fun t27 w =>
  gd t27 true (fun k => k t0 w) w fun t29 w =>
  gd t27 true (fun k => k t24 w) w fun t30 w =>
  gd t27 true (fun k => k t14 w) w fun t31 w =>
  gd t27 true (fun k => clI prog t29 "Less" #[t30, t31] w k) w fun t32 w =>
  pk t27 t32 (Value.bool false) w fun t33 w =>
  J1 (fun t9 w =>
  clI prog t0 "Less" #[t9, t7_1] w fun t38 w =>
  bnot t38 w fun t39 w =>
  iff' t39
  (k1 t7_1 w)
  (clI prog t0 "Swap" #[t7_1, t9] w fun _ w =>
  g2 [t9] w)) fun k3 =>
  iff' t33
  (k3 t24 w)
  (k3 t14 w)))
theorem heap_down_eq (t0 t1 t2 : Value) (w : World) (K : KV) : heap_down t0 t1 t2 w K = fnW prog 48 [6] (match fn62.body with | some c => c | none => .skip) #[t0, t1, t2] w K := by kernel_rfl
theorem heap_down_ok : fnOk prog 48 [6] (match fn62.body with | some c => c | none => .skip) = true := by kernel_rfl
theorem heap_down_calls {t0 t1 t2 : Value} {w : World} {K : KV} (h : heap_down t0 t1 t2 w K) : Cl prog 62 #[t0, t1, t2] w K :=
  Cl.mk (by kernel_rfl) (calls_of_F (fn := fn62) (nt := 48) (rs := [6]) mixed fnAt62 (by kernel_rfl) (by kernel_rfl) (by kernel_rfl) (Nat.le_of_ble_eq_true (by kernel_rfl)) heap_down_ok (heap_down_eq t0 t1 t2 w K) h)

/-- paceline/pacelineref01.Cmp -/
def pacelineref01_Cmp (t0 t1 : Value) (w : World) (K : KV) : Prop :=
  al (Value.cells t0) 30 w fun t2 w =>
  al (Value.cells t1) 30 w fun t3 w =>
  ldN 3 t2 w fun t5 w =>
  ldN 3 t3 w fun t6 w =>
  bO prog .eql 30 (Operand.tmp 5) (Operand.tmp 6) t5 t6 w fun t7 w =>
  iff' t7
  (K (Value.int IntKind.i64 0) w)
  (fld 0 t2 w fun t8 w =>
  ld1 t8 w fun t9 w =>
  fld 0 t3 w fun t10 w =>
  ld1 t10 w fun t11 w =>
  bi .lss .i64 t9 t11 w fun t12 w =>
  gd t12 false (fun k => fld 0 t2 w k) w fun t14 w =>
  gd t12 false (fun k => ld1 t14 w k) w fun t15 w =>
  gd t12 false (fun k => fld 0 t3 w k) w fun t16 w =>
  gd t12 false (fun k => ld1 t16 w k) w fun t17 w =>
  gd t12 false (fun k => bi .eql .i64 t15 t17 w k) w fun t18 w =>
  gd t12 false (fun k => k t18 w) w fun t19 w =>
  gd t19 true (fun k => fld 1 t2 w k) w fun t20 w =>
  gd t19 true (fun k => ld1 t20 w k) w fun t21 w =>
  gd t19 true (fun k => fld 1 t3 w k) w fun t22 w =>
  gd t19 true (fun k => ld1 t22 w k) w fun t23 w =>
  gd t19 true (fun k => bi .lss .i64 t21 t23 w k) w fun t24 w =>
  gd t12 false (fun k => pk t19 t24 (Value.bool false) w k) w fun t25 w =>
  pk t12 (Value.bool true) t25 w fun t26 w =>
  gd t26 false (fun k => fld 0 t2 w k) w fun t28 w =>
  gd t26 false (fun k => ld1 t28 w k) w fun t29 w =>
  gd t26 false (fun k => fld 0 t3 w k) w fun t30 w =>
  gd t26 false (fun k => ld1 t30 w k) w fun t31 w =>
  gd t26 false (fun k => bi .eql .i64 t29 t31 w k) w fun t32 w =>
  gd t26 false (fun k => k t32 w) w fun t33 w =>
  gd t33 true (fun k => fld 1 t2 w k) w fun t34 w =>
  gd t33 true (fun k => ld1 t34 w k) w fun t35 w =>
  gd t33 true (fun k => fld 1 t3 w k) w fun t36 w =>
  gd t33 true (fun k => ld1 t36 w k) w fun t37 w =>
  gd t33 true (fun k => bi .eql .i64 t35 t37 w k) w fun t38 w =>
  gd t26 false (fun k => pk t33 t38 (Value.bool false) w k) w fun t39 w =>
  gd t26 false (fun k => k t39 w) w fun t40 w =>
  gd t40 true (fun k => fld 2 t2 w k) w fun t41 w =>
  gd t40 true (fun k => ld1 t41 w k) w fun t42 w =>
  gd t40 true (fun k => fld 2 t3 w k) w fun t43 w =>
  gd t40 true (fun k => ld1 t43 w k) w fun t44 w =>
  gd t40 true (fun k => bi .lss .i64 t42 t44 w k) w fun t45 w =>
  gd t26 false (fun k => pk t40 t45 (Value.bool false) w k) w fun t46 w =>
  pk t26 (Value.bool true) t46 w fun t47 w =>
  iff' t47
  (K (Value.int IntKind.i64 (-1)) w)
  (K (Value.int IntKind.i64 1) w))
theorem pacelineref01_Cmp_eq (t0 t1 : Value) (w : World) (K : KV) : pacelineref01_Cmp t0 t1 w K = fnW prog 48 [4] (match fn64.body with | some c => c | none => .skip) #[t0, t1] w K := by kernel_rfl
theorem pacelineref01_Cmp_ok : fnOk prog 48 [4] (match fn64.body with | some c => c | none => .skip) = true := by kernel_rfl
theorem pacelineref01_Cmp_calls {t0 t1 : Value} {w : World} {K : KV} (h : pacelineref01_Cmp t0 t1 w K) : Cl prog 64 #[t0, t1] w K :=
  Cl.mk (by kernel_rfl) (calls_of_F (fn := fn64) (nt := 48) (rs := [4]) mixed fnAt64 (by kernel_rfl) (by kernel_rfl) (by kernel_rfl) (Nat.le_of_ble_eq_true (by kernel_rfl)) pacelineref01_Cmp_ok (pacelineref01_Cmp_eq t0 t1 w K) h)

/-- cmp.isNaN[int] -/
def cmp_isNaN_int (t0 : Value) (w : World) (K : KV) : Prop :=
  bi .neq .i64 t0 t0 w fun t5 w =>
  K t5 w
theorem cmp_isNaN_int_eq (t0 : Value) (w : World) (K : KV) : cmp_isNaN_int t0 w K = fnW prog 6 [2] (match fn75.body with | some c => c | none => .skip) #[t0] w K := by kernel_rfl
theorem cmp_isNaN_int_ok : fnOk prog 6 [2] (match fn75.body with | some c => c | none => .skip) = true := by kernel_rfl
theorem cmp_isNaN_int_calls {t0 : Value} {w : World} {K : KV} (h : cmp_isNaN_int t0 w K) : Cl prog 75 #[t0] w K :=
  Cl.mk (by kernel_rfl) (calls_of_F (fn := fn75) (nt := 6) (rs := [2]) mixed fnAt75 (by kernel_rfl) (by kernel_rfl) (by kernel_rfl) (Nat.le_of_ble_eq_true (by kernel_rfl)) cmp_isNaN_int_ok (cmp_isNaN_int_eq t0 w K) h)

/-- (paceline/prio.faced).Len -/
def prio_faced_Len (t0 : Value) (w : World) (K : KV) : Prop :=
  al (Value.cells t0) 80 w fun t1 w =>
  fld 0 t1 w fun t3 w =>
  ld1 t3 w fun t4 w =>
  ncP t4 <|
  fld 1 t4 w fun t6 w =>
  ld1 t6 w fun t7 w =>
  lnS t7 w fun t8 w =>
  K t8 w
theorem prio_faced_Len_eq (t0 : Value) (w : World) (K : KV) : prio_faced_Len t0 w K = fnW prog 9 [2] (match fn100.body with | some c => c | none => .skip) #[t0] w K := by kernel_rfl
theorem prio_faced_Len_ok : fnOk prog 9 [2] (match fn100.body with | some c => c | none => .skip) = true := by kernel_rfl
theorem prio_faced_Len_calls {t0 : Value} {w : World} {K : KV} (h : prio_faced_Len t0 w K) : Cl prog 100 #[t0] w K :=
  Cl.mk (by kernel_rfl) (calls_of_F (fn := fn100) (nt := 9) (rs := [2]) mixed fnAt100 (by kernel_rfl) (by kernel_rfl) (by kernel_rfl) (Nat.le_of_ble_eq_true (by kernel_rfl)) prio_faced_Len_ok (prio_faced_Len_eq t0 w K) h)

/-- (paceline/prio.faced).Less -/
def prio_faced_Less (t0 t1 t2 : Value) (w : World) (K : KV) : Prop :=
  al (Value.cells t0) 80 w fun t3 w =>
  dr w fun w =>
  fld 0 t3 w fun t7 _ =>
  ld1 t7 w fun t8 _ =>
  ncP t8 <|
  fld 1 t8 w fun t10 _ =>
  ld1 t10 w fun t11 _ =>
  ixS 6 t11 t1 w fun t13 _ =>
  fld 0 t13 w fun t14 _ =>
  ldN 3 t14 w fun t15 _ =>
  fld 0 t3 w fun t16 _ =>
  ld1 t16 w fun t17 _ =>
  ncP t17 <|
  fld 1 t17 w fun t19 _ =>
  ld1 t19 w fun t20 _ =>
  ixS 6 t20 t2 w fun t22 _ =>
  fld 0 t22 w fun t23 _ =>
  ldN 3 t23 w fun t24 _ =>
  Cl prog 45 #[t15, t24] w fun t25 w =>
  bi .lss .i64 t25 (Value.int IntKind.i64 0) w fun t26 _ =>
  K t26 w
theorem prio_faced_Less_eq (t0 t1 t2 : Value) (w : World) (K : KV) : prio_faced_Less t0 t1 t2 w K = fnW prog 27 [6] (match fn101.body with | some c => c | none => .skip) #[t0, t1, t2] w K := by kernel_rfl
theorem prio_faced_Less_ok : fnOk prog 27 [6] (match fn101.body with | some c => c | none => .skip) = true := by kernel_rfl
theorem prio_faced_Less_calls {t0 t1 t2 : Value} {w : World} {K : KV} (h : prio_faced_Less t0 t1 t2 w K) : Cl prog 101 #[t0, t1, t2] w K :=
  Cl.mk (by kernel_rfl) (calls_of_F (fn := fn101) (nt := 27) (rs := [6]) mixed fnAt101 (by kernel_rfl) (by kernel_rfl) (by kernel_rfl) (Nat.le_of_ble_eq_true (by kernel_rfl)) prio_faced_Less_ok (prio_faced_Less_eq t0 t1 t2 w K) h)

/-- (paceline/prio.faced).Pop -/
def prio_faced_Pop (t0 : Value) (w : World) (K : KV) : Prop :=
  al (Value.cells t0) 80 w fun t1 w =>
  fld 0 t1 w fun t5 w =>
  ld1 t5 w fun t6 w =>
  ncP t6 <|
  fld 1 t6 w fun t8 w =>
  ld1 t8 w fun t9 w =>
  lnS t9 w fun t10 w =>
  bi .sub .i64 t10 (Value.int IntKind.i64 1) w fun t11 w =>
  fld 0 t1 w fun t12 w =>
  ld1 t12 w fun t13 w =>
  ncP t13 <|
  fld 1 t13 w fun t15 w =>
  ld1 t15 w fun t16 w =>
  ixS 6 t16 t11 w fun t18 w =>
  ldN 6 t18 w fun t19 w =>
  al (zeroD prog 32) 32 w fun t4 w =>
  stN 6 t4 t19 w fun _ w =>
  dr w fun w =>
  fld 0 t1 w fun t20 _ =>
  ld1 t20 w fun t21 _ =>
  fld 0 t1 w fun t22 _ =>
  ld1 t22 w fun t23 _ =>
  ncP t23 <|
  fld 1 t23 w fun t25 _ =>
  ld1 t25 w fun t26 _ =>
  slc 6 t26 none (some t11) w fun t28 _ =>
  ncP t21 <|
  fld 1 t21 w fun t30 _ =>
  stN 1 t30 t28 w fun _ w =>
  dr w fun w =>
  fld 0 t1 w fun t31 _ =>
  ld1 t31 w fun t32 _ =>
  ncP t32 <|
  fld 2 t32 w fun t34 _ =>
  ld1 t34 w fun t35 _ =>
  fld 0 t4 w fun t36 _ =>
  ldN 3 t36 w fun t37 _ =>
  dlM prog #[75, 30] 0 t35 t37 w fun _ w =>
  ldN 6 t4 w fun t38 w =>
  K (Value.iface 32 t38) w
theorem prio_faced_Pop_eq (t0 : Value) (w : World) (K : KV) : prio_faced_Pop t0 w K = fnW prog 40 [2] (match fn102.body with | some c => c | none => .skip) #[t0] w K := by kernel_rfl
theorem prio_faced_Pop_ok : fnOk prog 40 [2] (match fn102.body with | some c => c | none => .skip) = true := by kernel_rfl
theorem prio_faced_Pop_calls {t0 : Value} {w : World} {K : KV} (h : prio_faced_Pop t0 w K) : Cl prog 102 #[t0] w K :=
  Cl.mk (by kernel_rfl) (calls_of_F (fn := fn102) (nt := 40) (rs := [2]) mixed fnAt102 (by kernel_rfl) (by kernel_rfl) (by kernel_rfl) (Nat.le_of_ble_eq_true (by kernel_rfl)) prio_faced_Pop_ok (prio_faced_Pop_eq t0 w K) h)

end Go.Proofs.Ytlmakkjbcmhaeaa
