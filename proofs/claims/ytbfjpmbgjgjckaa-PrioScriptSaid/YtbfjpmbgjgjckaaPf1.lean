/- Printed by prt.py: the Go functions of this seat as shallow predicate transformers. Conditions: none. -/
import Derived.Test.YtbfjpmbgjgjckaaEngO
import Derived.Test.YtbfjpmbgjgjckaaPfHead
import Derived.KernelRfl
namespace Go.Proofs.Ytbfjpmbgjgjckaa
open Go Go.E
set_option linter.unusedVariables false
set_option maxRecDepth 100000
/-- (*paceline/prio.Queue).Push -/
def prio_Queue_Push (t0 t1 : Value) (w : World) (K : KV) : Prop :=
  al (Value.cells t1) 30 w fun t3 w =>
  dr w fun w =>
  ncP t0 <|
  fld 2 t0 w fun t10 _ =>
  ld1 t10 w fun t11 _ =>
  fld 0 t3 w fun t12 _ =>
  ldN 3 t12 w fun t13 _ =>
  lkM prog 51 t11 t13 true w fun t14 w =>
  xt 0 t14 w fun _ _ =>
  xt 1 t14 w fun t16 _ =>
  iff' t16
  (K (Value.int IntKind.i64 3) w)
  (dr w fun w =>
  ncP t0 <|
  fld 1 t0 w fun t20 _ =>
  ld1 t20 w fun t21 _ =>
  lnS t21 w fun t22 _ =>
  ncP t0 <|
  fld 0 t0 w fun t25 _ =>
  ld1 t25 w fun t26 _ =>
  bi .geq .i64 t22 t26 w fun t27 _ =>
  iff' t27
  (K (Value.int IntKind.i64 2) w)
  (bld (zeroD prog 57) #[(0, 1)] [(0, t0)] w fun t29 w =>
  ldN 6 t3 w fun t31 w =>
  Cl prog 28 #[(Value.iface 57 t29), (Value.iface 30 t31)] w fun _ w =>
  K (Value.int IntKind.i64 0) w))
theorem prio_Queue_Push_eq (t0 t1 : Value) (w : World) (K : KV) : prio_Queue_Push t0 t1 w K = fnW prog 34 [4] (match fn9.body with | some c => c | none => .skip) #[t0, t1] w K := by kernel_rfl
theorem prio_Queue_Push_ok : fnOk prog 34 [4] (match fn9.body with | some c => c | none => .skip) = true := by kernel_rfl
theorem prio_Queue_Push_calls {t0 t1 : Value} {w : World} {K : KV} (h : prio_Queue_Push t0 t1 w K) : Cl prog 9 #[t0, t1] w K :=
  Cl.mk (by kernel_rfl) (calls_of_F (fn := fn9) (nt := 34) (rs := [4]) mixed fnAt9 (by kernel_rfl) (by kernel_rfl) (by kernel_rfl) (Nat.le_of_ble_eq_true (by kernel_rfl)) prio_Queue_Push_ok (prio_Queue_Push_eq t0 t1 w K) h)

/-- (*paceline/prio.Queue).Len -/
def prio_Queue_Len (t0 : Value) (w : World) (K : KV) : Prop :=
  ncP t0 <|
  fld 1 t0 w fun t5 w =>
  ld1 t5 w fun t6 w =>
  lnS t6 w fun t7 w =>
  K t7 w
theorem prio_Queue_Len_eq (t0 : Value) (w : World) (K : KV) : prio_Queue_Len t0 w K = fnW prog 8 [2] (match fn10.body with | some c => c | none => .skip) #[t0] w K := by kernel_rfl
theorem prio_Queue_Len_ok : fnOk prog 8 [2] (match fn10.body with | some c => c | none => .skip) = true := by kernel_rfl
theorem prio_Queue_Len_calls {t0 : Value} {w : World} {K : KV} (h : prio_Queue_Len t0 w K) : Cl prog 10 #[t0] w K :=
  Cl.mk (by kernel_rfl) (calls_of_F (fn := fn10) (nt := 8) (rs := [2]) mixed fnAt10 (by kernel_rfl) (by kernel_rfl) (by kernel_rfl) (Nat.le_of_ble_eq_true (by kernel_rfl)) prio_Queue_Len_ok (prio_Queue_Len_eq t0 w K) h)

/-- (*paceline/prio.Queue).First -/
def prio_Queue_First (t0 : Value) (w : World) (K : KV) : Prop :=
  al (zeroD prog 30) 30 w fun t2 w =>
  ncP t0 <|
  fld 1 t0 w fun t6 w =>
  ld1 t6 w fun t7 w =>
  lnS t7 w fun t8 w =>
  bi .eql .i64 t8 (Value.int IntKind.i64 0) w fun t9 w =>
  iff' t9
  (bld (zeroD prog 30) #[(0, 3), (3, 1), (4, 1), (5, 1)] [] w fun t10 w =>
  stN 6 t2 t10 w fun _ w =>
  ldN 6 t2 w fun r0 _ =>
  K (Value.tuple #[r0, (Value.bool false)]) w)
  (ncP t0 <|
  fld 1 t0 w fun t13 w =>
  ld1 t13 w fun t14 w =>
  ixS 6 t14 (Value.int IntKind.i64 0) w fun t15 w =>
  ldN 6 t15 w fun t16 w =>
  stN 6 t2 t16 w fun _ w =>
  ldN 6 t2 w fun r0 _ =>
  K (Value.tuple #[r0, (Value.bool true)]) w)
theorem prio_Queue_First_eq (t0 : Value) (w : World) (K : KV) : prio_Queue_First t0 w K = fnWC prog 17 [(2, some 30), (3, none)] (match fn11.body with | some c => c | none => .skip) #[t0] w K := by kernel_rfl
theorem prio_Queue_First_ok : fnOkC prog 17 [(2, some 30), (3, none)] (match fn11.body with | some c => c | none => .skip) = true := by kernel_rfl
theorem prio_Queue_First_calls {t0 : Value} {w : World} {K : KV} (h : prio_Queue_First t0 w K) : Cl prog 11 #[t0] w K :=
  Cl.mk (by kernel_rfl) (calls_of_FC (fn := fn11) (nt := 17) (rs := [(2, some 30), (3, none)]) mixed fnAt11 (by kernel_rfl) (by kernel_rfl) (by kernel_rfl) (Nat.le_of_ble_eq_true (by kernel_rfl)) prio_Queue_First_ok (prio_Queue_First_eq t0 w K) h)

/-- (*paceline/prio.Queue).List -/
def prio_Queue_List (t0 : Value) (w : World) (K : KV) : Prop :=
  ncP t0 <|
  fld 1 t0 w fun t6 w =>
  ld1 t6 w fun t7 w =>
  Cl prog 29 #[t7] w fun t8 w =>
  Cl prog 30 #[t8, (Value.func (.func 31) #[] #[])] w fun _ w =>
  K t8 w
theorem prio_Queue_List_eq (t0 : Value) (w : World) (K : KV) : prio_Queue_List t0 w K = fnW prog 12 [2] (match fn12.body with | some c => c | none => .skip) #[t0] w K := by kernel_rfl
theorem prio_Queue_List_ok : fnOk prog 12 [2] (match fn12.body with | some c => c | none => .skip) = true := by kernel_rfl
theorem prio_Queue_List_calls {t0 : Value} {w : World} {K : KV} (h : prio_Queue_List t0 w K) : Cl prog 12 #[t0] w K :=
  Cl.mk (by kernel_rfl) (calls_of_F (fn := fn12) (nt := 12) (rs := [2]) mixed fnAt12 (by kernel_rfl) (by kernel_rfl) (by kernel_rfl) (Nat.le_of_ble_eq_true (by kernel_rfl)) prio_Queue_List_ok (prio_Queue_List_eq t0 w K) h)

/-- (*paceline/prio.Queue).Below -/
def prio_Queue_Below (t0 t1 : Value) (w : World) (K : KV) : Prop :=
  al (Value.cells t1) 3 w fun t3 w =>
  Cl prog 12 #[t0] w fun t6 w =>
  Cl prog 33 #[t6, (Value.func (Fn.func 34) #[] #[t3])] w fun t8 w =>
  K t8 w
theorem prio_Queue_Below_eq (t0 t1 : Value) (w : World) (K : KV) : prio_Queue_Below t0 t1 w K = fnW prog 9 [4] (match fn13.body with | some c => c | none => .skip) #[t0, t1] w K := by kernel_rfl
theorem prio_Queue_Below_ok : fnOk prog 9 [4] (match fn13.body with | some c => c | none => .skip) = true := by kernel_rfl
theorem prio_Queue_Below_calls {t0 t1 : Value} {w : World} {K : KV} (h : prio_Queue_Below t0 t1 w K) : Cl prog 13 #[t0, t1] w K :=
  Cl.mk (by kernel_rfl) (calls_of_F (fn := fn13) (nt := 9) (rs := [4]) mixed fnAt13 (by kernel_rfl) (by kernel_rfl) (by kernel_rfl) (Nat.le_of_ble_eq_true (by kernel_rfl)) prio_Queue_Below_ok (prio_Queue_Below_eq t0 t1 w K) h)

/-- paceline/pacelineref01.Cmp -/
def pacelineref01_Cmp (t0 t1 : Value) (w : World) (K : KV) : Prop :=
  al (Value.cells t0) 28 w fun t2 w =>
  al (Value.cells t1) 28 w fun t3 w =>
  ldN 3 t2 w fun t5 w =>
  ldN 3 t3 w fun t6 w =>
  bO prog .eql 28 (Operand.tmp 5) (Operand.tmp 6) t5 t6 w fun t7 w =>
  iff' t7
  (K (Value.int IntKind.i64 0) w)
  (fld 0 t2 w fun t8 w =>
  ld1 t8 w fun t9 w =>
  fld 0 t3 w fun t10 w =>
  ld1 t10 w fun t11 w =>
  bi .lss .i64 t9 t11 w fun t12 w =>
  gd t12 false (fun k => fld 0 t2 w k) w fun t14 w =>
  gd t12 false (fun k => ld1 t14 w k) w fun t15 w =>
  gd t12 false (fun k => fld 0 t3 w k) w fun t16 w =>
  gd t12 false (fun k => ld1 t16 w k) w fun t17 w =>
  gd t12 false (fun k => bi .eql .i64 t15 t17 w k) w fun t18 w =>
  gd t12 false (fun k => k t18 w) w fun t19 w =>
  gd t19 true (fun k => fld 1 t2 w k) w fun t20 w =>
  gd t19 true (fun k => ld1 t20 w k) w fun t21 w =>
  gd t19 true (fun k => fld 1 t3 w k) w fun t22 w =>
  gd t19 true (fun k => ld1 t22 w k) w fun t23 w =>
  gd t19 true (fun k => bi .lss .i64 t21 t23 w k) w fun t24 w =>
  gd t12 false (fun k => pk t19 t24 (Value.bool false) w k) w fun t25 w =>
  pk t12 (Value.bool true) t25 w fun t26 w =>
  gd t26 false (fun k => fld 0 t2 w k) w fun t28 w =>
  gd t26 false (fun k => ld1 t28 w k) w fun t29 w =>
  gd t26 false (fun k => fld 0 t3 w k) w fun t30 w =>
  gd t26 false (fun k => ld1 t30 w k) w fun t31 w =>
  gd t26 false (fun k => bi .eql .i64 t29 t31 w k) w fun t32 w =>
  gd t26 false (fun k => k t32 w) w fun t33 w =>
  gd t33 true (fun k => fld 1 t2 w k) w fun t34 w =>
  gd t33 true (fun k => ld1 t34 w k) w fun t35 w =>
  gd t33 true (fun k => fld 1 t3 w k) w fun t36 w =>
  gd t33 true (fun k => ld1 t36 w k) w fun t37 w =>
  gd t33 true (fun k => bi .eql .i64 t35 t37 w k) w fun t38 w =>
  gd t26 false (fun k => pk t33 t38 (Value.bool false) w k) w fun t39 w =>
  gd t26 false (fun k => k t39 w) w fun t40 w =>
  gd t40 true (fun k => fld 2 t2 w k) w fun t41 w =>
  gd t40 true (fun k => ld1 t41 w k) w fun t42 w =>
  gd t40 true (fun k => fld 2 t3 w k) w fun t43 w =>
  gd t40 true (fun k => ld1 t43 w k) w fun t44 w =>
  gd t40 true (fun k => bi .lss .i64 t42 t44 w k) w fun t45 w =>
  gd t26 false (fun k => pk t40 t45 (Value.bool false) w k) w fun t46 w =>
  pk t26 (Value.bool true) t46 w fun t47 w =>
  iff' t47
  (K (Value.int IntKind.i64 (-1)) w)
  (K (Value.int IntKind.i64 1) w))
theorem pacelineref01_Cmp_eq (t0 t1 : Value) (w : World) (K : KV) : pacelineref01_Cmp t0 t1 w K = fnW prog 48 [4] (match fn14.body with | some c => c | none => .skip) #[t0, t1] w K := by kernel_rfl
theorem pacelineref01_Cmp_ok : fnOk prog 48 [4] (match fn14.body with | some c => c | none => .skip) = true := by kernel_rfl
theorem pacelineref01_Cmp_calls {t0 t1 : Value} {w : World} {K : KV} (h : pacelineref01_Cmp t0 t1 w K) : Cl prog 14 #[t0, t1] w K :=
  Cl.mk (by kernel_rfl) (calls_of_F (fn := fn14) (nt := 48) (rs := [4]) mixed fnAt14 (by kernel_rfl) (by kernel_rfl) (by kernel_rfl) (Nat.le_of_ble_eq_true (by kernel_rfl)) pacelineref01_Cmp_ok (pacelineref01_Cmp_eq t0 t1 w K) h)

end Go.Proofs.Ytbfjpmbgjgjckaa
