/- Printed by prt.py: the Go functions of this seat as shallow predicate transformers. Conditions: none. -/
import Derived.Test.YtlmakkjbcmhaeaaEngO
import Derived.Test.YtlmakkjbcmhaeaaPfHead
import Derived.KernelRfl
namespace Go.Proofs.Ytlmakkjbcmhaeaa
open Go Go.E
set_option linter.unusedVariables false
set_option maxRecDepth 100000
/-- (*paceline/calendar.Queue).Push -/
def calendar_Queue_Push (t0 t1 : Value) (w : World) (K : KV) : Prop :=
  al (Value.cells t1) 32 w fun t3 w =>
  fld 0 t3 w fun t8 w =>
  fld 0 t8 w fun t9 w =>
  ld1 t9 w fun t10 w =>
  Cl prog 33 #[t10] w fun t11 w =>
  bnot t11 w fun t12 w =>
  iff' t12
  (K (Value.int IntKind.i64 1) w)
  (fld 0 t3 w fun t14 w =>
  fld 0 t14 w fun t15 w =>
  ld1 t15 w fun t16 w =>
  Cl prog 34 #[t0, t16] w fun t17 w =>
  dr w fun w =>
  ncP t17 <|
  ld1 t17 w fun t21 _ =>
  fld 0 t3 w fun t22 _ =>
  ldN 3 t22 w fun t23 _ =>
  Cl prog 35 #[t21, t23] w fun t24 w =>
  xt 0 t24 w fun t25 _ =>
  xt 1 t24 w fun t26 _ =>
  iff' t26
  (K (Value.int IntKind.i64 3) w)
  (dr w fun w =>
  ncP t0 <|
  fld 2 t0 w fun t32 _ =>
  ld1 t32 w fun t33 _ =>
  ncP t0 <|
  fld 0 t0 w fun t36 _ =>
  ld1 t36 w fun t37 _ =>
  bi .geq .i64 t33 t37 w fun t38 _ =>
  iff' t38
  (K (Value.int IntKind.i64 2) w)
  (dr w fun w =>
  ncP t17 <|
  ld1 t17 w fun t42 _ =>
  ldN 6 t3 w fun t44 _ =>
  bsl 32 6 1 (zeroD prog 32) [(0, t44)] w fun t45 w =>
  (ld1 t17 w (fun v' w'' => v' = t42 ∧ w'' = w)) ∧ (Cl prog 36 #[t42, t25, t45] w fun t46 w =>
  ncP t17 <|
  stN 1 t17 t46 w fun _ w =>
  ncP t0 <|
  fld 2 t0 w fun t50 w =>
  ld1 t50 w fun t51 w =>
  bi .add .i64 t51 (Value.int IntKind.i64 1) w fun t52 w =>
  ncP t0 <|
  fld 2 t0 w fun t54 w =>
  stN 1 t54 t52 w fun _ w =>
  K (Value.int IntKind.i64 0) w))))
theorem calendar_Queue_Push_eq (t0 t1 : Value) (w : World) (K : KV) : calendar_Queue_Push t0 t1 w K = fnW prog 55 [4] (match fn9.body with | some c => c | none => .skip) #[t0, t1] w K := by kernel_rfl
theorem calendar_Queue_Push_ok : fnOk prog 55 [4] (match fn9.body with | some c => c | none => .skip) = true := by kernel_rfl
theorem calendar_Queue_Push_calls {t0 t1 : Value} {w : World} {K : KV} (h : calendar_Queue_Push t0 t1 w K) : Cl prog 9 #[t0, t1] w K :=
  Cl.mk (by kernel_rfl) (calls_of_F (fn := fn9) (nt := 55) (rs := [4]) mixed fnAt9 (by kernel_rfl) (by kernel_rfl) (by kernel_rfl) (Nat.le_of_ble_eq_true (by kernel_rfl)) calendar_Queue_Push_ok (calendar_Queue_Push_eq t0 t1 w K) h)

/-- (*paceline/calendar.Queue).Days -/
def calendar_Queue_Days (t0 : Value) (w : World) (K : KV) : Prop :=
  ncP t0 <|
  fld 3 t0 w fun t8 w =>
  ldN 8 t8 w fun t9 w =>
  lp [(Value.slice none 0 0), (Value.int IntKind.i64 0)] w (b2 fun t3 t10 w g1 =>
  bi .lss .i64 t10 (Value.int IntKind.i64 8) w fun t11 w =>
  iff' t11
  (ixV prog 56 t9 t10 w fun t12 w =>
  lnS t12 w fun t15 w =>
  bsl 3 1 1 (zeroD prog 3) [(0, t15)] w fun t16 w =>
  apS prog #[26, 26] 26 t3 t16 w fun t17 w =>
  bi .add .i64 t10 (Value.int IntKind.i64 1) w fun t18 w =>
  g1 [t17, t18] w)
  (K t3 w))
theorem calendar_Queue_Days_eq (t0 : Value) (w : World) (K : KV) : calendar_Queue_Days t0 w K = fnW prog 20 [2] (match fn10.body with | some c => c | none => .skip) #[t0] w K := by kernel_rfl
theorem calendar_Queue_Days_ok : fnOk prog 20 [2] (match fn10.body with | some c => c | none => .skip) = true := by kernel_rfl
theorem calendar_Queue_Days_calls {t0 : Value} {w : World} {K : KV} (h : calendar_Queue_Days t0 w K) : Cl prog 10 #[t0] w K :=
  Cl.mk (by kernel_rfl) (calls_of_F (fn := fn10) (nt := 20) (rs := [2]) mixed fnAt10 (by kernel_rfl) (by kernel_rfl) (by kernel_rfl) (Nat.le_of_ble_eq_true (by kernel_rfl)) calendar_Queue_Days_ok (calendar_Queue_Days_eq t0 w K) h)

/-- (*paceline/calendar.Queue).Len -/
def calendar_Queue_Len (t0 : Value) (w : World) (K : KV) : Prop :=
  ncP t0 <|
  fld 2 t0 w fun t5 w =>
  ld1 t5 w fun t6 w =>
  K t6 w
theorem calendar_Queue_Len_eq (t0 : Value) (w : World) (K : KV) : calendar_Queue_Len t0 w K = fnW prog 7 [2] (match fn11.body with | some c => c | none => .skip) #[t0] w K := by kernel_rfl
theorem calendar_Queue_Len_ok : fnOk prog 7 [2] (match fn11.body with | some c => c | none => .skip) = true := by kernel_rfl
theorem calendar_Queue_Len_calls {t0 : Value} {w : World} {K : KV} (h : calendar_Queue_Len t0 w K) : Cl prog 11 #[t0] w K :=
  Cl.mk (by kernel_rfl) (calls_of_F (fn := fn11) (nt := 7) (rs := [2]) mixed fnAt11 (by kernel_rfl) (by kernel_rfl) (by kernel_rfl) (Nat.le_of_ble_eq_true (by kernel_rfl)) calendar_Queue_Len_ok (calendar_Queue_Len_eq t0 w K) h)

/-- paceline/pacelineref04.New -/
def pacelineref04_New (t0 t1 : Value) (w : World) (K : KV) : Prop :=
  Cl prog 37 #[t0] w fun t6 w =>
  mnI .i64 t1 (Value.int IntKind.i64 1048576) w fun t8 w =>
  mxI .i64 (Value.int IntKind.i64 1) t8 w fun t9 w =>
  bld (zeroD prog 43) #[(0, 1), (1, 1)] [(0, t6), (1, t9)] w fun t10 w =>
  al (Value.cells t10) 43 w fun t11 w =>
  K t11 w
theorem pacelineref04_New_eq (t0 t1 : Value) (w : World) (K : KV) : pacelineref04_New t0 t1 w K = fnW prog 12 [4] (match fn12.body with | some c => c | none => .skip) #[t0, t1] w K := by kernel_rfl
theorem pacelineref04_New_ok : fnOk prog 12 [4] (match fn12.body with | some c => c | none => .skip) = true := by kernel_rfl
theorem pacelineref04_New_calls {t0 t1 : Value} {w : World} {K : KV} (h : pacelineref04_New t0 t1 w K) : Cl prog 12 #[t0, t1] w K :=
  Cl.mk (by kernel_rfl) (calls_of_F (fn := fn12) (nt := 12) (rs := [4]) mixed fnAt12 (by kernel_rfl) (by kernel_rfl) (by kernel_rfl) (Nat.le_of_ble_eq_true (by kernel_rfl)) pacelineref04_New_ok (pacelineref04_New_eq t0 t1 w K) h)

/-- (*paceline/pacelineref04.Queue).Push -/
def pacelineref04_Queue_Push (t0 t1 : Value) (w : World) (K : KV) : Prop :=
  al (Value.cells t1) 32 w fun t3 w =>
  fld 0 t3 w fun t5 w =>
  fld 0 t5 w fun t6 w =>
  ld1 t6 w fun t7 w =>
  Cl prog 38 #[t7] w fun t8 w =>
  bnot t8 w fun t9 w =>
  iff' t9
  (K (Value.int IntKind.i64 1) w)
  (dr w fun w =>
  ncP t0 <|
  fld 0 t0 w fun t12 _ =>
  ld1 t12 w fun t13 _ =>
  ldN 6 t3 w fun t14 _ =>
  Cl prog 39 #[t13, t14] w fun t15 w =>
  K t15 w)
theorem pacelineref04_Queue_Push_eq (t0 t1 : Value) (w : World) (K : KV) : pacelineref04_Queue_Push t0 t1 w K = fnW prog 16 [4] (match fn13.body with | some c => c | none => .skip) #[t0, t1] w K := by kernel_rfl
theorem pacelineref04_Queue_Push_ok : fnOk prog 16 [4] (match fn13.body with | some c => c | none => .skip) = true := by kernel_rfl
theorem pacelineref04_Queue_Push_calls {t0 t1 : Value} {w : World} {K : KV} (h : pacelineref04_Queue_Push t0 t1 w K) : Cl prog 13 #[t0, t1] w K :=
  Cl.mk (by kernel_rfl) (calls_of_F (fn := fn13) (nt := 16) (rs := [4]) mixed fnAt13 (by kernel_rfl) (by kernel_rfl) (by kernel_rfl) (Nat.le_of_ble_eq_true (by kernel_rfl)) pacelineref04_Queue_Push_ok (pacelineref04_Queue_Push_eq t0 t1 w K) h)

/-- (*paceline/calendar.Queue).Remove -/
def calendar_Queue_Remove (t0 t1 : Value) (w : World) (K : KV) : Prop :=
  al (Value.cells t1) 30 w fun t3 w =>
  al (zeroD prog 32) 32 w fun t4 w =>
  fld 0 t3 w fun t10 w =>
  ld1 t10 w fun t11 w =>
  Cl prog 33 #[t11] w fun t12 w =>
  bnot t12 w fun t13 w =>
  iff' t13
  (bld (zeroD prog 32) #[(0, 3), (3, 1), (4, 1), (5, 1)] [] w fun t14 w =>
  stN 6 t4 t14 w fun _ w =>
  ldN 6 t4 w fun r0 _ =>
  K (Value.tuple #[r0, (Value.bool false)]) w)
  (fld 0 t3 w fun t16 w =>
  ld1 t16 w fun t17 w =>
  Cl prog 34 #[t0, t17] w fun t18 w =>
  dr w fun w =>
  ncP t18 <|
  ld1 t18 w fun t22 _ =>
  ldN 3 t3 w fun t23 _ =>
  Cl prog 35 #[t22, t23] w fun t24 w =>
  xt 0 t24 w fun t25 _ =>
  xt 1 t24 w fun t26 _ =>
  bnot t26 w fun t28 w =>
  iff' t28
  (bld (zeroD prog 32) #[(0, 3), (3, 1), (4, 1), (5, 1)] [] w fun t29 w =>
  stN 6 t4 t29 w fun _ w =>
  ldN 6 t4 w fun r0 _ =>
  K (Value.tuple #[r0, (Value.bool false)]) w)
  (ncP t18 <|
  ld1 t18 w fun t32 w =>
  ixS 6 t32 t25 w fun t34 w =>
  ldN 6 t34 w fun t35 w =>
  al (zeroD prog 32) 32 w fun t9 w =>
  stN 6 t9 t35 w fun _ w =>
  ncP t18 <|
  ld1 t18 w fun t39 w =>
  bi .add .i64 t25 (Value.int IntKind.i64 1) w fun t42 w =>
  Cl prog 40 #[t39, t25, t42] w fun t43 w =>
  ncP t18 <|
  stN 1 t18 t43 w fun _ w =>
  ncP t0 <|
  fld 2 t0 w fun t47 w =>
  ld1 t47 w fun t48 w =>
  bi .sub .i64 t48 (Value.int IntKind.i64 1) w fun t49 w =>
  ncP t0 <|
  fld 2 t0 w fun t51 w =>
  stN 1 t51 t49 w fun _ w =>
  ldN 6 t9 w fun t52 w =>
  stN 6 t4 t52 w fun _ w =>
  ldN 6 t4 w fun r0 _ =>
  K (Value.tuple #[r0, (Value.bool true)]) w))
theorem calendar_Queue_Remove_eq (t0 t1 : Value) (w : World) (K : KV) : calendar_Queue_Remove t0 t1 w K = fnWC prog 53 [(4, some 32), (5, none)] (match fn14.body with | some c => c | none => .skip) #[t0, t1] w K := by kernel_rfl
theorem calendar_Queue_Remove_ok : fnOkC prog 53 [(4, some 32), (5, none)] (match fn14.body with | some c => c | none => .skip) = true := by kernel_rfl
theorem calendar_Queue_Remove_calls {t0 t1 : Value} {w : World} {K : KV} (h : calendar_Queue_Remove t0 t1 w K) : Cl prog 14 #[t0, t1] w K :=
  Cl.mk (by kernel_rfl) (calls_of_FC (fn := fn14) (nt := 53) (rs := [(4, some 32), (5, none)]) mixed fnAt14 (by kernel_rfl) (by kernel_rfl) (by kernel_rfl) (Nat.le_of_ble_eq_true (by kernel_rfl)) calendar_Queue_Remove_ok (calendar_Queue_Remove_eq t0 t1 w K) h)

end Go.Proofs.Ytlmakkjbcmhaeaa
