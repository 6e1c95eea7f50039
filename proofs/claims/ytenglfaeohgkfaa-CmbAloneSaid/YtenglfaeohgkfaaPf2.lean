/- Printed by prt.py: the Go functions of this seat as shallow predicate transformers. Conditions: none. -/
import Derived.Test.YtenglfaeohgkfaaEngO
import Derived.Test.YtenglfaeohgkfaaEngZ
import Derived.Test.YtenglfaeohgkfaaPfHead
import Derived.KernelRfl
namespace Go.Proofs.Ytenglfaeohgkfaa
open Go Go.E
set_option linter.unusedVariables false
set_option maxRecDepth 100000
/-- paceline/vtime.Least -/
def vtime_Least (t0 : Value) (w : World) (K : KV) : Prop :=
  lnS t0 w fun t7 w =>
  lp [(Value.int IntKind.i64 1125899906842624), (Value.int IntKind.i64 0)] w (b2 fun t3 t8 w g1 =>
  bi .lss .i64 t8 t7 w fun t9 w =>
  iff' t9
  (ixS 1 t0 t8 w fun t10 w =>
  ld1 t10 w fun t11 w =>
  Cl prog 72 #[t11] w fun t14 w =>
  mnI .i64 t3 t14 w fun t15 w =>
  bi .add .i64 t8 (Value.int IntKind.i64 1) w fun t16 w =>
  g1 [t15, t16] w)
  (K t3 w))
theorem vtime_Least_eq (t0 : Value) (w : World) (K : KV) : vtime_Least t0 w K = fnW prog 18 [2] (match fn51.body with | some c => c | none => .skip) #[t0] w K := by kernel_rfl
theorem vtime_Least_ok : fnOk prog 18 [2] (match fn51.body with | some c => c | none => .skip) = true := by kernel_rfl
theorem vtime_Least_calls {t0 : Value} {w : World} {K : KV} (h : vtime_Least t0 w K) : Cl prog 51 #[t0] w K :=
  Cl.mk (by kernel_rfl) (calls_of_F (fn := fn51) (nt := 18) (rs := [2]) mixed fnAt51 (by kernel_rfl) (by kernel_rfl) (by kernel_rfl) (Nat.le_of_ble_eq_true (by kernel_rfl)) vtime_Least_ok (vtime_Least_eq t0 w K) h)

/-- slices.Clone[[]paceline/api.Msg,paceline/api.Msg] -/
def slices_Clone_api_Msg_api_Msg (t0 : Value) (w : World) (K : KV) : Prop :=
  bO prog .eql 52 (Operand.tmp 3) (Operand.const (Value.slice none 0 0)) t0 (Value.slice none 0 0) w fun t4 w =>
  iff' t4
  (K (Value.slice none 0 0) w)
  (bsl 36 6 0 #[] [] w fun t5 w =>
  apS prog #[52, 52] 52 t5 t0 w fun t7 w =>
  K t7 w)
theorem slices_Clone_api_Msg_api_Msg_eq (t0 : Value) (w : World) (K : KV) : slices_Clone_api_Msg_api_Msg t0 w K = fnW prog 8 [2] (match fn52.body with | some c => c | none => .skip) #[t0] w K := by kernel_rfl
theorem slices_Clone_api_Msg_api_Msg_ok : fnOk prog 8 [2] (match fn52.body with | some c => c | none => .skip) = true := by kernel_rfl
theorem slices_Clone_api_Msg_api_Msg_calls {t0 : Value} {w : World} {K : KV} (h : slices_Clone_api_Msg_api_Msg t0 w K) : Cl prog 52 #[t0] w K :=
  Cl.mk (by kernel_rfl) (calls_of_F (fn := fn52) (nt := 8) (rs := [2]) mixed fnAt52 (by kernel_rfl) (by kernel_rfl) (by kernel_rfl) (Nat.le_of_ble_eq_true (by kernel_rfl)) slices_Clone_api_Msg_api_Msg_ok (slices_Clone_api_Msg_api_Msg_eq t0 w K) h)

/-- (*paceline/prio.Queue).List$1 -/
def prio_Queue_List_1 (t0 t1 : Value) (w : World) (K : KV) : Prop :=
  al (Value.cells t0) 36 w fun t2 w =>
  al (Value.cells t1) 36 w fun t3 w =>
  fld 0 t2 w fun t5 w =>
  ldN 3 t5 w fun t6 w =>
  fld 0 t3 w fun t7 w =>
  ldN 3 t7 w fun t8 w =>
  Cl prog 55 #[t6, t8] w fun t9 w =>
  K t9 w
theorem prio_Queue_List_1_eq (t0 t1 : Value) (w : World) (K : KV) : prio_Queue_List_1 t0 t1 w K = fnW prog 10 [4] (match fn54.body with | some c => c | none => .skip) #[t0, t1] w K := by kernel_rfl
theorem prio_Queue_List_1_ok : fnOk prog 10 [4] (match fn54.body with | some c => c | none => .skip) = true := by kernel_rfl
theorem prio_Queue_List_1_calls {t0 t1 : Value} {w : World} {K : KV} (h : prio_Queue_List_1 t0 t1 w K) : Cl prog 54 #[t0, t1] w K :=
  Cl.mk (by kernel_rfl) (calls_of_F (fn := fn54) (nt := 10) (rs := [4]) mixed fnAt54 (by kernel_rfl) (by kernel_rfl) (by kernel_rfl) (Nat.le_of_ble_eq_true (by kernel_rfl)) prio_Queue_List_1_ok (prio_Queue_List_1_eq t0 t1 w K) h)

/-- paceline/vtime.Cmp -/
def vtime_Cmp (t0 t1 : Value) (w : World) (K : KV) : Prop :=
  al (Value.cells t0) 34 w fun t2 w =>
  al (Value.cells t1) 34 w fun t3 w =>
  dr w fun w =>
  fld 0 t2 w fun t5 _ =>
  ld1 t5 w fun t6 _ =>
  fld 0 t3 w fun t7 _ =>
  ld1 t7 w fun t8 _ =>
  fld 1 t2 w fun t10 _ =>
  ld1 t10 w fun t11 _ =>
  fld 1 t3 w fun t12 _ =>
  ld1 t12 w fun t13 _ =>
  fld 2 t2 w fun t15 _ =>
  ld1 t15 w fun t16 _ =>
  fld 2 t3 w fun t17 _ =>
  ld1 t17 w fun t18 _ =>
  Cl prog 76 #[t6, t8] w fun t9 w =>
  (ld1 t17 w (fun v' w'' => v' = t18 ∧ w'' = w)) ∧ ((ld1 t15 w (fun v' w'' => v' = t16 ∧ w'' = w)) ∧ ((ld1 t12 w (fun v' w'' => v' = t13 ∧ w'' = w)) ∧ ((ld1 t10 w (fun v' w'' => v' = t11 ∧ w'' = w)) ∧ (Cl prog 76 #[t11, t13] w fun t14 w =>
  (ld1 t17 w (fun v' w'' => v' = t18 ∧ w'' = w)) ∧ ((ld1 t15 w (fun v' w'' => v' = t16 ∧ w'' = w)) ∧ (Cl prog 76 #[t16, t18] w fun t19 w =>
  bsl 3 1 3 (zeroD prog 3) [(0, t9), (1, t14), (2, t19)] w fun t20 w =>
  Cl prog 75 #[t20] w fun t21 w =>
  K t21 w))))))
theorem vtime_Cmp_eq (t0 t1 : Value) (w : World) (K : KV) : vtime_Cmp t0 t1 w K = fnW prog 22 [4] (match fn55.body with | some c => c | none => .skip) #[t0, t1] w K := by kernel_rfl
theorem vtime_Cmp_ok : fnOk prog 22 [4] (match fn55.body with | some c => c | none => .skip) = true := by kernel_rfl
theorem vtime_Cmp_calls {t0 t1 : Value} {w : World} {K : KV} (h : vtime_Cmp t0 t1 w K) : Cl prog 55 #[t0, t1] w K :=
  Cl.mk (by kernel_rfl) (calls_of_F (fn := fn55) (nt := 22) (rs := [4]) mixed fnAt55 (by kernel_rfl) (by kernel_rfl) (by kernel_rfl) (Nat.le_of_ble_eq_true (by kernel_rfl)) vtime_Cmp_ok (vtime_Cmp_eq t0 t1 w K) h)

/-- paceline/config.unless$1 -/
def config_unless_1 (t0 t1 : Value) (w : World) (K : KV) : Prop :=
  ld1 t0 w fun t3 w =>
  iff' t3
  (K (Value.int IntKind.i64 0) w)
  (ld1 t1 w fun t4 w =>
  K t4 w)
theorem config_unless_1_eq (t0 t1 : Value) (w : World) (K : KV) : config_unless_1 t0 t1 w K = fnW prog 5 [2] (match fn56.body with | some c => c | none => .skip) #[t0, t1] w K := by kernel_rfl
theorem config_unless_1_ok : fnOk prog 5 [2] (match fn56.body with | some c => c | none => .skip) = true := by kernel_rfl
theorem config_unless_1_calls {t0 t1 : Value} {w : World} {K : KV} (h : config_unless_1 t0 t1 w K) : Cl prog 56 #[t0, t1] w K :=
  Cl.mk (by kernel_rfl) (calls_of_F (fn := fn56) (nt := 5) (rs := [2]) mixed fnAt56 (by kernel_rfl) (by kernel_rfl) (by kernel_rfl) (Nat.le_of_ble_eq_true (by kernel_rfl)) config_unless_1_ok (config_unless_1_eq t0 t1 w K) h)

/-- paceline/config.fed$1 -/
def config_fed_1 (t0 t1 : Value) (w : World) (K : KV) : Prop :=
  lnS t0 w fun t8 w =>
  lp [(Value.int IntKind.i64 (-1)), (Value.int IntKind.i64 0)] w (b2 fun t4 t9 w g1 =>
  bi .lss .i64 t9 t8 w fun t10 w =>
  iff' t10
  (ixS 1 t0 t9 w fun t11 w =>
  ld1 t11 w fun t12 w =>
  bi .leq .i64 t12 t4 w fun t15 w =>
  gd t15 false (fun k => k t12 w) w fun t17 w =>
  gd t15 false (fun k => ld1 t1 w k) w fun t18 w =>
  gd t15 false (fun k => bi .geq .i64 t17 t18 w k) w fun t19 w =>
  pk t15 (Value.bool true) t19 w fun t20 w =>
  iff' t20
  (K (Value.bool false) w)
  (bi .add .i64 t9 (Value.int IntKind.i64 1) w fun t22 w =>
  g1 [t12, t22] w))
  (K (Value.bool true) w))
theorem config_fed_1_eq (t0 t1 : Value) (w : World) (K : KV) : config_fed_1 t0 t1 w K = fnW prog 23 [3] (match fn57.body with | some c => c | none => .skip) #[t0, t1] w K := by kernel_rfl
theorem config_fed_1_ok : fnOk prog 23 [3] (match fn57.body with | some c => c | none => .skip) = true := by kernel_rfl
theorem config_fed_1_calls {t0 t1 : Value} {w : World} {K : KV} (h : config_fed_1 t0 t1 w K) : Cl prog 57 #[t0, t1] w K :=
  Cl.mk (by kernel_rfl) (calls_of_F (fn := fn57) (nt := 23) (rs := [3]) mixed fnAt57 (by kernel_rfl) (by kernel_rfl) (by kernel_rfl) (Nat.le_of_ble_eq_true (by kernel_rfl)) config_fed_1_ok (config_fed_1_eq t0 t1 w K) h)

/-- paceline/config.fed$2 -/
def config_fed_2 (t0 t1 : Value) (w : World) (K : KV) : Prop :=
  fld 3 t0 w fun t8 w =>
  ld1 t8 w fun t9 w =>
  lnS t9 w fun t10 w =>
  lp [(Value.int IntKind.i64 0)] w (b1 fun t11 w g1 =>
  bi .lss .i64 t11 t10 w fun t12 w =>
  iff' t12
  (ixS 4 t9 t11 w fun t13 w =>
  ldN 4 t13 w fun t14 w =>
  al (zeroD prog 77) 77 w fun t4 w =>
  stN 4 t4 t14 w fun _ w =>
  fld 1 t4 w fun t15 w =>
  ld1 t15 w fun t16 w =>
  ld1 t1 w fun t17 w =>
  bi .geq .i64 t16 t17 w fun t18 w =>
  iff' t18
  (K (Value.int IntKind.i64 81) w)
  (fld 3 t4 w fun t19 w =>
  ld1 t19 w fun t20 w =>
  lnS t20 w fun t21 w =>
  lp [(Value.int IntKind.i64 0)] w (b1 fun t22 w g2 =>
  bi .lss .i64 t22 t21 w fun t23 w =>
  iff' t23
  (ixS 3 t20 t22 w fun t24 w =>
  ldN 3 t24 w fun t25 w =>
  al (zeroD prog 75) 75 w fun t6 w =>
  stN 3 t6 t25 w fun _ w =>
  dr w fun w =>
  fld 4 t0 w fun t26 _ =>
  ld1 t26 w fun t27 _ =>
  fld 0 t6 w fun t28 _ =>
  ld1 t28 w fun t29 _ =>
  fld 1 t6 w fun t32 _ =>
  ld1 t32 w fun t33 _ =>
  fld 1 t0 w fun t34 _ =>
  ld1 t34 w fun t35 _ =>
  bi .geq .i64 t33 t35 w fun t36 _ =>
  Cl prog 59 #[t27, t29] w fun t30 w =>
  (ld1 t34 w (fun v' w'' => v' = t35 ∧ w'' = w)) ∧ ((ld1 t32 w (fun v' w'' => v' = t33 ∧ w'' = w)) ∧ (Cl prog 36 #[t30, (Value.int IntKind.i64 81)] w fun t31 w =>
  (ld1 t34 w (fun v' w'' => v' = t35 ∧ w'' = w)) ∧ ((ld1 t32 w (fun v' w'' => v' = t33 ∧ w'' = w)) ∧ (Cl prog 36 #[t36, (Value.int IntKind.i64 80)] w fun t37 w =>
  bsl 94 1 2 (zeroD prog 94) [(0, t31), (1, t37)] w fun t38 w =>
  Cl prog 33 #[t38] w fun t39 w =>
  bi .neq .i64 t39 (Value.int IntKind.i64 0) w fun t41 w =>
  iff' t41
  (K t39 w)
  (bi .add .i64 t22 (Value.int IntKind.i64 1) w fun t43 w =>
  g2 [t43] w))))))
  (bi .add .i64 t11 (Value.int IntKind.i64 1) w fun t44 w =>
  g1 [t44] w))))
  (K (Value.int IntKind.i64 0) w))
theorem config_fed_2_eq (t0 t1 : Value) (w : World) (K : KV) : config_fed_2 t0 t1 w K = fnW prog 45 [2] (match fn58.body with | some c => c | none => .skip) #[t0, t1] w K := by kernel_rfl
theorem config_fed_2_ok : fnOk prog 45 [2] (match fn58.body with | some c => c | none => .skip) = true := by kernel_rfl
theorem config_fed_2_calls {t0 t1 : Value} {w : World} {K : KV} (h : config_fed_2 t0 t1 w K) : Cl prog 58 #[t0, t1] w K :=
  Cl.mk (by kernel_rfl) (calls_of_F (fn := fn58) (nt := 45) (rs := [2]) mixed fnAt58 (by kernel_rfl) (by kernel_rfl) (by kernel_rfl) (Nat.le_of_ble_eq_true (by kernel_rfl)) config_fed_2_ok (config_fed_2_eq t0 t1 w K) h)

/-- slices.Contains[[]int,int] -/
def slices_Contains_int_int (t0 t1 : Value) (w : World) (K : KV) : Prop :=
  Cl prog 77 #[t0, t1] w fun t7 w =>
  bi .geq .i64 t7 (Value.int IntKind.i64 0) w fun t8 w =>
  K t8 w
theorem slices_Contains_int_int_eq (t0 t1 : Value) (w : World) (K : KV) : slices_Contains_int_int t0 t1 w K = fnW prog 9 [4] (match fn59.body with | some c => c | none => .skip) #[t0, t1] w K := by kernel_rfl
theorem slices_Contains_int_int_ok : fnOk prog 9 [4] (match fn59.body with | some c => c | none => .skip) = true := by kernel_rfl
theorem slices_Contains_int_int_calls {t0 t1 : Value} {w : World} {K : KV} (h : slices_Contains_int_int t0 t1 w K) : Cl prog 59 #[t0, t1] w K :=
  Cl.mk (by kernel_rfl) (calls_of_F (fn := fn59) (nt := 9) (rs := [4]) mixed fnAt59 (by kernel_rfl) (by kernel_rfl) (by kernel_rfl) (Nat.le_of_ble_eq_true (by kernel_rfl)) slices_Contains_int_int_ok (slices_Contains_int_int_eq t0 t1 w K) h)

/-- paceline/config.fed$3 -/
def config_fed_3 (t0 t1 : Value) (w : World) (K : KV) : Prop :=
  al (Value.cells t0) 75 w fun t2 w =>
  fld 4 t1 w fun t4 w =>
  ld1 t4 w fun t5 w =>
  fld 0 t2 w fun t6 w =>
  ld1 t6 w fun t7 w =>
  Cl prog 59 #[t5, t7] w fun t8 w =>
  bnot t8 w fun t9 w =>
  gd t9 false (fun k => fld 1 t2 w k) w fun t11 w =>
  gd t9 false (fun k => ld1 t11 w k) w fun t12 w =>
  gd t9 false (fun k => Cl prog 37 #[t12, (Value.int IntKind.i64 0), (Value.int IntKind.i64 1099511627776)] w k) w fun t13 w =>
  gd t9 false (fun k => bnot t13 w k) w fun t14 w =>
  pk t9 (Value.bool true) t14 w fun t15 w =>
  gd t15 false (fun k => fld 2 t2 w k) w fun t17 w =>
  gd t15 false (fun k => ld1 t17 w k) w fun t18 w =>
  gd t15 false (fun k => Cl prog 37 #[t18, (Value.int IntKind.i64 0), (Value.int IntKind.i64 999)] w k) w fun t19 w =>
  gd t15 false (fun k => bnot t19 w k) w fun t20 w =>
  pk t15 (Value.bool true) t20 w fun t21 w =>
  K t21 w
theorem config_fed_3_eq (t0 t1 : Value) (w : World) (K : KV) : config_fed_3 t0 t1 w K = fnW prog 22 [3] (match fn60.body with | some c => c | none => .skip) #[t0, t1] w K := by kernel_rfl
theorem config_fed_3_ok : fnOk prog 22 [3] (match fn60.body with | some c => c | none => .skip) = true := by kernel_rfl
theorem config_fed_3_calls {t0 t1 : Value} {w : World} {K : KV} (h : config_fed_3 t0 t1 w K) : Cl prog 60 #[t0, t1] w K :=
  Cl.mk (by kernel_rfl) (calls_of_F (fn := fn60) (nt := 22) (rs := [3]) mixed fnAt60 (by kernel_rfl) (by kernel_rfl) (by kernel_rfl) (Nat.le_of_ble_eq_true (by kernel_rfl)) config_fed_3_ok (config_fed_3_eq t0 t1 w K) h)

/-- paceline/config.fed$4 -/
def config_fed_4 (t0 : Value) (w : World) (K : KV) : Prop :=
  fld 3 t0 w fun t2 w =>
  ld1 t2 w fun t3 w =>
  Cl prog 62 #[t3] w fun t4 w =>
  K t4 w
theorem config_fed_4_eq (t0 : Value) (w : World) (K : KV) : config_fed_4 t0 w K = fnW prog 5 [1] (match fn61.body with | some c => c | none => .skip) #[t0] w K := by kernel_rfl
theorem config_fed_4_ok : fnOk prog 5 [1] (match fn61.body with | some c => c | none => .skip) = true := by kernel_rfl
theorem config_fed_4_calls {t0 : Value} {w : World} {K : KV} (h : config_fed_4 t0 w K) : Cl prog 61 #[t0] w K :=
  Cl.mk (by kernel_rfl) (calls_of_F (fn := fn61) (nt := 5) (rs := [1]) mixed fnAt61 (by kernel_rfl) (by kernel_rfl) (by kernel_rfl) (Nat.le_of_ble_eq_true (by kernel_rfl)) config_fed_4_ok (config_fed_4_eq t0 w K) h)

/-- paceline/table.Check -/
def table_Check (t0 : Value) (w : World) (K : KV) : Prop :=
  lnS t0 w fun t9 w =>
  bi .gtr .i64 t9 (Value.int IntKind.i64 32) w fun t10 w =>
  iff' t10
  (K (Value.int IntKind.i64 70) w)
  (mkMap w fun t11 w =>
  lnS t0 w fun t13 w =>
  lp [(Value.int IntKind.i64 0)] w (b1 fun t14 w g1 =>
  bi .lss .i64 t14 t13 w fun t15 w =>
  iff' t15
  (ixS 4 t0 t14 w fun t16 w =>
  ldN 4 t16 w fun t17 w =>
  al (zeroD prog 77) 77 w fun t5 w =>
  stN 4 t5 t17 w fun _ w =>
  fld 0 t5 w fun t18 w =>
  ld1 t18 w fun t19 w =>
  fld 1 t5 w fun t20 w =>
  ld1 t20 w fun t21 w =>
  bld (zeroD prog 143) #[(0, 1), (1, 1)] [(0, t19), (1, t21)] w fun t22 w =>
  al (zeroD prog 143) 143 w fun t6 w =>
  stN 2 t6 t22 w fun _ w =>
  ldN 2 t6 w fun t24 w =>
  lkM prog 141 t11 t24 false w fun t25 w =>
  gd t25 false (fun k => fld 0 t5 w k) w fun t27 w =>
  gd t25 false (fun k => ld1 t27 w k) w fun t28 w =>
  gd t25 false (fun k => Cl prog 79 #[t28, (Value.int IntKind.i64 8)] w k) w fun t29 w =>
  gd t25 false (fun k => bnot t29 w k) w fun t30 w =>
  pk t25 (Value.bool true) t30 w fun t31 w =>
  gd t31 false (fun k => fld 2 t5 w k) w fun t33 w =>
  gd t31 false (fun k => ld1 t33 w k) w fun t34 w =>
  gd t31 false (fun k => Cl prog 79 #[t34, (Value.int IntKind.i64 8)] w k) w fun t35 w =>
  gd t31 false (fun k => bnot t35 w k) w fun t36 w =>
  pk t31 (Value.bool true) t36 w fun t37 w =>
  gd t37 false (fun k => fld 1 t5 w k) w fun t39 w =>
  gd t37 false (fun k => ld1 t39 w k) w fun t40 w =>
  gd t37 false (fun k => Cl prog 79 #[t40, (Value.int IntKind.i64 16)] w k) w fun t41 w =>
  gd t37 false (fun k => bnot t41 w k) w fun t42 w =>
  pk t37 (Value.bool true) t42 w fun t43 w =>
  gd t43 false (fun k => fld 3 t5 w k) w fun t45 w =>
  gd t43 false (fun k => ld1 t45 w k) w fun t46 w =>
  gd t43 false (fun k => lnS t46 w k) w fun t47 w =>
  gd t43 false (fun k => bi .gtr .i64 t47 (Value.int IntKind.i64 3) w k) w fun t48 w =>
  pk t43 (Value.bool true) t48 w fun t49 w =>
  gd t49 false (fun k => fld 3 t5 w k) w fun t51 w =>
  gd t49 false (fun k => ld1 t51 w k) w fun t52 w =>
  gd t49 false (fun k => k (Value.func (.func 78) #[] #[]) w) w fun t53 w =>
  gd t49 false (fun k => Cl prog 63 #[t52, t53] w k) w fun t54 w =>
  pk t49 (Value.bool true) t54 w fun t55 w =>
  iff' t55
  (K (Value.int IntKind.i64 70) w)
  (ldN 2 t6 w fun t57 w =>
  upM prog 141 t11 t57 (Value.bool true) w fun _ w =>
  bi .add .i64 t14 (Value.int IntKind.i64 1) w fun t58 w =>
  g1 [t58] w))
  (K (Value.int IntKind.i64 0) w)))
theorem table_Check_eq (t0 : Value) (w : World) (K : KV) : table_Check t0 w K = fnW prog 59 [2] (match fn62.body with | some c => c | none => .skip) #[t0] w K := by kernel_rfl
theorem table_Check_ok : fnOk prog 59 [2] (match fn62.body with | some c => c | none => .skip) = true := by kernel_rfl
theorem table_Check_calls {t0 : Value} {w : World} {K : KV} (h : table_Check t0 w K) : Cl prog 62 #[t0] w K :=
  Cl.mk (by kernel_rfl) (calls_of_F (fn := fn62) (nt := 59) (rs := [2]) mixed fnAt62 (by kernel_rfl) (by kernel_rfl) (by kernel_rfl) (Nat.le_of_ble_eq_true (by kernel_rfl)) table_Check_ok (table_Check_eq t0 w K) h)

/-- slices.ContainsFunc[[]paceline/api.Out,paceline/api.Out] -/
def slices_ContainsFunc_api_Out_api_Out (t0 t1 : Value) (w : World) (K : KV) : Prop :=
  Cl prog 80 #[t0, t1] w fun t7 w =>
  bi .geq .i64 t7 (Value.int IntKind.i64 0) w fun t8 w =>
  K t8 w
theorem slices_ContainsFunc_api_Out_api_Out_eq (t0 t1 : Value) (w : World) (K : KV) : slices_ContainsFunc_api_Out_api_Out t0 t1 w K = fnW prog 9 [4] (match fn63.body with | some c => c | none => .skip) #[t0, t1] w K := by kernel_rfl
theorem slices_ContainsFunc_api_Out_api_Out_ok : fnOk prog 9 [4] (match fn63.body with | some c => c | none => .skip) = true := by kernel_rfl
theorem slices_ContainsFunc_api_Out_api_Out_calls {t0 t1 : Value} {w : World} {K : KV} (h : slices_ContainsFunc_api_Out_api_Out t0 t1 w K) : Cl prog 63 #[t0, t1] w K :=
  Cl.mk (by kernel_rfl) (calls_of_F (fn := fn63) (nt := 9) (rs := [4]) mixed fnAt63 (by kernel_rfl) (by kernel_rfl) (by kernel_rfl) (Nat.le_of_ble_eq_true (by kernel_rfl)) slices_ContainsFunc_api_Out_api_Out_ok (slices_ContainsFunc_api_Out_api_Out_eq t0 t1 w K) h)

/-- container/heap.up -/
def heap_up (t0 t1 : Value) (w : World) (K : KV) : Prop :=
  lp [t1] w (b1 fun t1_1 w g1 =>
  bi .sub .i64 t1_1 (Value.int IntKind.i64 1) w fun t6 w =>
  bi .quo .i64 t6 (Value.int IntKind.i64 2) w fun t7 w =>
  bi .eql .i64 t7 t1_1 w fun t10 w =>
  gd t10 false (fun k => k t0 w) w fun t12 w =>
  gd t10 false (fun k => k t1_1 w) w fun t13 w =>
  gd t10 false (fun k => k t7 w) w fun t14 w =>
  gd t10 false (fun k => clI prog t12 "Less" #[t13, t14] w k) w fun t15 w =>
  gd t10 false (fun k => bnot t15 w k) w fun t16 w =>
  pk t10 (Value.bool true) t16 w fun t17 w =>
  iff' t17
  (K (Value.tuple #[]) w)
  (clI prog t0 "Swap" #[t7, t1_1] w fun _ w =>
  g1 [t7] w))
theorem heap_up_eq (t0 t1 : Value) (w : World) (K : KV) : heap_up t0 t1 w K = fnW prog 23 [] (match fn64.body with | some c => c | none => .skip) #[t0, t1] w K := by kernel_rfl
theorem heap_up_ok : fnOk prog 23 [] (match fn64.body with | some c => c | none => .skip) = true := by kernel_rfl
theorem heap_up_calls {t0 t1 : Value} {w : World} {K : KV} (h : heap_up t0 t1 w K) : Cl prog 64 #[t0, t1] w K :=
  Cl.mk (by kernel_rfl) (calls_of_F (fn := fn64) (nt := 23) (rs := []) mixed fnAt64 (by kernel_rfl) (by kernel_rfl) (by kernel_rfl) (Nat.le_of_ble_eq_true (by kernel_rfl)) heap_up_ok (heap_up_eq t0 t1 w K) h)

/-- container/heap.down -/
def heap_down (t0 t1 t2 : Value) (w : World) (K : KV) : Prop :=
  J1 (fun t7 w =>
  bi .gtr .i64 t7 t1 w fun t47 w =>
  K t47 w) fun k1 =>
  lp [t1] w (b1 fun t7_1 w g2 =>
  bi .mul .i64 (Value.int IntKind.i64 2) t7_1 w fun t13 w =>
  bi .add .i64 t13 (Value.int IntKind.i64 1) w fun t14 w =>
  bi .geq .i64 t14 t2 w fun t17 w =>
  gd t17 false (fun k => k t14 w) w fun t19 w =>
  gd t17 false (fun k => bi .lss .i64 t19 (Value.int IntKind.i64 0) w k) w fun t20 w =>
  pk t17 (Value.bool true) t20 w fun t21 w =>
  iff' t21
  (k1 t7_1 w)
  (bi .add .i64 t14 (Value.int IntKind.i64 1) w fun t24 w =>
  bi .lss .i64 t24 t2 w fun t27 w =>
  gd t27 true (fun k => k t0 w) w fun t29 w =>
  gd t27 true (fun k => k t24 w) w fun t30 w =>
  gd t27 true (fun k => k t14 w) w fun t31 w =>
  gd t27 true (fun k => clI prog t29 "Less" #[t30, t31] w k) w fun t32 w =>
  pk t27 t32 (Value.bool false) w fun t33 w =>
  J1 (fun t9 w =>
  clI prog t0 "Less" #[t9, t7_1] w fun t38 w =>
  bnot t38 w fun t39 w =>
  iff' t39
  (k1 t7_1 w)
  (clI prog t0 "Swap" #[t7_1, t9] w fun _ w =>
  g2 [t9] w)) fun k3 =>
  iff' t33
  (k3 t24 w)
  (k3 t14 w)))
theorem heap_down_eq (t0 t1 t2 : Value) (w : World) (K : KV) : heap_down t0 t1 t2 w K = fnW prog 48 [6] (match fn65.body with | some c => c | none => .skip) #[t0, t1, t2] w K := by kernel_rfl
theorem heap_down_ok : fnOk prog 48 [6] (match fn65.body with | some c => c | none => .skip) = true := by kernel_rfl
theorem heap_down_calls {t0 t1 t2 : Value} {w : World} {K : KV} (h : heap_down t0 t1 t2 w K) : Cl prog 65 #[t0, t1, t2] w K :=
  Cl.mk (by kernel_rfl) (calls_of_F (fn := fn65) (nt := 48) (rs := [6]) mixed fnAt65 (by kernel_rfl) (by kernel_rfl) (by kernel_rfl) (Nat.le_of_ble_eq_true (by kernel_rfl)) heap_down_ok (heap_down_eq t0 t1 t2 w K) h)

/-- slices.IndexFunc[[]paceline/api.Rule,paceline/api.Rule] -/
def slices_IndexFunc_api_Rule_api_Rule (t0 t1 : Value) (w : World) (K : KV) : Prop :=
  lnS t0 w fun t7 w =>
  lp [(Value.int IntKind.i64 0)] w (b1 fun t8 w g1 =>
  bi .lss .i64 t8 t7 w fun t9 w =>
  iff' t9
  (ixS 4 t0 t8 w fun t14 w =>
  ldN 4 t14 w fun t15 w =>
  clV prog t1 #[t15] w fun t16 w =>
  iff' t16
  (K t8 w)
  (bi .add .i64 t8 (Value.int IntKind.i64 1) w fun t18 w =>
  g1 [t18] w))
  (K (Value.int IntKind.i64 (-1)) w))
theorem slices_IndexFunc_api_Rule_api_Rule_eq (t0 t1 : Value) (w : World) (K : KV) : slices_IndexFunc_api_Rule_api_Rule t0 t1 w K = fnW prog 19 [4] (match fn66.body with | some c => c | none => .skip) #[t0, t1] w K := by kernel_rfl
theorem slices_IndexFunc_api_Rule_api_Rule_ok : fnOk prog 19 [4] (match fn66.body with | some c => c | none => .skip) = true := by kernel_rfl
theorem slices_IndexFunc_api_Rule_api_Rule_calls {t0 t1 : Value} {w : World} {K : KV} (h : slices_IndexFunc_api_Rule_api_Rule t0 t1 w K) : Cl prog 66 #[t0, t1] w K :=
  Cl.mk (by kernel_rfl) (calls_of_F (fn := fn66) (nt := 19) (rs := [4]) mixed fnAt66 (by kernel_rfl) (by kernel_rfl) (by kernel_rfl) (Nat.le_of_ble_eq_true (by kernel_rfl)) slices_IndexFunc_api_Rule_api_Rule_ok (slices_IndexFunc_api_Rule_api_Rule_eq t0 t1 w K) h)

/-- paceline/table.Find$1 -/
def table_Find_1 (t0 t1 t2 : Value) (w : World) (K : KV) : Prop :=
  al (Value.cells t0) 77 w fun t3 w =>
  fld 0 t3 w fun t5 w =>
  ld1 t5 w fun t6 w =>
  ld1 t1 w fun t7 w =>
  bi .eql .i64 t6 t7 w fun t8 w =>
  gd t8 true (fun k => fld 1 t3 w k) w fun t10 w =>
  gd t8 true (fun k => ld1 t10 w k) w fun t11 w =>
  gd t8 true (fun k => ld1 t2 w k) w fun t12 w =>
  gd t8 true (fun k => bi .eql .i64 t11 t12 w k) w fun t13 w =>
  pk t8 t13 (Value.bool false) w fun t14 w =>
  K t14 w
theorem table_Find_1_eq (t0 t1 t2 : Value) (w : World) (K : KV) : table_Find_1 t0 t1 t2 w K = fnW prog 15 [4] (match fn67.body with | some c => c | none => .skip) #[t0, t1, t2] w K := by kernel_rfl
theorem table_Find_1_ok : fnOk prog 15 [4] (match fn67.body with | some c => c | none => .skip) = true := by kernel_rfl
theorem table_Find_1_calls {t0 t1 t2 : Value} {w : World} {K : KV} (h : table_Find_1 t0 t1 t2 w K) : Cl prog 67 #[t0, t1, t2] w K :=
  Cl.mk (by kernel_rfl) (calls_of_F (fn := fn67) (nt := 15) (rs := [4]) mixed fnAt67 (by kernel_rfl) (by kernel_rfl) (by kernel_rfl) (Nat.le_of_ble_eq_true (by kernel_rfl)) table_Find_1_ok (table_Find_1_eq t0 t1 t2 w K) h)

/-- paceline/table.modulo -/
def table_modulo (t0 : Value) (w : World) (K : KV) : Prop :=
  bi .rem .i64 t0 (Value.int IntKind.i64 1000) w fun t4 w =>
  bi .lss .i64 t4 (Value.int IntKind.i64 0) w fun t6 w =>
  J1 (fun t0_1 w =>
  K t0_1 w) fun k1 =>
  iff' t6
  (bi .add .i64 t4 (Value.int IntKind.i64 1000) w fun t8 w =>
  k1 t8 w)
  (k1 t4 w)
theorem table_modulo_eq (t0 : Value) (w : World) (K : KV) : table_modulo t0 w K = fnW prog 10 [2] (match fn68.body with | some c => c | none => .skip) #[t0] w K := by kernel_rfl
theorem table_modulo_ok : fnOk prog 10 [2] (match fn68.body with | some c => c | none => .skip) = true := by kernel_rfl
theorem table_modulo_calls {t0 : Value} {w : World} {K : KV} (h : table_modulo t0 w K) : Cl prog 68 #[t0] w K :=
  Cl.mk (by kernel_rfl) (calls_of_F (fn := fn68) (nt := 10) (rs := [2]) mixed fnAt68 (by kernel_rfl) (by kernel_rfl) (by kernel_rfl) (Nat.le_of_ble_eq_true (by kernel_rfl)) table_modulo_ok (table_modulo_eq t0 w K) h)

/-- slices.ContainsFunc[[]int,int] -/
def slices_ContainsFunc_int_int (t0 t1 : Value) (w : World) (K : KV) : Prop :=
  Cl prog 81 #[t0, t1] w fun t7 w =>
  bi .geq .i64 t7 (Value.int IntKind.i64 0) w fun t8 w =>
  K t8 w
theorem slices_ContainsFunc_int_int_eq (t0 t1 : Value) (w : World) (K : KV) : slices_ContainsFunc_int_int t0 t1 w K = fnW prog 9 [4] (match fn69.body with | some c => c | none => .skip) #[t0, t1] w K := by kernel_rfl
theorem slices_ContainsFunc_int_int_ok : fnOk prog 9 [4] (match fn69.body with | some c => c | none => .skip) = true := by kernel_rfl
theorem slices_ContainsFunc_int_int_calls {t0 t1 : Value} {w : World} {K : KV} (h : slices_ContainsFunc_int_int t0 t1 w K) : Cl prog 69 #[t0, t1] w K :=
  Cl.mk (by kernel_rfl) (calls_of_F (fn := fn69) (nt := 9) (rs := [4]) mixed fnAt69 (by kernel_rfl) (by kernel_rfl) (by kernel_rfl) (Nat.le_of_ble_eq_true (by kernel_rfl)) slices_ContainsFunc_int_int_ok (slices_ContainsFunc_int_int_eq t0 t1 w K) h)

/-- paceline/config.Routes$1 -/
def config_Routes_1 (t0 t1 t2 : Value) (w : World) (K : KV) : Prop :=
  fld 0 t1 w fun t5 w =>
  ld1 t5 w fun t6 w =>
  ld1 t2 w fun t7 w =>
  Cl prog 71 #[t6, t7, t0] w fun t9 w =>
  K t9 w
theorem config_Routes_1_eq (t0 t1 t2 : Value) (w : World) (K : KV) : config_Routes_1 t0 t1 t2 w K = fnW prog 10 [4] (match fn70.body with | some c => c | none => .skip) #[t0, t1, t2] w K := by kernel_rfl
theorem config_Routes_1_ok : fnOk prog 10 [4] (match fn70.body with | some c => c | none => .skip) = true := by kernel_rfl
theorem config_Routes_1_calls {t0 t1 t2 : Value} {w : World} {K : KV} (h : config_Routes_1 t0 t1 t2 w K) : Cl prog 70 #[t0, t1, t2] w K :=
  Cl.mk (by kernel_rfl) (calls_of_F (fn := fn70) (nt := 10) (rs := [4]) mixed fnAt70 (by kernel_rfl) (by kernel_rfl) (by kernel_rfl) (Nat.le_of_ble_eq_true (by kernel_rfl)) config_Routes_1_ok (config_Routes_1_eq t0 t1 t2 w K) h)

/-- paceline/tree.IsA -/
def tree_IsA (t0 t1 t2 : Value) (w : World) (K : KV) : Prop :=
  al (Value.cells t2) 3 w fun t5 w =>
  al (zeroD prog 4) 4 w fun t6 w =>
  Cl prog 82 #[t0, t1] w fun t10 w =>
  rfWC prog t10 1 (fun l a w k =>
  bgn l w fun w =>
  ld1 t5 w fun t13 w =>
  bi .eql .i64 (a 0) t13 w fun t14 w =>
  iff' t14
  (stN 1 t6 (Value.bool true) w fun _ w =>
  edr l w fun w => k (.bool false) w)
  (edn l w fun w => k (.bool true) w)) w
  (fun D w =>
  stN 1 t6 (Value.bool false) w fun _ w =>
  rdef D w fun w =>
  ld1 t6 w fun r0 _ =>
  K r0 w)
  (fun D w =>
  rdef D w fun w =>
  ld1 t6 w fun r0 _ =>
  K r0 w)
theorem tree_IsA_eq (t0 t1 t2 : Value) (w : World) (K : KV) : tree_IsA t0 t1 t2 w K = fnRFCb prog 15 [(6, some 4)] fn71.body #[t0, t1, t2] w K := by kernel_rfl
theorem tree_IsA_ok : fnOkRFCb prog 15 [(6, some 4)] fn71.body = true := by kernel_rfl
theorem tree_IsA_calls {t0 t1 t2 : Value} {w : World} {K : KV} (h : tree_IsA t0 t1 t2 w K) : Cl prog 71 #[t0, t1, t2] w K :=
  Cl.mk (by kernel_rfl) (calls_of_fnRFCb (fn := fn71) (nt := 15) (rs := [(6, some 4)]) mixed fnAt71 (by kernel_rfl) (by kernel_rfl) (Nat.le_of_ble_eq_true (by kernel_rfl)) tree_IsA_ok (tree_IsA_eq t0 t1 t2 w K) h)

/-- paceline/vtime.clamp -/
def vtime_clamp (t0 : Value) (w : World) (K : KV) : Prop :=
  bi .lss .i64 t0 (Value.int IntKind.i64 0) w fun t5 w =>
  iff' t5
  (K (Value.int IntKind.i64 0) w)
  (bi .gtr .i64 t0 (Value.int IntKind.i64 1099511627776) w fun t8 w =>
  iff' t8
  (K (Value.int IntKind.i64 1125899906842624) w)
  (K t0 w))
theorem vtime_clamp_eq (t0 : Value) (w : World) (K : KV) : vtime_clamp t0 w K = fnW prog 10 [2] (match fn72.body with | some c => c | none => .skip) #[t0] w K := by kernel_rfl
theorem vtime_clamp_ok : fnOk prog 10 [2] (match fn72.body with | some c => c | none => .skip) = true := by kernel_rfl
theorem vtime_clamp_calls {t0 : Value} {w : World} {K : KV} (h : vtime_clamp t0 w K) : Cl prog 72 #[t0] w K :=
  Cl.mk (by kernel_rfl) (calls_of_F (fn := fn72) (nt := 10) (rs := [2]) mixed fnAt72 (by kernel_rfl) (by kernel_rfl) (by kernel_rfl) (Nat.le_of_ble_eq_true (by kernel_rfl)) vtime_clamp_ok (vtime_clamp_eq t0 w K) h)

/-- cmp.Or[int] -/
def cmp_Or_int (t0 : Value) (w : World) (K : KV) : Prop :=
  lnS t0 w fun t7 w =>
  lp [(Value.int IntKind.i64 0)] w (b1 fun t8 w g1 =>
  bi .lss .i64 t8 t7 w fun t9 w =>
  iff' t9
  (ixS 1 t0 t8 w fun t10 w =>
  ld1 t10 w fun t11 w =>
  bi .neq .i64 t11 (Value.int IntKind.i64 0) w fun t14 w =>
  iff' t14
  (K t11 w)
  (bi .add .i64 t8 (Value.int IntKind.i64 1) w fun t16 w =>
  g1 [t16] w))
  (K (Value.int IntKind.i64 0) w))
theorem cmp_Or_int_eq (t0 : Value) (w : World) (K : KV) : cmp_Or_int t0 w K = fnW prog 18 [2] (match fn75.body with | some c => c | none => .skip) #[t0] w K := by kernel_rfl
theorem cmp_Or_int_ok : fnOk prog 18 [2] (match fn75.body with | some c => c | none => .skip) = true := by kernel_rfl
theorem cmp_Or_int_calls {t0 : Value} {w : World} {K : KV} (h : cmp_Or_int t0 w K) : Cl prog 75 #[t0] w K :=
  Cl.mk (by kernel_rfl) (calls_of_F (fn := fn75) (nt := 18) (rs := [2]) mixed fnAt75 (by kernel_rfl) (by kernel_rfl) (by kernel_rfl) (Nat.le_of_ble_eq_true (by kernel_rfl)) cmp_Or_int_ok (cmp_Or_int_eq t0 w K) h)

/-- cmp.Compare[int] -/
def cmp_Compare_int (t0 t1 : Value) (w : World) (K : KV) : Prop :=
  Cl prog 93 #[t0] w fun t8 w =>
  Cl prog 93 #[t1] w fun t10 w =>
  iff' t8
  (iff' t10
  (K (Value.int IntKind.i64 0) w)
  (K (Value.int IntKind.i64 (-1)) w))
  (iff' t10
  (K (Value.int IntKind.i64 1) w)
  (bi .lss .i64 t0 t1 w fun t16 w =>
  iff' t16
  (K (Value.int IntKind.i64 (-1)) w)
  (bi .gtr .i64 t0 t1 w fun t19 w =>
  iff' t19
  (K (Value.int IntKind.i64 1) w)
  (K (Value.int IntKind.i64 0) w))))
theorem cmp_Compare_int_eq (t0 t1 : Value) (w : World) (K : KV) : cmp_Compare_int t0 t1 w K = fnW prog 20 [4] (match fn76.body with | some c => c | none => .skip) #[t0, t1] w K := by kernel_rfl
theorem cmp_Compare_int_ok : fnOk prog 20 [4] (match fn76.body with | some c => c | none => .skip) = true := by kernel_rfl
theorem cmp_Compare_int_calls {t0 t1 : Value} {w : World} {K : KV} (h : cmp_Compare_int t0 t1 w K) : Cl prog 76 #[t0, t1] w K :=
  Cl.mk (by kernel_rfl) (calls_of_F (fn := fn76) (nt := 20) (rs := [4]) mixed fnAt76 (by kernel_rfl) (by kernel_rfl) (by kernel_rfl) (Nat.le_of_ble_eq_true (by kernel_rfl)) cmp_Compare_int_ok (cmp_Compare_int_eq t0 t1 w K) h)

/-- slices.Index[[]int,int] -/
def slices_Index_int_int (t0 t1 : Value) (w : World) (K : KV) : Prop :=
  lnS t0 w fun t7 w =>
  lp [(Value.int IntKind.i64 0)] w (b1 fun t8 w g1 =>
  bi .lss .i64 t8 t7 w fun t9 w =>
  iff' t9
  (ixS 1 t0 t8 w fun t14 w =>
  ld1 t14 w fun t15 w =>
  bi .eql .i64 t1 t15 w fun t16 w =>
  iff' t16
  (K t8 w)
  (bi .add .i64 t8 (Value.int IntKind.i64 1) w fun t18 w =>
  g1 [t18] w))
  (K (Value.int IntKind.i64 (-1)) w))
theorem slices_Index_int_int_eq (t0 t1 : Value) (w : World) (K : KV) : slices_Index_int_int t0 t1 w K = fnW prog 19 [4] (match fn77.body with | some c => c | none => .skip) #[t0, t1] w K := by kernel_rfl
theorem slices_Index_int_int_ok : fnOk prog 19 [4] (match fn77.body with | some c => c | none => .skip) = true := by kernel_rfl
theorem slices_Index_int_int_calls {t0 t1 : Value} {w : World} {K : KV} (h : slices_Index_int_int t0 t1 w K) : Cl prog 77 #[t0, t1] w K :=
  Cl.mk (by kernel_rfl) (calls_of_F (fn := fn77) (nt := 19) (rs := [4]) mixed fnAt77 (by kernel_rfl) (by kernel_rfl) (by kernel_rfl) (Nat.le_of_ble_eq_true (by kernel_rfl)) slices_Index_int_int_ok (slices_Index_int_int_eq t0 t1 w K) h)

end Go.Proofs.Ytenglfaeohgkfaa
