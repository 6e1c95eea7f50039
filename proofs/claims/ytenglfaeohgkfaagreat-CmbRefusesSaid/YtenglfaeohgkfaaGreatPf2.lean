/- Printed by prt.py: the Go functions of this seat as shallow predicate transformers. Conditions: none. -/
import Derived.Test.YtenglfaeohgkfaaGreatEngO
import Derived.Test.YtenglfaeohgkfaaGreatEngZ
import Derived.Test.YtenglfaeohgkfaaGreatPfHead
import Derived.KernelRfl
namespace Go.Proofs.YtenglfaeohgkfaaGreat
open Go Go.E
set_option linter.unusedVariables false
set_option maxRecDepth 100000
/-- paceline/vtime.Cmp -/
def vtime_Cmp (t0 t1 : Value) (w : World) (K : KV) : Prop :=
  al (Value.cells t0) 24 w fun t2 w =>
  al (Value.cells t1) 24 w fun t3 w =>
  dr w fun w =>
  fld 0 t2 w fun t5 _ =>
  ld1 t5 w fun t6 _ =>
  fld 0 t3 w fun t7 _ =>
  ld1 t7 w fun t8 _ =>
  fld 1 t2 w fun t10 _ =>
  ld1 t10 w fun t11 _ =>
  fld 1 t3 w fun t12 _ =>
  ld1 t12 w fun t13 _ =>
  fld 2 t2 w fun t15 _ =>
  ld1 t15 w fun t16 _ =>
  fld 2 t3 w fun t17 _ =>
  ld1 t17 w fun t18 _ =>
  Cl prog 114 #[t6, t8] w fun t9 w =>
  (ld1 t17 w (fun v' w'' => v' = t18 ∧ w'' = w)) ∧ ((ld1 t15 w (fun v' w'' => v' = t16 ∧ w'' = w)) ∧ ((ld1 t12 w (fun v' w'' => v' = t13 ∧ w'' = w)) ∧ ((ld1 t10 w (fun v' w'' => v' = t11 ∧ w'' = w)) ∧ (Cl prog 114 #[t11, t13] w fun t14 w =>
  (ld1 t17 w (fun v' w'' => v' = t18 ∧ w'' = w)) ∧ ((ld1 t15 w (fun v' w'' => v' = t16 ∧ w'' = w)) ∧ (Cl prog 114 #[t16, t18] w fun t19 w =>
  bsl 3 1 3 (zeroD prog 3) [(0, t9), (1, t14), (2, t19)] w fun t20 w =>
  Cl prog 113 #[t20] w fun t21 w =>
  K t21 w))))))
theorem vtime_Cmp_eq (t0 t1 : Value) (w : World) (K : KV) : vtime_Cmp t0 t1 w K = fnW prog 22 [4] (match fn84.body with | some c => c | none => .skip) #[t0, t1] w K := by kernel_rfl
theorem vtime_Cmp_ok : fnOk prog 22 [4] (match fn84.body with | some c => c | none => .skip) = true := by kernel_rfl
theorem vtime_Cmp_calls {t0 t1 : Value} {w : World} {K : KV} (h : vtime_Cmp t0 t1 w K) : Cl prog 84 #[t0, t1] w K :=
  Cl.mk (by kernel_rfl) (calls_of_F (fn := fn84) (nt := 22) (rs := [4]) mixed fnAt84 (by kernel_rfl) (by kernel_rfl) (by kernel_rfl) (Nat.le_of_ble_eq_true (by kernel_rfl)) vtime_Cmp_ok (vtime_Cmp_eq t0 t1 w K) h)

/-- (*paceline/prio.Queue).First -/
def prio_Queue_First (t0 : Value) (w : World) (K : KV) : Prop :=
  al (zeroD prog 26) 26 w fun t2 w =>
  ncP t0 <|
  fld 1 t0 w fun t6 w =>
  ld1 t6 w fun t7 w =>
  lnS t7 w fun t8 w =>
  bi .eql .i64 t8 (Value.int IntKind.i64 0) w fun t9 w =>
  iff' t9
  (bld (zeroD prog 26) #[(0, 3), (3, 1), (4, 1), (5, 1)] [] w fun t10 w =>
  stN 6 t2 t10 w fun _ w =>
  ldN 6 t2 w fun r0 _ =>
  K (Value.tuple #[r0, (Value.bool false)]) w)
  (ncP t0 <|
  fld 1 t0 w fun t13 w =>
  ld1 t13 w fun t14 w =>
  ixS 6 t14 (Value.int IntKind.i64 0) w fun t15 w =>
  ldN 6 t15 w fun t16 w =>
  stN 6 t2 t16 w fun _ w =>
  ldN 6 t2 w fun r0 _ =>
  K (Value.tuple #[r0, (Value.bool true)]) w)
theorem prio_Queue_First_eq (t0 : Value) (w : World) (K : KV) : prio_Queue_First t0 w K = fnWC prog 17 [(2, some 26), (3, none)] (match fn85.body with | some c => c | none => .skip) #[t0] w K := by kernel_rfl
theorem prio_Queue_First_ok : fnOkC prog 17 [(2, some 26), (3, none)] (match fn85.body with | some c => c | none => .skip) = true := by kernel_rfl
theorem prio_Queue_First_calls {t0 : Value} {w : World} {K : KV} (h : prio_Queue_First t0 w K) : Cl prog 85 #[t0] w K :=
  Cl.mk (by kernel_rfl) (calls_of_FC (fn := fn85) (nt := 17) (rs := [(2, some 26), (3, none)]) mixed fnAt85 (by kernel_rfl) (by kernel_rfl) (by kernel_rfl) (Nat.le_of_ble_eq_true (by kernel_rfl)) prio_Queue_First_ok (prio_Queue_First_eq t0 w K) h)

/-- paceline/vtime.Add -/
def vtime_Add (t0 t1 : Value) (w : World) (K : KV) : Prop :=
  Cl prog 115 #[t0] w fun t6 w =>
  Cl prog 115 #[t1] w fun t8 w =>
  bi .add .i64 t6 t8 w fun t9 w =>
  Cl prog 115 #[t9] w fun t10 w =>
  K t10 w
theorem vtime_Add_eq (t0 t1 : Value) (w : World) (K : KV) : vtime_Add t0 t1 w K = fnW prog 11 [4] (match fn86.body with | some c => c | none => .skip) #[t0, t1] w K := by kernel_rfl
theorem vtime_Add_ok : fnOk prog 11 [4] (match fn86.body with | some c => c | none => .skip) = true := by kernel_rfl
theorem vtime_Add_calls {t0 t1 : Value} {w : World} {K : KV} (h : vtime_Add t0 t1 w K) : Cl prog 86 #[t0, t1] w K :=
  Cl.mk (by kernel_rfl) (calls_of_F (fn := fn86) (nt := 11) (rs := [4]) mixed fnAt86 (by kernel_rfl) (by kernel_rfl) (by kernel_rfl) (Nat.le_of_ble_eq_true (by kernel_rfl)) vtime_Add_ok (vtime_Add_eq t0 t1 w K) h)

/-- paceline/vtime.Least -/
def vtime_Least (t0 : Value) (w : World) (K : KV) : Prop :=
  lnS t0 w fun t7 w =>
  lp [(Value.int IntKind.i64 1125899906842624), (Value.int IntKind.i64 0)] w (b2 fun t3 t8 w g1 =>
  bi .lss .i64 t8 t7 w fun t9 w =>
  iff' t9
  (ixS 1 t0 t8 w fun t10 w =>
  ld1 t10 w fun t11 w =>
  Cl prog 115 #[t11] w fun t14 w =>
  mnI .i64 t3 t14 w fun t15 w =>
  bi .add .i64 t8 (Value.int IntKind.i64 1) w fun t16 w =>
  g1 [t15, t16] w)
  (K t3 w))
theorem vtime_Least_eq (t0 : Value) (w : World) (K : KV) : vtime_Least t0 w K = fnW prog 18 [2] (match fn87.body with | some c => c | none => .skip) #[t0] w K := by kernel_rfl
theorem vtime_Least_ok : fnOk prog 18 [2] (match fn87.body with | some c => c | none => .skip) = true := by kernel_rfl
theorem vtime_Least_calls {t0 : Value} {w : World} {K : KV} (h : vtime_Least t0 w K) : Cl prog 87 #[t0] w K :=
  Cl.mk (by kernel_rfl) (calls_of_F (fn := fn87) (nt := 18) (rs := [2]) mixed fnAt87 (by kernel_rfl) (by kernel_rfl) (by kernel_rfl) (Nat.le_of_ble_eq_true (by kernel_rfl)) vtime_Least_ok (vtime_Least_eq t0 w K) h)

/-- paceline/pacelineref01.Add -/
def pacelineref01_Add (t0 t1 : Value) (w : World) (K : KV) : Prop :=
  Cl prog 116 #[t0] w fun t6 w =>
  Cl prog 116 #[t1] w fun t8 w =>
  bi .eql .i64 t6 (Value.int IntKind.i64 1125899906842624) w fun t10 w =>
  gd t10 false (fun k => k t8 w) w fun t12 w =>
  gd t10 false (fun k => bi .eql .i64 t12 (Value.int IntKind.i64 1125899906842624) w k) w fun t13 w =>
  pk t10 (Value.bool true) t13 w fun t14 w =>
  iff' t14
  (K (Value.int IntKind.i64 1125899906842624) w)
  (bi .add .i64 t6 t8 w fun t17 w =>
  Cl prog 116 #[t17] w fun t18 w =>
  K t18 w)
theorem pacelineref01_Add_eq (t0 t1 : Value) (w : World) (K : KV) : pacelineref01_Add t0 t1 w K = fnW prog 19 [4] (match fn88.body with | some c => c | none => .skip) #[t0, t1] w K := by kernel_rfl
theorem pacelineref01_Add_ok : fnOk prog 19 [4] (match fn88.body with | some c => c | none => .skip) = true := by kernel_rfl
theorem pacelineref01_Add_calls {t0 t1 : Value} {w : World} {K : KV} (h : pacelineref01_Add t0 t1 w K) : Cl prog 88 #[t0, t1] w K :=
  Cl.mk (by kernel_rfl) (calls_of_F (fn := fn88) (nt := 19) (rs := [4]) mixed fnAt88 (by kernel_rfl) (by kernel_rfl) (by kernel_rfl) (Nat.le_of_ble_eq_true (by kernel_rfl)) pacelineref01_Add_ok (pacelineref01_Add_eq t0 t1 w K) h)

/-- paceline/pacelineref01.Least -/
def pacelineref01_Least (t0 : Value) (w : World) (K : KV) : Prop :=
  lp [(Value.int IntKind.i64 1125899906842624), (Value.int IntKind.i64 0)] w (b2 fun t3 t4 w g1 =>
  lnS t0 w fun t7 w =>
  bi .lss .i64 t4 t7 w fun t8 w =>
  iff' t8
  (ixS 1 t0 t4 w fun t14 w =>
  ld1 t14 w fun t15 w =>
  Cl prog 116 #[t15] w fun t16 w =>
  mnI .i64 t3 t16 w fun t17 w =>
  bi .add .i64 t4 (Value.int IntKind.i64 1) w fun t10 w =>
  g1 [t17, t10] w)
  (K t3 w))
theorem pacelineref01_Least_eq (t0 : Value) (w : World) (K : KV) : pacelineref01_Least t0 w K = fnW prog 19 [2] (match fn89.body with | some c => c | none => .skip) #[t0] w K := by kernel_rfl
theorem pacelineref01_Least_ok : fnOk prog 19 [2] (match fn89.body with | some c => c | none => .skip) = true := by kernel_rfl
theorem pacelineref01_Least_calls {t0 : Value} {w : World} {K : KV} (h : pacelineref01_Least t0 w K) : Cl prog 89 #[t0] w K :=
  Cl.mk (by kernel_rfl) (calls_of_F (fn := fn89) (nt := 19) (rs := [2]) mixed fnAt89 (by kernel_rfl) (by kernel_rfl) (by kernel_rfl) (Nat.le_of_ble_eq_true (by kernel_rfl)) pacelineref01_Least_ok (pacelineref01_Least_eq t0 w K) h)

/-- paceline/config.unless$1 -/
def config_unless_1 (t0 t1 : Value) (w : World) (K : KV) : Prop :=
  ld1 t0 w fun t3 w =>
  iff' t3
  (K (Value.int IntKind.i64 0) w)
  (ld1 t1 w fun t4 w =>
  K t4 w)
theorem config_unless_1_eq (t0 t1 : Value) (w : World) (K : KV) : config_unless_1 t0 t1 w K = fnW prog 5 [2] (match fn90.body with | some c => c | none => .skip) #[t0, t1] w K := by kernel_rfl
theorem config_unless_1_ok : fnOk prog 5 [2] (match fn90.body with | some c => c | none => .skip) = true := by kernel_rfl
theorem config_unless_1_calls {t0 t1 : Value} {w : World} {K : KV} (h : config_unless_1 t0 t1 w K) : Cl prog 90 #[t0, t1] w K :=
  Cl.mk (by kernel_rfl) (calls_of_F (fn := fn90) (nt := 5) (rs := [2]) mixed fnAt90 (by kernel_rfl) (by kernel_rfl) (by kernel_rfl) (Nat.le_of_ble_eq_true (by kernel_rfl)) config_unless_1_ok (config_unless_1_eq t0 t1 w K) h)

/-- paceline/config.fed$1 -/
def config_fed_1 (t0 t1 : Value) (w : World) (K : KV) : Prop :=
  lnS t0 w fun t8 w =>
  lp [(Value.int IntKind.i64 (-1)), (Value.int IntKind.i64 0)] w (b2 fun t4 t9 w g1 =>
  bi .lss .i64 t9 t8 w fun t10 w =>
  iff' t10
  (ixS 1 t0 t9 w fun t11 w =>
  ld1 t11 w fun t12 w =>
  bi .leq .i64 t12 t4 w fun t15 w =>
  gd t15 false (fun k => k t12 w) w fun t17 w =>
  gd t15 false (fun k => ld1 t1 w k) w fun t18 w =>
  gd t15 false (fun k => bi .geq .i64 t17 t18 w k) w fun t19 w =>
  pk t15 (Value.bool true) t19 w fun t20 w =>
  iff' t20
  (K (Value.bool false) w)
  (bi .add .i64 t9 (Value.int IntKind.i64 1) w fun t22 w =>
  g1 [t12, t22] w))
  (K (Value.bool true) w))
theorem config_fed_1_eq (t0 t1 : Value) (w : World) (K : KV) : config_fed_1 t0 t1 w K = fnW prog 23 [3] (match fn91.body with | some c => c | none => .skip) #[t0, t1] w K := by kernel_rfl
theorem config_fed_1_ok : fnOk prog 23 [3] (match fn91.body with | some c => c | none => .skip) = true := by kernel_rfl
theorem config_fed_1_calls {t0 t1 : Value} {w : World} {K : KV} (h : config_fed_1 t0 t1 w K) : Cl prog 91 #[t0, t1] w K :=
  Cl.mk (by kernel_rfl) (calls_of_F (fn := fn91) (nt := 23) (rs := [3]) mixed fnAt91 (by kernel_rfl) (by kernel_rfl) (by kernel_rfl) (Nat.le_of_ble_eq_true (by kernel_rfl)) config_fed_1_ok (config_fed_1_eq t0 t1 w K) h)

/-- paceline/config.fed$2 -/
def config_fed_2 (t0 t1 : Value) (w : World) (K : KV) : Prop :=
  fld 3 t0 w fun t8 w =>
  ld1 t8 w fun t9 w =>
  lnS t9 w fun t10 w =>
  lp [(Value.int IntKind.i64 0)] w (b1 fun t11 w g1 =>
  bi .lss .i64 t11 t10 w fun t12 w =>
  iff' t12
  (ixS 4 t9 t11 w fun t13 w =>
  ldN 4 t13 w fun t14 w =>
  al (zeroD prog 80) 80 w fun t4 w =>
  stN 4 t4 t14 w fun _ w =>
  fld 1 t4 w fun t15 w =>
  ld1 t15 w fun t16 w =>
  ld1 t1 w fun t17 w =>
  bi .geq .i64 t16 t17 w fun t18 w =>
  iff' t18
  (K (Value.int IntKind.i64 81) w)
  (fld 3 t4 w fun t19 w =>
  ld1 t19 w fun t20 w =>
  lnS t20 w fun t21 w =>
  lp [(Value.int IntKind.i64 0)] w (b1 fun t22 w g2 =>
  bi .lss .i64 t22 t21 w fun t23 w =>
  iff' t23
  (ixS 3 t20 t22 w fun t24 w =>
  ldN 3 t24 w fun t25 w =>
  al (zeroD prog 78) 78 w fun t6 w =>
  stN 3 t6 t25 w fun _ w =>
  dr w fun w =>
  fld 4 t0 w fun t26 _ =>
  ld1 t26 w fun t27 _ =>
  fld 0 t6 w fun t28 _ =>
  ld1 t28 w fun t29 _ =>
  fld 1 t6 w fun t32 _ =>
  ld1 t32 w fun t33 _ =>
  fld 1 t0 w fun t34 _ =>
  ld1 t34 w fun t35 _ =>
  bi .geq .i64 t33 t35 w fun t36 _ =>
  Cl prog 93 #[t27, t29] w fun t30 w =>
  (ld1 t34 w (fun v' w'' => v' = t35 ∧ w'' = w)) ∧ ((ld1 t32 w (fun v' w'' => v' = t33 ∧ w'' = w)) ∧ (Cl prog 59 #[t30, (Value.int IntKind.i64 81)] w fun t31 w =>
  (ld1 t34 w (fun v' w'' => v' = t35 ∧ w'' = w)) ∧ ((ld1 t32 w (fun v' w'' => v' = t33 ∧ w'' = w)) ∧ (Cl prog 59 #[t36, (Value.int IntKind.i64 80)] w fun t37 w =>
  bsl 104 1 2 (zeroD prog 104) [(0, t31), (1, t37)] w fun t38 w =>
  Cl prog 56 #[t38] w fun t39 w =>
  bi .neq .i64 t39 (Value.int IntKind.i64 0) w fun t41 w =>
  iff' t41
  (K t39 w)
  (bi .add .i64 t22 (Value.int IntKind.i64 1) w fun t43 w =>
  g2 [t43] w))))))
  (bi .add .i64 t11 (Value.int IntKind.i64 1) w fun t44 w =>
  g1 [t44] w))))
  (K (Value.int IntKind.i64 0) w))
theorem config_fed_2_eq (t0 t1 : Value) (w : World) (K : KV) : config_fed_2 t0 t1 w K = fnW prog 45 [2] (match fn92.body with | some c => c | none => .skip) #[t0, t1] w K := by kernel_rfl
theorem config_fed_2_ok : fnOk prog 45 [2] (match fn92.body with | some c => c | none => .skip) = true := by kernel_rfl
theorem config_fed_2_calls {t0 t1 : Value} {w : World} {K : KV} (h : config_fed_2 t0 t1 w K) : Cl prog 92 #[t0, t1] w K :=
  Cl.mk (by kernel_rfl) (calls_of_F (fn := fn92) (nt := 45) (rs := [2]) mixed fnAt92 (by kernel_rfl) (by kernel_rfl) (by kernel_rfl) (Nat.le_of_ble_eq_true (by kernel_rfl)) config_fed_2_ok (config_fed_2_eq t0 t1 w K) h)

/-- slices.Contains[[]int,int] -/
def slices_Contains_int_int (t0 t1 : Value) (w : World) (K : KV) : Prop :=
  Cl prog 117 #[t0, t1] w fun t7 w =>
  bi .geq .i64 t7 (Value.int IntKind.i64 0) w fun t8 w =>
  K t8 w
theorem slices_Contains_int_int_eq (t0 t1 : Value) (w : World) (K : KV) : slices_Contains_int_int t0 t1 w K = fnW prog 9 [4] (match fn93.body with | some c => c | none => .skip) #[t0, t1] w K := by kernel_rfl
theorem slices_Contains_int_int_ok : fnOk prog 9 [4] (match fn93.body with | some c => c | none => .skip) = true := by kernel_rfl
theorem slices_Contains_int_int_calls {t0 t1 : Value} {w : World} {K : KV} (h : slices_Contains_int_int t0 t1 w K) : Cl prog 93 #[t0, t1] w K :=
  Cl.mk (by kernel_rfl) (calls_of_F (fn := fn93) (nt := 9) (rs := [4]) mixed fnAt93 (by kernel_rfl) (by kernel_rfl) (by kernel_rfl) (Nat.le_of_ble_eq_true (by kernel_rfl)) slices_Contains_int_int_ok (slices_Contains_int_int_eq t0 t1 w K) h)

/-- paceline/config.fed$3 -/
def config_fed_3 (t0 t1 : Value) (w : World) (K : KV) : Prop :=
  al (Value.cells t0) 78 w fun t2 w =>
  fld 4 t1 w fun t4 w =>
  ld1 t4 w fun t5 w =>
  fld 0 t2 w fun t6 w =>
  ld1 t6 w fun t7 w =>
  Cl prog 93 #[t5, t7] w fun t8 w =>
  bnot t8 w fun t9 w =>
  gd t9 false (fun k => fld 1 t2 w k) w fun t11 w =>
  gd t9 false (fun k => ld1 t11 w k) w fun t12 w =>
  gd t9 false (fun k => Cl prog 60 #[t12, (Value.int IntKind.i64 0), (Value.int IntKind.i64 1099511627776)] w k) w fun t13 w =>
  gd t9 false (fun k => bnot t13 w k) w fun t14 w =>
  pk t9 (Value.bool true) t14 w fun t15 w =>
  gd t15 false (fun k => fld 2 t2 w k) w fun t17 w =>
  gd t15 false (fun k => ld1 t17 w k) w fun t18 w =>
  gd t15 false (fun k => Cl prog 60 #[t18, (Value.int IntKind.i64 0), (Value.int IntKind.i64 999)] w k) w fun t19 w =>
  gd t15 false (fun k => bnot t19 w k) w fun t20 w =>
  pk t15 (Value.bool true) t20 w fun t21 w =>
  K t21 w
theorem config_fed_3_eq (t0 t1 : Value) (w : World) (K : KV) : config_fed_3 t0 t1 w K = fnW prog 22 [3] (match fn94.body with | some c => c | none => .skip) #[t0, t1] w K := by kernel_rfl
theorem config_fed_3_ok : fnOk prog 22 [3] (match fn94.body with | some c => c | none => .skip) = true := by kernel_rfl
theorem config_fed_3_calls {t0 t1 : Value} {w : World} {K : KV} (h : config_fed_3 t0 t1 w K) : Cl prog 94 #[t0, t1] w K :=
  Cl.mk (by kernel_rfl) (calls_of_F (fn := fn94) (nt := 22) (rs := [3]) mixed fnAt94 (by kernel_rfl) (by kernel_rfl) (by kernel_rfl) (Nat.le_of_ble_eq_true (by kernel_rfl)) config_fed_3_ok (config_fed_3_eq t0 t1 w K) h)

/-- paceline/config.fed$4 -/
def config_fed_4 (t0 : Value) (w : World) (K : KV) : Prop :=
  fld 3 t0 w fun t2 w =>
  ld1 t2 w fun t3 w =>
  Cl prog 96 #[t3] w fun t4 w =>
  K t4 w
theorem config_fed_4_eq (t0 : Value) (w : World) (K : KV) : config_fed_4 t0 w K = fnW prog 5 [1] (match fn95.body with | some c => c | none => .skip) #[t0] w K := by kernel_rfl
theorem config_fed_4_ok : fnOk prog 5 [1] (match fn95.body with | some c => c | none => .skip) = true := by kernel_rfl
theorem config_fed_4_calls {t0 : Value} {w : World} {K : KV} (h : config_fed_4 t0 w K) : Cl prog 95 #[t0] w K :=
  Cl.mk (by kernel_rfl) (calls_of_F (fn := fn95) (nt := 5) (rs := [1]) mixed fnAt95 (by kernel_rfl) (by kernel_rfl) (by kernel_rfl) (Nat.le_of_ble_eq_true (by kernel_rfl)) config_fed_4_ok (config_fed_4_eq t0 w K) h)

/-- paceline/table.Check -/
def table_Check (t0 : Value) (w : World) (K : KV) : Prop :=
  lnS t0 w fun t9 w =>
  bi .gtr .i64 t9 (Value.int IntKind.i64 32) w fun t10 w =>
  iff' t10
  (K (Value.int IntKind.i64 70) w)
  (mkMap w fun t11 w =>
  lnS t0 w fun t13 w =>
  lp [(Value.int IntKind.i64 0)] w (b1 fun t14 w g1 =>
  bi .lss .i64 t14 t13 w fun t15 w =>
  iff' t15
  (ixS 4 t0 t14 w fun t16 w =>
  ldN 4 t16 w fun t17 w =>
  al (zeroD prog 80) 80 w fun t5 w =>
  stN 4 t5 t17 w fun _ w =>
  fld 0 t5 w fun t18 w =>
  ld1 t18 w fun t19 w =>
  fld 1 t5 w fun t20 w =>
  ld1 t20 w fun t21 w =>
  bld (zeroD prog 162) #[(0, 1), (1, 1)] [(0, t19), (1, t21)] w fun t22 w =>
  al (zeroD prog 162) 162 w fun t6 w =>
  stN 2 t6 t22 w fun _ w =>
  ldN 2 t6 w fun t24 w =>
  lkM prog 160 t11 t24 false w fun t25 w =>
  gd t25 false (fun k => fld 0 t5 w k) w fun t27 w =>
  gd t25 false (fun k => ld1 t27 w k) w fun t28 w =>
  gd t25 false (fun k => Cl prog 119 #[t28, (Value.int IntKind.i64 8)] w k) w fun t29 w =>
  gd t25 false (fun k => bnot t29 w k) w fun t30 w =>
  pk t25 (Value.bool true) t30 w fun t31 w =>
  gd t31 false (fun k => fld 2 t5 w k) w fun t33 w =>
  gd t31 false (fun k => ld1 t33 w k) w fun t34 w =>
  gd t31 false (fun k => Cl prog 119 #[t34, (Value.int IntKind.i64 8)] w k) w fun t35 w =>
  gd t31 false (fun k => bnot t35 w k) w fun t36 w =>
  pk t31 (Value.bool true) t36 w fun t37 w =>
  gd t37 false (fun k => fld 1 t5 w k) w fun t39 w =>
  gd t37 false (fun k => ld1 t39 w k) w fun t40 w =>
  gd t37 false (fun k => Cl prog 119 #[t40, (Value.int IntKind.i64 16)] w k) w fun t41 w =>
  gd t37 false (fun k => bnot t41 w k) w fun t42 w =>
  pk t37 (Value.bool true) t42 w fun t43 w =>
  gd t43 false (fun k => fld 3 t5 w k) w fun t45 w =>
  gd t43 false (fun k => ld1 t45 w k) w fun t46 w =>
  gd t43 false (fun k => lnS t46 w k) w fun t47 w =>
  gd t43 false (fun k => bi .gtr .i64 t47 (Value.int IntKind.i64 3) w k) w fun t48 w =>
  pk t43 (Value.bool true) t48 w fun t49 w =>
  gd t49 false (fun k => fld 3 t5 w k) w fun t51 w =>
  gd t49 false (fun k => ld1 t51 w k) w fun t52 w =>
  gd t49 false (fun k => k (Value.func (.func 118) #[] #[]) w) w fun t53 w =>
  gd t49 false (fun k => Cl prog 97 #[t52, t53] w k) w fun t54 w =>
  pk t49 (Value.bool true) t54 w fun t55 w =>
  iff' t55
  (K (Value.int IntKind.i64 70) w)
  (ldN 2 t6 w fun t57 w =>
  upM prog 160 t11 t57 (Value.bool true) w fun _ w =>
  bi .add .i64 t14 (Value.int IntKind.i64 1) w fun t58 w =>
  g1 [t58] w))
  (K (Value.int IntKind.i64 0) w)))
theorem table_Check_eq (t0 : Value) (w : World) (K : KV) : table_Check t0 w K = fnW prog 59 [2] (match fn96.body with | some c => c | none => .skip) #[t0] w K := by kernel_rfl
theorem table_Check_ok : fnOk prog 59 [2] (match fn96.body with | some c => c | none => .skip) = true := by kernel_rfl
theorem table_Check_calls {t0 : Value} {w : World} {K : KV} (h : table_Check t0 w K) : Cl prog 96 #[t0] w K :=
  Cl.mk (by kernel_rfl) (calls_of_F (fn := fn96) (nt := 59) (rs := [2]) mixed fnAt96 (by kernel_rfl) (by kernel_rfl) (by kernel_rfl) (Nat.le_of_ble_eq_true (by kernel_rfl)) table_Check_ok (table_Check_eq t0 w K) h)

/-- slices.ContainsFunc[[]paceline/api.Out,paceline/api.Out] -/
def slices_ContainsFunc_api_Out_api_Out (t0 t1 : Value) (w : World) (K : KV) : Prop :=
  Cl prog 120 #[t0, t1] w fun t7 w =>
  bi .geq .i64 t7 (Value.int IntKind.i64 0) w fun t8 w =>
  K t8 w
theorem slices_ContainsFunc_api_Out_api_Out_eq (t0 t1 : Value) (w : World) (K : KV) : slices_ContainsFunc_api_Out_api_Out t0 t1 w K = fnW prog 9 [4] (match fn97.body with | some c => c | none => .skip) #[t0, t1] w K := by kernel_rfl
theorem slices_ContainsFunc_api_Out_api_Out_ok : fnOk prog 9 [4] (match fn97.body with | some c => c | none => .skip) = true := by kernel_rfl
theorem slices_ContainsFunc_api_Out_api_Out_calls {t0 t1 : Value} {w : World} {K : KV} (h : slices_ContainsFunc_api_Out_api_Out t0 t1 w K) : Cl prog 97 #[t0, t1] w K :=
  Cl.mk (by kernel_rfl) (calls_of_F (fn := fn97) (nt := 9) (rs := [4]) mixed fnAt97 (by kernel_rfl) (by kernel_rfl) (by kernel_rfl) (Nat.le_of_ble_eq_true (by kernel_rfl)) slices_ContainsFunc_api_Out_api_Out_ok (slices_ContainsFunc_api_Out_api_Out_eq t0 t1 w K) h)

/-- paceline/pacelineref07.Check -/
def pacelineref07_Check (t0 : Value) (w : World) (K : KV) : Prop :=
  lnS t0 w fun t5 w =>
  bi .gtr .i64 t5 (Value.int IntKind.i64 32) w fun t6 w =>
  iff' t6
  (K (Value.int IntKind.i64 70) w)
  (lp [(Value.int IntKind.i64 0)] w (b1 fun t3 w g1 =>
  lnS t0 w fun t9 w =>
  bi .lss .i64 t3 t9 w fun t10 w =>
  iff' t10
  (dr w fun w =>
  ixS 4 t0 t3 w fun t15 _ =>
  ldN 4 t15 w fun t16 _ =>
  Cl prog 121 #[t16] w fun t17 w =>
  bnot t17 w fun t18 _ =>
  gd t18 false (fun k => k t0 w) w fun t20 _ =>
  gd t18 false (fun k => k t0 w) w fun t21 _ =>
  gd t18 false (fun k => k t3 w) w fun t22 _ =>
  gd t18 false (fun k => ixS 4 t21 t22 w k) w fun t23 _ =>
  gd t18 false (fun k => fld 0 t23 w k) w fun t24 _ =>
  gd t18 false (fun k => ld1 t24 w k) w fun t25 _ =>
  gd t18 false (fun k => k t0 w) w fun t26 _ =>
  gd t18 false (fun k => k t3 w) w fun t27 _ =>
  gd t18 false (fun k => ixS 4 t26 t27 w k) w fun t28 _ =>
  gd t18 false (fun k => fld 1 t28 w k) w fun t29 _ =>
  gd t18 false (fun k => ld1 t29 w k) w fun t30 _ =>
  gd t18 false (fun k => k t3 w) w fun t32 _ =>
  gd t18 false (fun k => Cl prog 78 #[t20, t25, t30] w k) w fun t31 w =>
  gd t18 false (fun k => bi .neq .i64 t31 t32 w k) w fun t33 _ =>
  pk t18 (Value.bool true) t33 w fun t34 _ =>
  iff' t34
  (K (Value.int IntKind.i64 70) w)
  (bi .add .i64 t3 (Value.int IntKind.i64 1) w fun t12 w =>
  g1 [t12] w))
  (K (Value.int IntKind.i64 0) w)))
theorem pacelineref07_Check_eq (t0 : Value) (w : World) (K : KV) : pacelineref07_Check t0 w K = fnW prog 35 [2] (match fn98.body with | some c => c | none => .skip) #[t0] w K := by kernel_rfl
theorem pacelineref07_Check_ok : fnOk prog 35 [2] (match fn98.body with | some c => c | none => .skip) = true := by kernel_rfl
theorem pacelineref07_Check_calls {t0 : Value} {w : World} {K : KV} (h : pacelineref07_Check t0 w K) : Cl prog 98 #[t0] w K :=
  Cl.mk (by kernel_rfl) (calls_of_F (fn := fn98) (nt := 35) (rs := [2]) mixed fnAt98 (by kernel_rfl) (by kernel_rfl) (by kernel_rfl) (Nat.le_of_ble_eq_true (by kernel_rfl)) pacelineref07_Check_ok (pacelineref07_Check_eq t0 w K) h)

/-- paceline/pacelineref08.classes -/
def pacelineref08_classes (t0 t1 : Value) (w : World) (K : KV) : Prop :=
  lp [(Value.int IntKind.i64 0)] w (b1 fun t5 w g1 =>
  lnS t0 w fun t8 w =>
  bi .lss .i64 t5 t8 w fun t9 w =>
  iff' t9
  (dr w fun w =>
  ixS 1 t0 t5 w fun t14 _ =>
  ld1 t14 w fun t15 _ =>
  bi .lss .i64 t15 (Value.int IntKind.i64 0) w fun t16 _ =>
  gd t16 false (fun k => k t0 w) w fun t18 _ =>
  gd t16 false (fun k => k t5 w) w fun t19 _ =>
  gd t16 false (fun k => ixS 1 t18 t19 w k) w fun t20 _ =>
  gd t16 false (fun k => ld1 t20 w k) w fun t21 _ =>
  gd t16 false (fun k => k t1 w) w fun t22 _ =>
  gd t16 false (fun k => bi .geq .i64 t21 t22 w k) w fun t23 _ =>
  pk t16 (Value.bool true) t23 w fun t24 _ =>
  gd t24 false (fun k => k t5 w) w fun t26 _ =>
  gd t24 false (fun k => bi .gtr .i64 t26 (Value.int IntKind.i64 0) w k) w fun t27 _ =>
  gd t24 false (fun k => k t27 w) w fun t28 _ =>
  gd t28 true (fun k => k t0 w) w fun t29 _ =>
  gd t28 true (fun k => k t5 w) w fun t30 _ =>
  gd t28 true (fun k => ixS 1 t29 t30 w k) w fun t31 _ =>
  gd t28 true (fun k => ld1 t31 w k) w fun t32 _ =>
  gd t28 true (fun k => k t0 w) w fun t33 _ =>
  gd t28 true (fun k => k t5 w) w fun t34 _ =>
  gd t28 true (fun k => bi .sub .i64 t34 (Value.int IntKind.i64 1) w k) w fun t35 _ =>
  gd t28 true (fun k => ixS 1 t33 t35 w k) w fun t36 _ =>
  gd t28 true (fun k => ld1 t36 w k) w fun t37 _ =>
  gd t28 true (fun k => bi .leq .i64 t32 t37 w k) w fun t38 _ =>
  gd t24 false (fun k => pk t28 t38 (Value.bool false) w k) w fun t39 _ =>
  pk t24 (Value.bool true) t39 w fun t40 _ =>
  iff' t40
  (K (Value.bool false) w)
  (bi .add .i64 t5 (Value.int IntKind.i64 1) w fun t11 w =>
  g1 [t11] w))
  (K (Value.bool true) w))
theorem pacelineref08_classes_eq (t0 t1 : Value) (w : World) (K : KV) : pacelineref08_classes t0 t1 w K = fnW prog 41 [4] (match fn99.body with | some c => c | none => .skip) #[t0, t1] w K := by kernel_rfl
theorem pacelineref08_classes_ok : fnOk prog 41 [4] (match fn99.body with | some c => c | none => .skip) = true := by kernel_rfl
theorem pacelineref08_classes_calls {t0 t1 : Value} {w : World} {K : KV} (h : pacelineref08_classes t0 t1 w K) : Cl prog 99 #[t0, t1] w K :=
  Cl.mk (by kernel_rfl) (calls_of_F (fn := fn99) (nt := 41) (rs := [4]) mixed fnAt99 (by kernel_rfl) (by kernel_rfl) (by kernel_rfl) (Nat.le_of_ble_eq_true (by kernel_rfl)) pacelineref08_classes_ok (pacelineref08_classes_eq t0 t1 w K) h)

/-- paceline/pacelineref05.Has -/
def pacelineref05_Has (t0 t1 : Value) (w : World) (K : KV) : Prop :=
  lp [(Value.int IntKind.i64 0)] w (b1 fun t5 w g1 =>
  lnS t0 w fun t8 w =>
  bi .lss .i64 t5 t8 w fun t9 w =>
  iff' t9
  (ixS 1 t0 t5 w fun t14 w =>
  ld1 t14 w fun t15 w =>
  bi .eql .i64 t15 t1 w fun t17 w =>
  iff' t17
  (K (Value.bool true) w)
  (bi .add .i64 t5 (Value.int IntKind.i64 1) w fun t11 w =>
  g1 [t11] w))
  (K (Value.bool false) w))
theorem pacelineref05_Has_eq (t0 t1 : Value) (w : World) (K : KV) : pacelineref05_Has t0 t1 w K = fnW prog 18 [4] (match fn100.body with | some c => c | none => .skip) #[t0, t1] w K := by kernel_rfl
theorem pacelineref05_Has_ok : fnOk prog 18 [4] (match fn100.body with | some c => c | none => .skip) = true := by kernel_rfl
theorem pacelineref05_Has_calls {t0 t1 : Value} {w : World} {K : KV} (h : pacelineref05_Has t0 t1 w K) : Cl prog 100 #[t0, t1] w K :=
  Cl.mk (by kernel_rfl) (calls_of_F (fn := fn100) (nt := 18) (rs := [4]) mixed fnAt100 (by kernel_rfl) (by kernel_rfl) (by kernel_rfl) (Nat.le_of_ble_eq_true (by kernel_rfl)) pacelineref05_Has_ok (pacelineref05_Has_eq t0 t1 w K) h)

/-- container/heap.up -/
def heap_up (t0 t1 : Value) (w : World) (K : KV) : Prop :=
  lp [t1] w (b1 fun t1_1 w g1 =>
  bi .sub .i64 t1_1 (Value.int IntKind.i64 1) w fun t6 w =>
  bi .quo .i64 t6 (Value.int IntKind.i64 2) w fun t7 w =>
  bi .eql .i64 t7 t1_1 w fun t10 w =>
  gd t10 false (fun k => k t0 w) w fun t12 w =>
  gd t10 false (fun k => k t1_1 w) w fun t13 w =>
  gd t10 false (fun k => k t7 w) w fun t14 w =>
  gd t10 false (fun k => clI prog t12 "Less" #[t13, t14] w k) w fun t15 w =>
  gd t10 false (fun k => bnot t15 w k) w fun t16 w =>
  pk t10 (Value.bool true) t16 w fun t17 w =>
  iff' t17
  (K (Value.tuple #[]) w)
  (clI prog t0 "Swap" #[t7, t1_1] w fun _ w =>
  g1 [t7] w))
theorem heap_up_eq (t0 t1 : Value) (w : World) (K : KV) : heap_up t0 t1 w K = fnW prog 23 [] (match fn101.body with | some c => c | none => .skip) #[t0, t1] w K := by kernel_rfl
theorem heap_up_ok : fnOk prog 23 [] (match fn101.body with | some c => c | none => .skip) = true := by kernel_rfl
theorem heap_up_calls {t0 t1 : Value} {w : World} {K : KV} (h : heap_up t0 t1 w K) : Cl prog 101 #[t0, t1] w K :=
  Cl.mk (by kernel_rfl) (calls_of_F (fn := fn101) (nt := 23) (rs := []) mixed fnAt101 (by kernel_rfl) (by kernel_rfl) (by kernel_rfl) (Nat.le_of_ble_eq_true (by kernel_rfl)) heap_up_ok (heap_up_eq t0 t1 w K) h)

/-- paceline/pacelineref01.Cmp -/
def pacelineref01_Cmp (t0 t1 : Value) (w : World) (K : KV) : Prop :=
  al (Value.cells t0) 24 w fun t2 w =>
  al (Value.cells t1) 24 w fun t3 w =>
  ldN 3 t2 w fun t5 w =>
  ldN 3 t3 w fun t6 w =>
  bO prog .eql 24 (Operand.tmp 5) (Operand.tmp 6) t5 t6 w fun t7 w =>
  iff' t7
  (K (Value.int IntKind.i64 0) w)
  (fld 0 t2 w fun t8 w =>
  ld1 t8 w fun t9 w =>
  fld 0 t3 w fun t10 w =>
  ld1 t10 w fun t11 w =>
  bi .lss .i64 t9 t11 w fun t12 w =>
  gd t12 false (fun k => fld 0 t2 w k) w fun t14 w =>
  gd t12 false (fun k => ld1 t14 w k) w fun t15 w =>
  gd t12 false (fun k => fld 0 t3 w k) w fun t16 w =>
  gd t12 false (fun k => ld1 t16 w k) w fun t17 w =>
  gd t12 false (fun k => bi .eql .i64 t15 t17 w k) w fun t18 w =>
  gd t12 false (fun k => k t18 w) w fun t19 w =>
  gd t19 true (fun k => fld 1 t2 w k) w fun t20 w =>
  gd t19 true (fun k => ld1 t20 w k) w fun t21 w =>
  gd t19 true (fun k => fld 1 t3 w k) w fun t22 w =>
  gd t19 true (fun k => ld1 t22 w k) w fun t23 w =>
  gd t19 true (fun k => bi .lss .i64 t21 t23 w k) w fun t24 w =>
  gd t12 false (fun k => pk t19 t24 (Value.bool false) w k) w fun t25 w =>
  pk t12 (Value.bool true) t25 w fun t26 w =>
  gd t26 false (fun k => fld 0 t2 w k) w fun t28 w =>
  gd t26 false (fun k => ld1 t28 w k) w fun t29 w =>
  gd t26 false (fun k => fld 0 t3 w k) w fun t30 w =>
  gd t26 false (fun k => ld1 t30 w k) w fun t31 w =>
  gd t26 false (fun k => bi .eql .i64 t29 t31 w k) w fun t32 w =>
  gd t26 false (fun k => k t32 w) w fun t33 w =>
  gd t33 true (fun k => fld 1 t2 w k) w fun t34 w =>
  gd t33 true (fun k => ld1 t34 w k) w fun t35 w =>
  gd t33 true (fun k => fld 1 t3 w k) w fun t36 w =>
  gd t33 true (fun k => ld1 t36 w k) w fun t37 w =>
  gd t33 true (fun k => bi .eql .i64 t35 t37 w k) w fun t38 w =>
  gd t26 false (fun k => pk t33 t38 (Value.bool false) w k) w fun t39 w =>
  gd t26 false (fun k => k t39 w) w fun t40 w =>
  gd t40 true (fun k => fld 2 t2 w k) w fun t41 w =>
  gd t40 true (fun k => ld1 t41 w k) w fun t42 w =>
  gd t40 true (fun k => fld 2 t3 w k) w fun t43 w =>
  gd t40 true (fun k => ld1 t43 w k) w fun t44 w =>
  gd t40 true (fun k => bi .lss .i64 t42 t44 w k) w fun t45 w =>
  gd t26 false (fun k => pk t40 t45 (Value.bool false) w k) w fun t46 w =>
  pk t26 (Value.bool true) t46 w fun t47 w =>
  iff' t47
  (K (Value.int IntKind.i64 (-1)) w)
  (K (Value.int IntKind.i64 1) w))
theorem pacelineref01_Cmp_eq (t0 t1 : Value) (w : World) (K : KV) : pacelineref01_Cmp t0 t1 w K = fnW prog 48 [4] (match fn102.body with | some c => c | none => .skip) #[t0, t1] w K := by kernel_rfl
theorem pacelineref01_Cmp_ok : fnOk prog 48 [4] (match fn102.body with | some c => c | none => .skip) = true := by kernel_rfl
theorem pacelineref01_Cmp_calls {t0 t1 : Value} {w : World} {K : KV} (h : pacelineref01_Cmp t0 t1 w K) : Cl prog 102 #[t0, t1] w K :=
  Cl.mk (by kernel_rfl) (calls_of_F (fn := fn102) (nt := 48) (rs := [4]) mixed fnAt102 (by kernel_rfl) (by kernel_rfl) (by kernel_rfl) (Nat.le_of_ble_eq_true (by kernel_rfl)) pacelineref01_Cmp_ok (pacelineref01_Cmp_eq t0 t1 w K) h)

/-- container/heap.down -/
def heap_down (t0 t1 t2 : Value) (w : World) (K : KV) : Prop :=
  J1 (fun t7 w =>
  bi .gtr .i64 t7 t1 w fun t47 w =>
  K t47 w) fun k1 =>
  lp [t1] w (b1 fun t7_1 w g2 =>
  bi .mul .i64 (Value.int IntKind.i64 2) t7_1 w fun t13 w =>
  bi .add .i64 t13 (Value.int IntKind.i64 1) w fun t14 w =>
  bi .geq .i64 t14 t2 w fun t17 w =>
  gd t17 false (fun k => k t14 w) w fun t19 w =>
  gd t17 false (fun k => bi .lss .i64 t19 (Value.int IntKind.i64 0) w k) w fun t20 w =>
  pk t17 (Value.bool true) t20 w fun t21 w =>
  iff' t21
  (k1 t7_1 w)
  (bi .add .i64 t14 (Value.int IntKind.i64 1) w fun t24 w =>
  bi .lss .i64 t24 t2 w fun t27 w =>
  gd t27 true (fun k => k t0 w) w fun t29 w =>
  gd t27 true (fun k => k t24 w) w fun t30 w =>
  gd t27 true (fun k => k t14 w) w fun t31 w =>
  gd t27 true (fun k => clI prog t29 "Less" #[t30, t31] w k) w fun t32 w =>
  pk t27 t32 (Value.bool false) w fun t33 w =>
  J1 (fun t9 w =>
  clI prog t0 "Less" #[t9, t7_1] w fun t38 w =>
  bnot t38 w fun t39 w =>
  iff' t39
  (k1 t7_1 w)
  (clI prog t0 "Swap" #[t7_1, t9] w fun _ w =>
  g2 [t9] w)) fun k3 =>
  iff' t33
  (k3 t24 w)
  (k3 t14 w)))
theorem heap_down_eq (t0 t1 t2 : Value) (w : World) (K : KV) : heap_down t0 t1 t2 w K = fnW prog 48 [6] (match fn103.body with | some c => c | none => .skip) #[t0, t1, t2] w K := by kernel_rfl
theorem heap_down_ok : fnOk prog 48 [6] (match fn103.body with | some c => c | none => .skip) = true := by kernel_rfl
theorem heap_down_calls {t0 t1 t2 : Value} {w : World} {K : KV} (h : heap_down t0 t1 t2 w K) : Cl prog 103 #[t0, t1, t2] w K :=
  Cl.mk (by kernel_rfl) (calls_of_F (fn := fn103) (nt := 48) (rs := [6]) mixed fnAt103 (by kernel_rfl) (by kernel_rfl) (by kernel_rfl) (Nat.le_of_ble_eq_true (by kernel_rfl)) heap_down_ok (heap_down_eq t0 t1 t2 w K) h)

/-- slices.IndexFunc[[]paceline/api.Rule,paceline/api.Rule] -/
def slices_IndexFunc_api_Rule_api_Rule (t0 t1 : Value) (w : World) (K : KV) : Prop :=
  lnS t0 w fun t7 w =>
  lp [(Value.int IntKind.i64 0)] w (b1 fun t8 w g1 =>
  bi .lss .i64 t8 t7 w fun t9 w =>
  iff' t9
  (ixS 4 t0 t8 w fun t14 w =>
  ldN 4 t14 w fun t15 w =>
  clV prog t1 #[t15] w fun t16 w =>
  iff' t16
  (K t8 w)
  (bi .add .i64 t8 (Value.int IntKind.i64 1) w fun t18 w =>
  g1 [t18] w))
  (K (Value.int IntKind.i64 (-1)) w))
theorem slices_IndexFunc_api_Rule_api_Rule_eq (t0 t1 : Value) (w : World) (K : KV) : slices_IndexFunc_api_Rule_api_Rule t0 t1 w K = fnW prog 19 [4] (match fn104.body with | some c => c | none => .skip) #[t0, t1] w K := by kernel_rfl
theorem slices_IndexFunc_api_Rule_api_Rule_ok : fnOk prog 19 [4] (match fn104.body with | some c => c | none => .skip) = true := by kernel_rfl
theorem slices_IndexFunc_api_Rule_api_Rule_calls {t0 t1 : Value} {w : World} {K : KV} (h : slices_IndexFunc_api_Rule_api_Rule t0 t1 w K) : Cl prog 104 #[t0, t1] w K :=
  Cl.mk (by kernel_rfl) (calls_of_F (fn := fn104) (nt := 19) (rs := [4]) mixed fnAt104 (by kernel_rfl) (by kernel_rfl) (by kernel_rfl) (Nat.le_of_ble_eq_true (by kernel_rfl)) slices_IndexFunc_api_Rule_api_Rule_ok (slices_IndexFunc_api_Rule_api_Rule_eq t0 t1 w K) h)

/-- paceline/table.Find$1 -/
def table_Find_1 (t0 t1 t2 : Value) (w : World) (K : KV) : Prop :=
  al (Value.cells t0) 80 w fun t3 w =>
  fld 0 t3 w fun t5 w =>
  ld1 t5 w fun t6 w =>
  ld1 t1 w fun t7 w =>
  bi .eql .i64 t6 t7 w fun t8 w =>
  gd t8 true (fun k => fld 1 t3 w k) w fun t10 w =>
  gd t8 true (fun k => ld1 t10 w k) w fun t11 w =>
  gd t8 true (fun k => ld1 t2 w k) w fun t12 w =>
  gd t8 true (fun k => bi .eql .i64 t11 t12 w k) w fun t13 w =>
  pk t8 t13 (Value.bool false) w fun t14 w =>
  K t14 w
theorem table_Find_1_eq (t0 t1 t2 : Value) (w : World) (K : KV) : table_Find_1 t0 t1 t2 w K = fnW prog 15 [4] (match fn105.body with | some c => c | none => .skip) #[t0, t1, t2] w K := by kernel_rfl
theorem table_Find_1_ok : fnOk prog 15 [4] (match fn105.body with | some c => c | none => .skip) = true := by kernel_rfl
theorem table_Find_1_calls {t0 t1 t2 : Value} {w : World} {K : KV} (h : table_Find_1 t0 t1 t2 w K) : Cl prog 105 #[t0, t1, t2] w K :=
  Cl.mk (by kernel_rfl) (calls_of_F (fn := fn105) (nt := 15) (rs := [4]) mixed fnAt105 (by kernel_rfl) (by kernel_rfl) (by kernel_rfl) (Nat.le_of_ble_eq_true (by kernel_rfl)) table_Find_1_ok (table_Find_1_eq t0 t1 t2 w K) h)

/-- paceline/table.modulo -/
def table_modulo (t0 : Value) (w : World) (K : KV) : Prop :=
  bi .rem .i64 t0 (Value.int IntKind.i64 1000) w fun t4 w =>
  bi .lss .i64 t4 (Value.int IntKind.i64 0) w fun t6 w =>
  J1 (fun t0_1 w =>
  K t0_1 w) fun k1 =>
  iff' t6
  (bi .add .i64 t4 (Value.int IntKind.i64 1000) w fun t8 w =>
  k1 t8 w)
  (k1 t4 w)
theorem table_modulo_eq (t0 : Value) (w : World) (K : KV) : table_modulo t0 w K = fnW prog 10 [2] (match fn106.body with | some c => c | none => .skip) #[t0] w K := by kernel_rfl
theorem table_modulo_ok : fnOk prog 10 [2] (match fn106.body with | some c => c | none => .skip) = true := by kernel_rfl
theorem table_modulo_calls {t0 : Value} {w : World} {K : KV} (h : table_modulo t0 w K) : Cl prog 106 #[t0] w K :=
  Cl.mk (by kernel_rfl) (calls_of_F (fn := fn106) (nt := 10) (rs := [2]) mixed fnAt106 (by kernel_rfl) (by kernel_rfl) (by kernel_rfl) (Nat.le_of_ble_eq_true (by kernel_rfl)) table_modulo_ok (table_modulo_eq t0 w K) h)

/-- slices.ContainsFunc[[]int,int] -/
def slices_ContainsFunc_int_int (t0 t1 : Value) (w : World) (K : KV) : Prop :=
  Cl prog 122 #[t0, t1] w fun t7 w =>
  bi .geq .i64 t7 (Value.int IntKind.i64 0) w fun t8 w =>
  K t8 w
theorem slices_ContainsFunc_int_int_eq (t0 t1 : Value) (w : World) (K : KV) : slices_ContainsFunc_int_int t0 t1 w K = fnW prog 9 [4] (match fn107.body with | some c => c | none => .skip) #[t0, t1] w K := by kernel_rfl
theorem slices_ContainsFunc_int_int_ok : fnOk prog 9 [4] (match fn107.body with | some c => c | none => .skip) = true := by kernel_rfl
theorem slices_ContainsFunc_int_int_calls {t0 t1 : Value} {w : World} {K : KV} (h : slices_ContainsFunc_int_int t0 t1 w K) : Cl prog 107 #[t0, t1] w K :=
  Cl.mk (by kernel_rfl) (calls_of_F (fn := fn107) (nt := 9) (rs := [4]) mixed fnAt107 (by kernel_rfl) (by kernel_rfl) (by kernel_rfl) (Nat.le_of_ble_eq_true (by kernel_rfl)) slices_ContainsFunc_int_int_ok (slices_ContainsFunc_int_int_eq t0 t1 w K) h)

/-- paceline/config.Routes$1 -/
def config_Routes_1 (t0 t1 t2 : Value) (w : World) (K : KV) : Prop :=
  fld 0 t1 w fun t5 w =>
  ld1 t5 w fun t6 w =>
  ld1 t2 w fun t7 w =>
  Cl prog 109 #[t6, t7, t0] w fun t9 w =>
  K t9 w
theorem config_Routes_1_eq (t0 t1 t2 : Value) (w : World) (K : KV) : config_Routes_1 t0 t1 t2 w K = fnW prog 10 [4] (match fn108.body with | some c => c | none => .skip) #[t0, t1, t2] w K := by kernel_rfl
theorem config_Routes_1_ok : fnOk prog 10 [4] (match fn108.body with | some c => c | none => .skip) = true := by kernel_rfl
theorem config_Routes_1_calls {t0 t1 t2 : Value} {w : World} {K : KV} (h : config_Routes_1 t0 t1 t2 w K) : Cl prog 108 #[t0, t1, t2] w K :=
  Cl.mk (by kernel_rfl) (calls_of_F (fn := fn108) (nt := 10) (rs := [4]) mixed fnAt108 (by kernel_rfl) (by kernel_rfl) (by kernel_rfl) (Nat.le_of_ble_eq_true (by kernel_rfl)) config_Routes_1_ok (config_Routes_1_eq t0 t1 t2 w K) h)

/-- paceline/tree.IsA -/
def tree_IsA (t0 t1 t2 : Value) (w : World) (K : KV) : Prop :=
  al (Value.cells t2) 3 w fun t5 w =>
  al (zeroD prog 4) 4 w fun t6 w =>
  Cl prog 123 #[t0, t1] w fun t10 w =>
  rfWC prog t10 1 (fun l a w k =>
  bgn l w fun w =>
  ld1 t5 w fun t13 w =>
  bi .eql .i64 (a 0) t13 w fun t14 w =>
  iff' t14
  (stN 1 t6 (Value.bool true) w fun _ w =>
  edr l w fun w => k (.bool false) w)
  (edn l w fun w => k (.bool true) w)) w
  (fun D w =>
  stN 1 t6 (Value.bool false) w fun _ w =>
  rdef D w fun w =>
  ld1 t6 w fun r0 _ =>
  K r0 w)
  (fun D w =>
  rdef D w fun w =>
  ld1 t6 w fun r0 _ =>
  K r0 w)
theorem tree_IsA_eq (t0 t1 t2 : Value) (w : World) (K : KV) : tree_IsA t0 t1 t2 w K = fnRFCb prog 15 [(6, some 4)] fn109.body #[t0, t1, t2] w K := by kernel_rfl
theorem tree_IsA_ok : fnOkRFCb prog 15 [(6, some 4)] fn109.body = true := by kernel_rfl
theorem tree_IsA_calls {t0 t1 t2 : Value} {w : World} {K : KV} (h : tree_IsA t0 t1 t2 w K) : Cl prog 109 #[t0, t1, t2] w K :=
  Cl.mk (by kernel_rfl) (calls_of_fnRFCb (fn := fn109) (nt := 15) (rs := [(6, some 4)]) mixed fnAt109 (by kernel_rfl) (by kernel_rfl) (Nat.le_of_ble_eq_true (by kernel_rfl)) tree_IsA_ok (tree_IsA_eq t0 t1 t2 w K) h)

/-- paceline/pacelineref05.Above -/
def pacelineref05_Above (t0 t1 : Value) (w : World) (K : KV) : Prop :=
  bsl 3 1 0 #[] [] w fun t6 w =>
  Cl prog 66 #[t0] w fun t8 w =>
  bi .neq .i64 t8 (Value.int IntKind.i64 0) w fun t9 w =>
  gd t9 false (fun k => k t1 w) w fun t11 w =>
  gd t9 false (fun k => bi .lss .i64 t11 (Value.int IntKind.i64 0) w k) w fun t12 w =>
  pk t9 (Value.bool true) t12 w fun t13 w =>
  gd t13 false (fun k => k t1 w) w fun t15 w =>
  gd t13 false (fun k => k t0 w) w fun t16 w =>
  gd t13 false (fun k => lnS t16 w k) w fun t17 w =>
  gd t13 false (fun k => bi .geq .i64 t15 t17 w k) w fun t18 w =>
  pk t13 (Value.bool true) t18 w fun t19 w =>
  iff' t19
  (K t6 w)
  (lp [t1, t6] w (b2 fun t1_1 t5 w g1 =>
  bi .geq .i64 t1_1 (Value.int IntKind.i64 0) w fun t22 w =>
  iff' t22
  (bsl 3 1 1 (zeroD prog 3) [(0, t1_1)] w fun t25 w =>
  apS prog #[36, 36] 36 t5 t25 w fun t26 w =>
  ixS 1 t0 t1_1 w fun t29 w =>
  ld1 t29 w fun t30 w =>
  g1 [t30, t26] w)
  (K t5 w)))
theorem pacelineref05_Above_eq (t0 t1 : Value) (w : World) (K : KV) : pacelineref05_Above t0 t1 w K = fnW prog 32 [4] (match fn110.body with | some c => c | none => .skip) #[t0, t1] w K := by kernel_rfl
theorem pacelineref05_Above_ok : fnOk prog 32 [4] (match fn110.body with | some c => c | none => .skip) = true := by kernel_rfl
theorem pacelineref05_Above_calls {t0 t1 : Value} {w : World} {K : KV} (h : pacelineref05_Above t0 t1 w K) : Cl prog 110 #[t0, t1] w K :=
  Cl.mk (by kernel_rfl) (calls_of_F (fn := fn110) (nt := 32) (rs := [4]) mixed fnAt110 (by kernel_rfl) (by kernel_rfl) (by kernel_rfl) (Nat.le_of_ble_eq_true (by kernel_rfl)) pacelineref05_Above_ok (pacelineref05_Above_eq t0 t1 w K) h)

/-- cmp.Or[int] -/
def cmp_Or_int (t0 : Value) (w : World) (K : KV) : Prop :=
  lnS t0 w fun t7 w =>
  lp [(Value.int IntKind.i64 0)] w (b1 fun t8 w g1 =>
  bi .lss .i64 t8 t7 w fun t9 w =>
  iff' t9
  (ixS 1 t0 t8 w fun t10 w =>
  ld1 t10 w fun t11 w =>
  bi .neq .i64 t11 (Value.int IntKind.i64 0) w fun t14 w =>
  iff' t14
  (K t11 w)
  (bi .add .i64 t8 (Value.int IntKind.i64 1) w fun t16 w =>
  g1 [t16] w))
  (K (Value.int IntKind.i64 0) w))
theorem cmp_Or_int_eq (t0 : Value) (w : World) (K : KV) : cmp_Or_int t0 w K = fnW prog 18 [2] (match fn113.body with | some c => c | none => .skip) #[t0] w K := by kernel_rfl
theorem cmp_Or_int_ok : fnOk prog 18 [2] (match fn113.body with | some c => c | none => .skip) = true := by kernel_rfl
theorem cmp_Or_int_calls {t0 : Value} {w : World} {K : KV} (h : cmp_Or_int t0 w K) : Cl prog 113 #[t0] w K :=
  Cl.mk (by kernel_rfl) (calls_of_F (fn := fn113) (nt := 18) (rs := [2]) mixed fnAt113 (by kernel_rfl) (by kernel_rfl) (by kernel_rfl) (Nat.le_of_ble_eq_true (by kernel_rfl)) cmp_Or_int_ok (cmp_Or_int_eq t0 w K) h)

/-- cmp.Compare[int] -/
def cmp_Compare_int (t0 t1 : Value) (w : World) (K : KV) : Prop :=
  Cl prog 134 #[t0] w fun t8 w =>
  Cl prog 134 #[t1] w fun t10 w =>
  iff' t8
  (iff' t10
  (K (Value.int IntKind.i64 0) w)
  (K (Value.int IntKind.i64 (-1)) w))
  (iff' t10
  (K (Value.int IntKind.i64 1) w)
  (bi .lss .i64 t0 t1 w fun t16 w =>
  iff' t16
  (K (Value.int IntKind.i64 (-1)) w)
  (bi .gtr .i64 t0 t1 w fun t19 w =>
  iff' t19
  (K (Value.int IntKind.i64 1) w)
  (K (Value.int IntKind.i64 0) w))))
theorem cmp_Compare_int_eq (t0 t1 : Value) (w : World) (K : KV) : cmp_Compare_int t0 t1 w K = fnW prog 20 [4] (match fn114.body with | some c => c | none => .skip) #[t0, t1] w K := by kernel_rfl
theorem cmp_Compare_int_ok : fnOk prog 20 [4] (match fn114.body with | some c => c | none => .skip) = true := by kernel_rfl
theorem cmp_Compare_int_calls {t0 t1 : Value} {w : World} {K : KV} (h : cmp_Compare_int t0 t1 w K) : Cl prog 114 #[t0, t1] w K :=
  Cl.mk (by kernel_rfl) (calls_of_F (fn := fn114) (nt := 20) (rs := [4]) mixed fnAt114 (by kernel_rfl) (by kernel_rfl) (by kernel_rfl) (Nat.le_of_ble_eq_true (by kernel_rfl)) cmp_Compare_int_ok (cmp_Compare_int_eq t0 t1 w K) h)

/-- paceline/vtime.clamp -/
def vtime_clamp (t0 : Value) (w : World) (K : KV) : Prop :=
  bi .lss .i64 t0 (Value.int IntKind.i64 0) w fun t5 w =>
  iff' t5
  (K (Value.int IntKind.i64 0) w)
  (bi .gtr .i64 t0 (Value.int IntKind.i64 1099511627776) w fun t8 w =>
  iff' t8
  (K (Value.int IntKind.i64 1125899906842624) w)
  (K t0 w))
theorem vtime_clamp_eq (t0 : Value) (w : World) (K : KV) : vtime_clamp t0 w K = fnW prog 10 [2] (match fn115.body with | some c => c | none => .skip) #[t0] w K := by kernel_rfl
theorem vtime_clamp_ok : fnOk prog 10 [2] (match fn115.body with | some c => c | none => .skip) = true := by kernel_rfl
theorem vtime_clamp_calls {t0 : Value} {w : World} {K : KV} (h : vtime_clamp t0 w K) : Cl prog 115 #[t0] w K :=
  Cl.mk (by kernel_rfl) (calls_of_F (fn := fn115) (nt := 10) (rs := [2]) mixed fnAt115 (by kernel_rfl) (by kernel_rfl) (by kernel_rfl) (Nat.le_of_ble_eq_true (by kernel_rfl)) vtime_clamp_ok (vtime_clamp_eq t0 w K) h)

/-- paceline/pacelineref01.time -/
def pacelineref01_time (t0 : Value) (w : World) (K : KV) : Prop :=
  bi .lss .i64 t0 (Value.int IntKind.i64 0) w fun t4 w =>
  iff' t4
  (K (Value.int IntKind.i64 0) w)
  (bi .gtr .i64 t0 (Value.int IntKind.i64 1099511627776) w fun t6 w =>
  iff' t6
  (K (Value.int IntKind.i64 1125899906842624) w)
  (K t0 w))
theorem pacelineref01_time_eq (t0 : Value) (w : World) (K : KV) : pacelineref01_time t0 w K = fnW prog 8 [2] (match fn116.body with | some c => c | none => .skip) #[t0] w K := by kernel_rfl
theorem pacelineref01_time_ok : fnOk prog 8 [2] (match fn116.body with | some c => c | none => .skip) = true := by kernel_rfl
theorem pacelineref01_time_calls {t0 : Value} {w : World} {K : KV} (h : pacelineref01_time t0 w K) : Cl prog 116 #[t0] w K :=
  Cl.mk (by kernel_rfl) (calls_of_F (fn := fn116) (nt := 8) (rs := [2]) mixed fnAt116 (by kernel_rfl) (by kernel_rfl) (by kernel_rfl) (Nat.le_of_ble_eq_true (by kernel_rfl)) pacelineref01_time_ok (pacelineref01_time_eq t0 w K) h)

/-- slices.Index[[]int,int] -/
def slices_Index_int_int (t0 t1 : Value) (w : World) (K : KV) : Prop :=
  lnS t0 w fun t7 w =>
  lp [(Value.int IntKind.i64 0)] w (b1 fun t8 w g1 =>
  bi .lss .i64 t8 t7 w fun t9 w =>
  iff' t9
  (ixS 1 t0 t8 w fun t14 w =>
  ld1 t14 w fun t15 w =>
  bi .eql .i64 t1 t15 w fun t16 w =>
  iff' t16
  (K t8 w)
  (bi .add .i64 t8 (Value.int IntKind.i64 1) w fun t18 w =>
  g1 [t18] w))
  (K (Value.int IntKind.i64 (-1)) w))
theorem slices_Index_int_int_eq (t0 t1 : Value) (w : World) (K : KV) : slices_Index_int_int t0 t1 w K = fnW prog 19 [4] (match fn117.body with | some c => c | none => .skip) #[t0, t1] w K := by kernel_rfl
theorem slices_Index_int_int_ok : fnOk prog 19 [4] (match fn117.body with | some c => c | none => .skip) = true := by kernel_rfl
theorem slices_Index_int_int_calls {t0 t1 : Value} {w : World} {K : KV} (h : slices_Index_int_int t0 t1 w K) : Cl prog 117 #[t0, t1] w K :=
  Cl.mk (by kernel_rfl) (calls_of_F (fn := fn117) (nt := 19) (rs := [4]) mixed fnAt117 (by kernel_rfl) (by kernel_rfl) (by kernel_rfl) (Nat.le_of_ble_eq_true (by kernel_rfl)) slices_Index_int_int_ok (slices_Index_int_int_eq t0 t1 w K) h)

/-- paceline/table.Check$1 -/
def table_Check_1 (t0 : Value) (w : World) (K : KV) : Prop :=
  al (Value.cells t0) 78 w fun t1 w =>
  fld 0 t1 w fun t3 w =>
  ld1 t3 w fun t4 w =>
  Cl prog 119 #[t4, (Value.int IntKind.i64 16)] w fun t5 w =>
  bnot t5 w fun t6 w =>
  gd t6 false (fun k => fld 1 t1 w k) w fun t8 w =>
  gd t6 false (fun k => ld1 t8 w k) w fun t9 w =>
  gd t6 false (fun k => Cl prog 119 #[t9, (Value.int IntKind.i64 1048577)] w k) w fun t10 w =>
  gd t6 false (fun k => bnot t10 w k) w fun t11 w =>
  pk t6 (Value.bool true) t11 w fun t12 w =>
  gd t12 false (fun k => fld 2 t1 w k) w fun t14 w =>
  gd t12 false (fun k => ld1 t14 w k) w fun t15 w =>
  gd t12 false (fun k => Cl prog 119 #[t15, (Value.int IntKind.i64 1000)] w k) w fun t16 w =>
  gd t12 false (fun k => bnot t16 w k) w fun t17 w =>
  pk t12 (Value.bool true) t17 w fun t18 w =>
  K t18 w
theorem table_Check_1_eq (t0 : Value) (w : World) (K : KV) : table_Check_1 t0 w K = fnW prog 19 [2] (match fn118.body with | some c => c | none => .skip) #[t0] w K := by kernel_rfl
theorem table_Check_1_ok : fnOk prog 19 [2] (match fn118.body with | some c => c | none => .skip) = true := by kernel_rfl
theorem table_Check_1_calls {t0 : Value} {w : World} {K : KV} (h : table_Check_1 t0 w K) : Cl prog 118 #[t0] w K :=
  Cl.mk (by kernel_rfl) (calls_of_F (fn := fn118) (nt := 19) (rs := [2]) mixed fnAt118 (by kernel_rfl) (by kernel_rfl) (by kernel_rfl) (Nat.le_of_ble_eq_true (by kernel_rfl)) table_Check_1_ok (table_Check_1_eq t0 w K) h)

/-- paceline/table.below -/
def table_below (t0 t1 : Value) (w : World) (K : KV) : Prop :=
  cvI .u64 t0 w fun t6 w =>
  cvI .u64 t1 w fun t8 w =>
  bi .lss .u64 t6 t8 w fun t9 w =>
  K t9 w
theorem table_below_eq (t0 t1 : Value) (w : World) (K : KV) : table_below t0 t1 w K = fnW prog 10 [4] (match fn119.body with | some c => c | none => .skip) #[t0, t1] w K := by kernel_rfl
theorem table_below_ok : fnOk prog 10 [4] (match fn119.body with | some c => c | none => .skip) = true := by kernel_rfl
theorem table_below_calls {t0 t1 : Value} {w : World} {K : KV} (h : table_below t0 t1 w K) : Cl prog 119 #[t0, t1] w K :=
  Cl.mk (by kernel_rfl) (calls_of_F (fn := fn119) (nt := 10) (rs := [4]) mixed fnAt119 (by kernel_rfl) (by kernel_rfl) (by kernel_rfl) (Nat.le_of_ble_eq_true (by kernel_rfl)) table_below_ok (table_below_eq t0 t1 w K) h)

/-- slices.IndexFunc[[]paceline/api.Out,paceline/api.Out] -/
def slices_IndexFunc_api_Out_api_Out (t0 t1 : Value) (w : World) (K : KV) : Prop :=
  lnS t0 w fun t7 w =>
  lp [(Value.int IntKind.i64 0)] w (b1 fun t8 w g1 =>
  bi .lss .i64 t8 t7 w fun t9 w =>
  iff' t9
  (ixS 3 t0 t8 w fun t14 w =>
  ldN 3 t14 w fun t15 w =>
  clV prog t1 #[t15] w fun t16 w =>
  iff' t16
  (K t8 w)
  (bi .add .i64 t8 (Value.int IntKind.i64 1) w fun t18 w =>
  g1 [t18] w))
  (K (Value.int IntKind.i64 (-1)) w))
theorem slices_IndexFunc_api_Out_api_Out_eq (t0 t1 : Value) (w : World) (K : KV) : slices_IndexFunc_api_Out_api_Out t0 t1 w K = fnW prog 19 [4] (match fn120.body with | some c => c | none => .skip) #[t0, t1] w K := by kernel_rfl
theorem slices_IndexFunc_api_Out_api_Out_ok : fnOk prog 19 [4] (match fn120.body with | some c => c | none => .skip) = true := by kernel_rfl
theorem slices_IndexFunc_api_Out_api_Out_calls {t0 t1 : Value} {w : World} {K : KV} (h : slices_IndexFunc_api_Out_api_Out t0 t1 w K) : Cl prog 120 #[t0, t1] w K :=
  Cl.mk (by kernel_rfl) (calls_of_F (fn := fn120) (nt := 19) (rs := [4]) mixed fnAt120 (by kernel_rfl) (by kernel_rfl) (by kernel_rfl) (Nat.le_of_ble_eq_true (by kernel_rfl)) slices_IndexFunc_api_Out_api_Out_ok (slices_IndexFunc_api_Out_api_Out_eq t0 t1 w K) h)

/-- paceline/pacelineref07.fine -/
def pacelineref07_fine (t0 : Value) (w : World) (K : KV) : Prop :=
  al (Value.cells t0) 80 w fun t1 w =>
  fld 0 t1 w fun t5 w =>
  ld1 t5 w fun t6 w =>
  Cl prog 135 #[t6, (Value.int IntKind.i64 8)] w fun t7 w =>
  bnot t7 w fun t8 w =>
  gd t8 false (fun k => fld 2 t1 w k) w fun t10 w =>
  gd t8 false (fun k => ld1 t10 w k) w fun t11 w =>
  gd t8 false (fun k => Cl prog 135 #[t11, (Value.int IntKind.i64 8)] w k) w fun t12 w =>
  gd t8 false (fun k => bnot t12 w k) w fun t13 w =>
  pk t8 (Value.bool true) t13 w fun t14 w =>
  gd t14 false (fun k => fld 1 t1 w k) w fun t16 w =>
  gd t14 false (fun k => ld1 t16 w k) w fun t17 w =>
  gd t14 false (fun k => Cl prog 135 #[t17, (Value.int IntKind.i64 16)] w k) w fun t18 w =>
  gd t14 false (fun k => bnot t18 w k) w fun t19 w =>
  pk t14 (Value.bool true) t19 w fun t20 w =>
  gd t20 false (fun k => fld 3 t1 w k) w fun t22 w =>
  gd t20 false (fun k => ld1 t22 w k) w fun t23 w =>
  gd t20 false (fun k => lnS t23 w k) w fun t24 w =>
  gd t20 false (fun k => bi .gtr .i64 t24 (Value.int IntKind.i64 3) w k) w fun t25 w =>
  pk t20 (Value.bool true) t25 w fun t26 w =>
  iff' t26
  (K (Value.bool false) w)
  (lp [(Value.int IntKind.i64 0)] w (b1 fun t3 w g1 =>
  fld 3 t1 w fun t28 w =>
  ld1 t28 w fun t29 w =>
  lnS t29 w fun t30 w =>
  bi .lss .i64 t3 t30 w fun t31 w =>
  iff' t31
  (fld 3 t1 w fun t34 w =>
  ld1 t34 w fun t35 w =>
  ixS 3 t35 t3 w fun t37 w =>
  ldN 3 t37 w fun t38 w =>
  al (zeroD prog 78) 78 w fun t4 w =>
  stN 3 t4 t38 w fun _ w =>
  fld 0 t4 w fun t39 w =>
  ld1 t39 w fun t40 w =>
  Cl prog 135 #[t40, (Value.int IntKind.i64 16)] w fun t41 w =>
  bnot t41 w fun t42 w =>
  gd t42 false (fun k => fld 1 t4 w k) w fun t44 w =>
  gd t42 false (fun k => ld1 t44 w k) w fun t45 w =>
  gd t42 false (fun k => Cl prog 135 #[t45, (Value.int IntKind.i64 1048577)] w k) w fun t46 w =>
  gd t42 false (fun k => bnot t46 w k) w fun t47 w =>
  pk t42 (Value.bool true) t47 w fun t48 w =>
  gd t48 false (fun k => fld 2 t4 w k) w fun t50 w =>
  gd t48 false (fun k => ld1 t50 w k) w fun t51 w =>
  gd t48 false (fun k => Cl prog 135 #[t51, (Value.int IntKind.i64 1000)] w k) w fun t52 w =>
  gd t48 false (fun k => bnot t52 w k) w fun t53 w =>
  pk t48 (Value.bool true) t53 w fun t54 w =>
  iff' t54
  (K (Value.bool false) w)
  (bi .add .i64 t3 (Value.int IntKind.i64 1) w fun t33 w =>
  g1 [t33] w))
  (K (Value.bool true) w)))
theorem pacelineref07_fine_eq (t0 : Value) (w : World) (K : KV) : pacelineref07_fine t0 w K = fnW prog 55 [2] (match fn121.body with | some c => c | none => .skip) #[t0] w K := by kernel_rfl
theorem pacelineref07_fine_ok : fnOk prog 55 [2] (match fn121.body with | some c => c | none => .skip) = true := by kernel_rfl
theorem pacelineref07_fine_calls {t0 : Value} {w : World} {K : KV} (h : pacelineref07_fine t0 w K) : Cl prog 121 #[t0] w K :=
  Cl.mk (by kernel_rfl) (calls_of_F (fn := fn121) (nt := 55) (rs := [2]) mixed fnAt121 (by kernel_rfl) (by kernel_rfl) (by kernel_rfl) (Nat.le_of_ble_eq_true (by kernel_rfl)) pacelineref07_fine_ok (pacelineref07_fine_eq t0 w K) h)

/-- slices.IndexFunc[[]int,int] -/
def slices_IndexFunc_int_int (t0 t1 : Value) (w : World) (K : KV) : Prop :=
  lnS t0 w fun t7 w =>
  lp [(Value.int IntKind.i64 0)] w (b1 fun t8 w g1 =>
  bi .lss .i64 t8 t7 w fun t9 w =>
  iff' t9
  (ixS 1 t0 t8 w fun t14 w =>
  ld1 t14 w fun t15 w =>
  clV prog t1 #[t15] w fun t16 w =>
  iff' t16
  (K t8 w)
  (bi .add .i64 t8 (Value.int IntKind.i64 1) w fun t18 w =>
  g1 [t18] w))
  (K (Value.int IntKind.i64 (-1)) w))
theorem slices_IndexFunc_int_int_eq (t0 t1 : Value) (w : World) (K : KV) : slices_IndexFunc_int_int t0 t1 w K = fnW prog 19 [4] (match fn122.body with | some c => c | none => .skip) #[t0, t1] w K := by kernel_rfl
theorem slices_IndexFunc_int_int_ok : fnOk prog 19 [4] (match fn122.body with | some c => c | none => .skip) = true := by kernel_rfl
theorem slices_IndexFunc_int_int_calls {t0 t1 : Value} {w : World} {K : KV} (h : slices_IndexFunc_int_int t0 t1 w K) : Cl prog 122 #[t0, t1] w K :=
  Cl.mk (by kernel_rfl) (calls_of_F (fn := fn122) (nt := 19) (rs := [4]) mixed fnAt122 (by kernel_rfl) (by kernel_rfl) (by kernel_rfl) (Nat.le_of_ble_eq_true (by kernel_rfl)) slices_IndexFunc_int_int_ok (slices_IndexFunc_int_int_eq t0 t1 w K) h)

/-- paceline/tree.up -/
def tree_up (t0 t1 : Value) (w : World) (K : KV) : Prop :=
  al (Value.cells t0) 36 w fun t2 w =>
  al (Value.cells t1) 3 w fun t3 w =>
  K (Value.func (Fn.func 136) #[] #[t3, t2]) w
theorem tree_up_eq (t0 t1 : Value) (w : World) (K : KV) : tree_up t0 t1 w K = fnW prog 6 [4] (match fn123.body with | some c => c | none => .skip) #[t0, t1] w K := by kernel_rfl
theorem tree_up_ok : fnOk prog 6 [4] (match fn123.body with | some c => c | none => .skip) = true := by kernel_rfl
theorem tree_up_calls {t0 t1 : Value} {w : World} {K : KV} (h : tree_up t0 t1 w K) : Cl prog 123 #[t0, t1] w K :=
  Cl.mk (by kernel_rfl) (calls_of_F (fn := fn123) (nt := 6) (rs := [4]) mixed fnAt123 (by kernel_rfl) (by kernel_rfl) (by kernel_rfl) (Nat.le_of_ble_eq_true (by kernel_rfl)) tree_up_ok (tree_up_eq t0 t1 w K) h)

/-- cmp.isNaN[int] -/
def cmp_isNaN_int (t0 : Value) (w : World) (K : KV) : Prop :=
  bi .neq .i64 t0 t0 w fun t5 w =>
  K t5 w
theorem cmp_isNaN_int_eq (t0 : Value) (w : World) (K : KV) : cmp_isNaN_int t0 w K = fnW prog 6 [2] (match fn134.body with | some c => c | none => .skip) #[t0] w K := by kernel_rfl
theorem cmp_isNaN_int_ok : fnOk prog 6 [2] (match fn134.body with | some c => c | none => .skip) = true := by kernel_rfl
theorem cmp_isNaN_int_calls {t0 : Value} {w : World} {K : KV} (h : cmp_isNaN_int t0 w K) : Cl prog 134 #[t0] w K :=
  Cl.mk (by kernel_rfl) (calls_of_F (fn := fn134) (nt := 6) (rs := [2]) mixed fnAt134 (by kernel_rfl) (by kernel_rfl) (by kernel_rfl) (Nat.le_of_ble_eq_true (by kernel_rfl)) cmp_isNaN_int_ok (cmp_isNaN_int_eq t0 w K) h)

/-- paceline/pacelineref07.in -/
def pacelineref07_in (t0 t1 : Value) (w : World) (K : KV) : Prop :=
  bi .geq .i64 t0 (Value.int IntKind.i64 0) w fun t6 w =>
  gd t6 true (fun k => k t0 w) w fun t8 w =>
  gd t6 true (fun k => k t1 w) w fun t9 w =>
  gd t6 true (fun k => bi .lss .i64 t8 t9 w k) w fun t10 w =>
  pk t6 t10 (Value.bool false) w fun t11 w =>
  K t11 w
theorem pacelineref07_in_eq (t0 t1 : Value) (w : World) (K : KV) : pacelineref07_in t0 t1 w K = fnW prog 12 [4] (match fn135.body with | some c => c | none => .skip) #[t0, t1] w K := by kernel_rfl
theorem pacelineref07_in_ok : fnOk prog 12 [4] (match fn135.body with | some c => c | none => .skip) = true := by kernel_rfl
theorem pacelineref07_in_calls {t0 t1 : Value} {w : World} {K : KV} (h : pacelineref07_in t0 t1 w K) : Cl prog 135 #[t0, t1] w K :=
  Cl.mk (by kernel_rfl) (calls_of_F (fn := fn135) (nt := 12) (rs := [4]) mixed fnAt135 (by kernel_rfl) (by kernel_rfl) (by kernel_rfl) (Nat.le_of_ble_eq_true (by kernel_rfl)) pacelineref07_in_ok (pacelineref07_in_eq t0 t1 w K) h)

end Go.Proofs.YtenglfaeohgkfaaGreat
