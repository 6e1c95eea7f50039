/- Printed by prt.py: the Go functions of this seat as shallow predicate transformers. Conditions: none. -/
import Derived.Test.YtfcnjbannejchaaEngO
import Derived.Test.YtfcnjbannejchaaEngZ
import Derived.Test.YtfcnjbannejchaaPfHead
import Derived.KernelRfl
namespace Go.Proofs.Ytfcnjbannejchaa
open Go Go.E
set_option linter.unusedVariables false
set_option maxRecDepth 100000
/-- paceline/pacelineref07.Check -/
def pacelineref07_Check (t0 : Value) (w : World) (K : KV) : Prop :=
  lnS t0 w fun t5 w =>
  bi .gtr .i64 t5 (Value.int IntKind.i64 32) w fun t6 w =>
  iff' t6
  (K (Value.int IntKind.i64 70) w)
  (lp [(Value.int IntKind.i64 0)] w (b1 fun t3 w g1 =>
  lnS t0 w fun t9 w =>
  bi .lss .i64 t3 t9 w fun t10 w =>
  iff' t10
  (dr w fun w =>
  ixS 4 t0 t3 w fun t15 _ =>
  ldN 4 t15 w fun t16 _ =>
  Cl prog 75 #[t16] w fun t17 w =>
  bnot t17 w fun t18 _ =>
  gd t18 false (fun k => k t0 w) w fun t20 _ =>
  gd t18 false (fun k => k t0 w) w fun t21 _ =>
  gd t18 false (fun k => k t3 w) w fun t22 _ =>
  gd t18 false (fun k => ixS 4 t21 t22 w k) w fun t23 _ =>
  gd t18 false (fun k => fld 0 t23 w k) w fun t24 _ =>
  gd t18 false (fun k => ld1 t24 w k) w fun t25 _ =>
  gd t18 false (fun k => k t0 w) w fun t26 _ =>
  gd t18 false (fun k => k t3 w) w fun t27 _ =>
  gd t18 false (fun k => ixS 4 t26 t27 w k) w fun t28 _ =>
  gd t18 false (fun k => fld 1 t28 w k) w fun t29 _ =>
  gd t18 false (fun k => ld1 t29 w k) w fun t30 _ =>
  gd t18 false (fun k => k t3 w) w fun t32 _ =>
  gd t18 false (fun k => Cl prog 76 #[t20, t25, t30] w k) w fun t31 w =>
  gd t18 false (fun k => bi .neq .i64 t31 t32 w k) w fun t33 _ =>
  pk t18 (Value.bool true) t33 w fun t34 _ =>
  iff' t34
  (K (Value.int IntKind.i64 70) w)
  (bi .add .i64 t3 (Value.int IntKind.i64 1) w fun t12 w =>
  g1 [t12] w))
  (K (Value.int IntKind.i64 0) w)))
theorem pacelineref07_Check_eq (t0 : Value) (w : World) (K : KV) : pacelineref07_Check t0 w K = fnW prog 35 [2] (match fn51.body with | some c => c | none => .skip) #[t0] w K := by kernel_rfl
theorem pacelineref07_Check_ok : fnOk prog 35 [2] (match fn51.body with | some c => c | none => .skip) = true := by kernel_rfl
theorem pacelineref07_Check_calls {t0 : Value} {w : World} {K : KV} (h : pacelineref07_Check t0 w K) : Cl prog 51 #[t0] w K :=
  Cl.mk (by kernel_rfl) (calls_of_F (fn := fn51) (nt := 35) (rs := [2]) mixed fnAt51 (by kernel_rfl) (by kernel_rfl) (by kernel_rfl) (Nat.le_of_ble_eq_true (by kernel_rfl)) pacelineref07_Check_ok (pacelineref07_Check_eq t0 w K) h)

/-- paceline/pacelineref08.classes -/
def pacelineref08_classes (t0 t1 : Value) (w : World) (K : KV) : Prop :=
  lp [(Value.int IntKind.i64 0)] w (b1 fun t5 w g1 =>
  lnS t0 w fun t8 w =>
  bi .lss .i64 t5 t8 w fun t9 w =>
  iff' t9
  (dr w fun w =>
  ixS 1 t0 t5 w fun t14 _ =>
  ld1 t14 w fun t15 _ =>
  bi .lss .i64 t15 (Value.int IntKind.i64 0) w fun t16 _ =>
  gd t16 false (fun k => k t0 w) w fun t18 _ =>
  gd t16 false (fun k => k t5 w) w fun t19 _ =>
  gd t16 false (fun k => ixS 1 t18 t19 w k) w fun t20 _ =>
  gd t16 false (fun k => ld1 t20 w k) w fun t21 _ =>
  gd t16 false (fun k => k t1 w) w fun t22 _ =>
  gd t16 false (fun k => bi .geq .i64 t21 t22 w k) w fun t23 _ =>
  pk t16 (Value.bool true) t23 w fun t24 _ =>
  gd t24 false (fun k => k t5 w) w fun t26 _ =>
  gd t24 false (fun k => bi .gtr .i64 t26 (Value.int IntKind.i64 0) w k) w fun t27 _ =>
  gd t24 false (fun k => k t27 w) w fun t28 _ =>
  gd t28 true (fun k => k t0 w) w fun t29 _ =>
  gd t28 true (fun k => k t5 w) w fun t30 _ =>
  gd t28 true (fun k => ixS 1 t29 t30 w k) w fun t31 _ =>
  gd t28 true (fun k => ld1 t31 w k) w fun t32 _ =>
  gd t28 true (fun k => k t0 w) w fun t33 _ =>
  gd t28 true (fun k => k t5 w) w fun t34 _ =>
  gd t28 true (fun k => bi .sub .i64 t34 (Value.int IntKind.i64 1) w k) w fun t35 _ =>
  gd t28 true (fun k => ixS 1 t33 t35 w k) w fun t36 _ =>
  gd t28 true (fun k => ld1 t36 w k) w fun t37 _ =>
  gd t28 true (fun k => bi .leq .i64 t32 t37 w k) w fun t38 _ =>
  gd t24 false (fun k => pk t28 t38 (Value.bool false) w k) w fun t39 _ =>
  pk t24 (Value.bool true) t39 w fun t40 _ =>
  iff' t40
  (K (Value.bool false) w)
  (bi .add .i64 t5 (Value.int IntKind.i64 1) w fun t11 w =>
  g1 [t11] w))
  (K (Value.bool true) w))
theorem pacelineref08_classes_eq (t0 t1 : Value) (w : World) (K : KV) : pacelineref08_classes t0 t1 w K = fnW prog 41 [4] (match fn52.body with | some c => c | none => .skip) #[t0, t1] w K := by kernel_rfl
theorem pacelineref08_classes_ok : fnOk prog 41 [4] (match fn52.body with | some c => c | none => .skip) = true := by kernel_rfl
theorem pacelineref08_classes_calls {t0 t1 : Value} {w : World} {K : KV} (h : pacelineref08_classes t0 t1 w K) : Cl prog 52 #[t0, t1] w K :=
  Cl.mk (by kernel_rfl) (calls_of_F (fn := fn52) (nt := 41) (rs := [4]) mixed fnAt52 (by kernel_rfl) (by kernel_rfl) (by kernel_rfl) (Nat.le_of_ble_eq_true (by kernel_rfl)) pacelineref08_classes_ok (pacelineref08_classes_eq t0 t1 w K) h)

/-- paceline/pacelineref05.Has -/
def pacelineref05_Has (t0 t1 : Value) (w : World) (K : KV) : Prop :=
  lp [(Value.int IntKind.i64 0)] w (b1 fun t5 w g1 =>
  lnS t0 w fun t8 w =>
  bi .lss .i64 t5 t8 w fun t9 w =>
  iff' t9
  (ixS 1 t0 t5 w fun t14 w =>
  ld1 t14 w fun t15 w =>
  bi .eql .i64 t15 t1 w fun t17 w =>
  iff' t17
  (K (Value.bool true) w)
  (bi .add .i64 t5 (Value.int IntKind.i64 1) w fun t11 w =>
  g1 [t11] w))
  (K (Value.bool false) w))
theorem pacelineref05_Has_eq (t0 t1 : Value) (w : World) (K : KV) : pacelineref05_Has t0 t1 w K = fnW prog 18 [4] (match fn53.body with | some c => c | none => .skip) #[t0, t1] w K := by kernel_rfl
theorem pacelineref05_Has_ok : fnOk prog 18 [4] (match fn53.body with | some c => c | none => .skip) = true := by kernel_rfl
theorem pacelineref05_Has_calls {t0 t1 : Value} {w : World} {K : KV} (h : pacelineref05_Has t0 t1 w K) : Cl prog 53 #[t0, t1] w K :=
  Cl.mk (by kernel_rfl) (calls_of_F (fn := fn53) (nt := 18) (rs := [4]) mixed fnAt53 (by kernel_rfl) (by kernel_rfl) (by kernel_rfl) (Nat.le_of_ble_eq_true (by kernel_rfl)) pacelineref05_Has_ok (pacelineref05_Has_eq t0 t1 w K) h)

/-- container/heap.down -/
def heap_down (t0 t1 t2 : Value) (w : World) (K : KV) : Prop :=
  J1 (fun t7 w =>
  bi .gtr .i64 t7 t1 w fun t47 w =>
  K t47 w) fun k1 =>
  lp [t1] w (b1 fun t7_1 w g2 =>
  bi .mul .i64 (Value.int IntKind.i64 2) t7_1 w fun t13 w =>
  bi .add .i64 t13 (Value.int IntKind.i64 1) w fun t14 w =>
  bi .geq .i64 t14 t2 w fun t17 w =>
  gd t17 false (fun k => k t14 w) w fun t19 w =>
  gd t17 false (fun k => bi .lss .i64 t19 (Value.int IntKind.i64 0) w k) w fun t20 w =>
  pk t17 (Value.bool true) t20 w fun t21 w =>
  iff' t21
  (k1 t7_1 w)
  (bi .add .i64 t14 (Value.int IntKind.i64 1) w fun t24 w =>
  bi .lss .i64 t24 t2 w fun t27 w =>
  gd t27 true (fun k => k t0 w) w fun t29 w =>
  gd t27 true (fun k => k t24 w) w fun t30 w =>
  gd t27 true (fun k => k t14 w) w fun t31 w =>
  gd t27 true (fun k => clI prog t29 "Less" #[t30, t31] w k) w fun t32 w =>
  pk t27 t32 (Value.bool false) w fun t33 w =>
  J1 (fun t9 w =>
  clI prog t0 "Less" #[t9, t7_1] w fun t38 w =>
  bnot t38 w fun t39 w =>
  iff' t39
  (k1 t7_1 w)
  (clI prog t0 "Swap" #[t7_1, t9] w fun _ w =>
  g2 [t9] w)) fun k3 =>
  iff' t33
  (k3 t24 w)
  (k3 t14 w)))
theorem heap_down_eq (t0 t1 t2 : Value) (w : World) (K : KV) : heap_down t0 t1 t2 w K = fnW prog 48 [6] (match fn54.body with | some c => c | none => .skip) #[t0, t1, t2] w K := by kernel_rfl
theorem heap_down_ok : fnOk prog 48 [6] (match fn54.body with | some c => c | none => .skip) = true := by kernel_rfl
theorem heap_down_calls {t0 t1 t2 : Value} {w : World} {K : KV} (h : heap_down t0 t1 t2 w K) : Cl prog 54 #[t0, t1, t2] w K :=
  Cl.mk (by kernel_rfl) (calls_of_F (fn := fn54) (nt := 48) (rs := [6]) mixed fnAt54 (by kernel_rfl) (by kernel_rfl) (by kernel_rfl) (Nat.le_of_ble_eq_true (by kernel_rfl)) heap_down_ok (heap_down_eq t0 t1 t2 w K) h)

/-- paceline/table.Find -/
def table_Find (t0 t1 t2 : Value) (w : World) (K : KV) : Prop :=
  al (Value.cells t1) 3 w fun t4 w =>
  al (Value.cells t2) 3 w fun t5 w =>
  Cl prog 77 #[t0, (Value.func (Fn.func 78) #[] #[t4, t5])] w fun t9 w =>
  K t9 w
theorem table_Find_eq (t0 t1 t2 : Value) (w : World) (K : KV) : table_Find t0 t1 t2 w K = fnW prog 10 [6] (match fn55.body with | some c => c | none => .skip) #[t0, t1, t2] w K := by kernel_rfl
theorem table_Find_ok : fnOk prog 10 [6] (match fn55.body with | some c => c | none => .skip) = true := by kernel_rfl
theorem table_Find_calls {t0 t1 t2 : Value} {w : World} {K : KV} (h : table_Find t0 t1 t2 w K) : Cl prog 55 #[t0, t1, t2] w K :=
  Cl.mk (by kernel_rfl) (calls_of_F (fn := fn55) (nt := 10) (rs := [6]) mixed fnAt55 (by kernel_rfl) (by kernel_rfl) (by kernel_rfl) (Nat.le_of_ble_eq_true (by kernel_rfl)) table_Find_ok (table_Find_eq t0 t1 t2 w K) h)

/-- paceline/table.Sent -/
def table_Sent (t0 t1 t2 t3 t4 : Value) (w : World) (K : KV) : Prop :=
  al (Value.cells t4) 63 w fun t9 w =>
  al (zeroD prog 37) 37 w fun t10 w =>
  dr w fun w =>
  fld 1 t9 w fun t12 _ =>
  ld1 t12 w fun t13 _ =>
  fld 0 t9 w fun t18 _ =>
  ld1 t18 w fun t19 _ =>
  fld 2 t9 w fun t22 _ =>
  ld1 t22 w fun t23 _ =>
  Cl prog 79 #[t2, t13] w fun t14 w =>
  (ld1 t22 w (fun v' w'' => v' = t23 ∧ w'' = w)) ∧ ((ld1 t18 w (fun v' w'' => v' = t19 ∧ w'' = w)) ∧ ((bld (zeroD prog 35) #[(0, 1), (1, 1), (2, 1)] [(0, t14), (1, t0), (2, t1)] w fun t17 w =>
  (ld1 t22 w (fun v' w'' => v' = t23 ∧ w'' = w)) ∧ ((ld1 t18 w (fun v' w'' => v' = t19 ∧ w'' = w)) ∧ (Cl prog 80 #[t3] w fun t21 w =>
  (ld1 t22 w (fun v' w'' => v' = t23 ∧ w'' = w)) ∧ ((ld1 t18 w (fun v' w'' => v' = t19 ∧ w'' = w)) ∧ (Cl prog 80 #[t23] w fun t24 w =>
  (ld1 t18 w (fun v' w'' => v' = t19 ∧ w'' = w)) ∧ (bi .add .i64 t21 t24 w fun t25 _ =>
  Cl prog 80 #[t25] w fun t26 w =>
  (ld1 t18 w (fun v' w'' => v' = t19 ∧ w'' = w)) ∧ (bld (zeroD prog 37) #[(0, 3), (3, 1), (4, 1), (5, 1)] [(0, t17), (1, (Value.int IntKind.i64 (-1))), (2, t19), (3, t26)] w fun t27 w =>
  stN 6 t10 t27 w fun _ w =>
  ldN 6 t10 w fun r0 _ =>
  K r0 w))))))) ∧ (Cl prog 80 #[t3] w fun t21_1 w =>
  (ld1 t22 w (fun v' w'' => v' = t23 ∧ w'' = w)) ∧ ((ld1 t18 w (fun v' w'' => v' = t19 ∧ w'' = w)) ∧ ((bld (zeroD prog 35) #[(0, 1), (1, 1), (2, 1)] [(0, t14), (1, t0), (2, t1)] w fun t17_1 w =>
  (ld1 t22 w (fun v' w'' => v' = t23 ∧ w'' = w)) ∧ ((ld1 t18 w (fun v' w'' => v' = t19 ∧ w'' = w)) ∧ (Cl prog 80 #[t23] w fun t24_1 w =>
  (ld1 t18 w (fun v' w'' => v' = t19 ∧ w'' = w)) ∧ (bi .add .i64 t21_1 t24_1 w fun t25_1 _ =>
  Cl prog 80 #[t25_1] w fun t26_1 w =>
  (ld1 t18 w (fun v' w'' => v' = t19 ∧ w'' = w)) ∧ (bld (zeroD prog 37) #[(0, 3), (3, 1), (4, 1), (5, 1)] [(0, t17_1), (1, (Value.int IntKind.i64 (-1))), (2, t19), (3, t26_1)] w fun t27_1 w =>
  stN 6 t10 t27_1 w fun _ w =>
  ldN 6 t10 w fun r0 _ =>
  K r0 w))))) ∧ (Cl prog 80 #[t23] w fun t24_2 w =>
  (ld1 t18 w (fun v' w'' => v' = t19 ∧ w'' = w)) ∧ (bi .add .i64 t21_1 t24_2 w fun t25_2 _ =>
  (bld (zeroD prog 35) #[(0, 1), (1, 1), (2, 1)] [(0, t14), (1, t0), (2, t1)] w fun t17_2 w =>
  (ld1 t22 w (fun v' w'' => v' = t23 ∧ w'' = w)) ∧ ((ld1 t18 w (fun v' w'' => v' = t19 ∧ w'' = w)) ∧ (Cl prog 80 #[t25_2] w fun t26_2 w =>
  (ld1 t18 w (fun v' w'' => v' = t19 ∧ w'' = w)) ∧ (bld (zeroD prog 37) #[(0, 3), (3, 1), (4, 1), (5, 1)] [(0, t17_2), (1, (Value.int IntKind.i64 (-1))), (2, t19), (3, t26_2)] w fun t27_2 w =>
  stN 6 t10 t27_2 w fun _ w =>
  ldN 6 t10 w fun r0 _ =>
  K r0 w)))) ∧ (Cl prog 80 #[t25_2] w fun t26_3 w =>
  (ld1 t18 w (fun v' w'' => v' = t19 ∧ w'' = w)) ∧ (bld (zeroD prog 35) #[(0, 1), (1, 1), (2, 1)] [(0, t14), (1, t0), (2, t1)] w fun t17_3 w =>
  (ld1 t22 w (fun v' w'' => v' = t23 ∧ w'' = w)) ∧ ((ld1 t18 w (fun v' w'' => v' = t19 ∧ w'' = w)) ∧ (bld (zeroD prog 37) #[(0, 3), (3, 1), (4, 1), (5, 1)] [(0, t17_3), (1, (Value.int IntKind.i64 (-1))), (2, t19), (3, t26_3)] w fun t27_3 w =>
  stN 6 t10 t27_3 w fun _ w =>
  ldN 6 t10 w fun r0 _ =>
  K r0 w)))))))))))
theorem table_Sent_eq (t0 t1 t2 t3 t4 : Value) (w : World) (K : KV) : table_Sent t0 t1 t2 t3 t4 w K = fnWC prog 28 [(10, some 37)] (match fn56.body with | some c => c | none => .skip) #[t0, t1, t2, t3, t4] w K := by kernel_rfl
theorem table_Sent_ok : fnOkC prog 28 [(10, some 37)] (match fn56.body with | some c => c | none => .skip) = true := by kernel_rfl
theorem table_Sent_calls {t0 t1 t2 t3 t4 : Value} {w : World} {K : KV} (h : table_Sent t0 t1 t2 t3 t4 w K) : Cl prog 56 #[t0, t1, t2, t3, t4] w K :=
  Cl.mk (by kernel_rfl) (calls_of_FC (fn := fn56) (nt := 28) (rs := [(10, some 37)]) mixed fnAt56 (by kernel_rfl) (by kernel_rfl) (by kernel_rfl) (Nat.le_of_ble_eq_true (by kernel_rfl)) table_Sent_ok (table_Sent_eq t0 t1 t2 t3 t4 w K) h)

/-- paceline/config.Routes -/
def config_Routes (t0 t1 t2 : Value) (w : World) (K : KV) : Prop :=
  al (Value.cells t0) 25 w fun t3 w =>
  al (Value.cells t2) 3 w fun t5 w =>
  fld 1 t3 w fun t10 w =>
  ld1 t10 w fun t11 w =>
  lnS t11 w fun t12 w =>
  lp [(Value.slice none 0 0), (Value.int IntKind.i64 0)] w (b2 fun t7 t13 w g1 =>
  bi .lss .i64 t13 t12 w fun t14 w =>
  iff' t14
  (J1 (fun t7_1 w =>
  bi .add .i64 t13 (Value.int IntKind.i64 1) w fun t31 w =>
  g1 [t7_1, t31] w) fun k2 =>
  ixS 7 t11 t13 w fun t16 w =>
  ldN 7 t16 w fun t17 w =>
  al (zeroD prog 53) 53 w fun t9 w =>
  stN 7 t9 t17 w fun _ w =>
  bi .neq .i64 t13 t1 w fun t20 w =>
  gd t20 true (fun k => fld 5 t9 w k) w fun t22 w =>
  gd t20 true (fun k => ld1 t22 w k) w fun t23 w =>
  gd t20 true (fun k => k (Value.func (Fn.func 82) #[] #[t3, t5]) w) w fun t24 w =>
  gd t20 true (fun k => Cl prog 81 #[t23, t24] w k) w fun t25 w =>
  pk t20 t25 (Value.bool false) w fun t26 w =>
  iff' t26
  (bsl 3 1 1 (zeroD prog 3) [(0, t13)] w fun t29 w =>
  apS prog #[22, 22] 22 t7 t29 w fun t30 w =>
  k2 t30 w)
  (k2 t7 w))
  (K t7 w))
theorem config_Routes_eq (t0 t1 t2 : Value) (w : World) (K : KV) : config_Routes t0 t1 t2 w K = fnW prog 33 [6] (match fn57.body with | some c => c | none => .skip) #[t0, t1, t2] w K := by kernel_rfl
theorem config_Routes_ok : fnOk prog 33 [6] (match fn57.body with | some c => c | none => .skip) = true := by kernel_rfl
theorem config_Routes_calls {t0 t1 t2 : Value} {w : World} {K : KV} (h : config_Routes t0 t1 t2 w K) : Cl prog 57 #[t0, t1, t2] w K :=
  Cl.mk (by kernel_rfl) (calls_of_F (fn := fn57) (nt := 33) (rs := [6]) mixed fnAt57 (by kernel_rfl) (by kernel_rfl) (by kernel_rfl) (Nat.le_of_ble_eq_true (by kernel_rfl)) config_Routes_ok (config_Routes_eq t0 t1 t2 w K) h)

/-- paceline/pacelineref09.ahead -/
def pacelineref09_ahead (t0 t1 : Value) (w : World) (K : KV) : Prop :=
  al (Value.cells t0) 37 w fun t2 w =>
  al (Value.cells t1) 37 w fun t3 w =>
  fld 0 t2 w fun t6 w =>
  ldN 3 t6 w fun t7 w =>
  fld 0 t3 w fun t8 w =>
  ldN 3 t8 w fun t9 w =>
  Cl prog 14 #[t7, t9] w fun t10 w =>
  bi .lss .i64 t10 (Value.int IntKind.i64 0) w fun t12 w =>
  gd t12 false (fun k => k t10 w) w fun t14 w =>
  gd t12 false (fun k => bi .eql .i64 t14 (Value.int IntKind.i64 0) w k) w fun t15 w =>
  gd t12 false (fun k => k t15 w) w fun t16 w =>
  gd t16 true (fun k => fld 3 t2 w k) w fun t17 w =>
  gd t16 true (fun k => ld1 t17 w k) w fun t18 w =>
  gd t16 true (fun k => fld 3 t3 w k) w fun t19 w =>
  gd t16 true (fun k => ld1 t19 w k) w fun t20 w =>
  gd t16 true (fun k => bi .lss .i64 t18 t20 w k) w fun t21 w =>
  gd t12 false (fun k => pk t16 t21 (Value.bool false) w k) w fun t22 w =>
  pk t12 (Value.bool true) t22 w fun t23 w =>
  K t23 w
theorem pacelineref09_ahead_eq (t0 t1 : Value) (w : World) (K : KV) : pacelineref09_ahead t0 t1 w K = fnW prog 24 [4] (match fn58.body with | some c => c | none => .skip) #[t0, t1] w K := by kernel_rfl
theorem pacelineref09_ahead_ok : fnOk prog 24 [4] (match fn58.body with | some c => c | none => .skip) = true := by kernel_rfl
theorem pacelineref09_ahead_calls {t0 t1 : Value} {w : World} {K : KV} (h : pacelineref09_ahead t0 t1 w K) : Cl prog 58 #[t0, t1] w K :=
  Cl.mk (by kernel_rfl) (calls_of_F (fn := fn58) (nt := 24) (rs := [4]) mixed fnAt58 (by kernel_rfl) (by kernel_rfl) (by kernel_rfl) (Nat.le_of_ble_eq_true (by kernel_rfl)) pacelineref09_ahead_ok (pacelineref09_ahead_eq t0 t1 w K) h)

/-- paceline/pacelineref08.Spread -/
def pacelineref08_Spread (t0 t1 t2 t3 t4 t5 : Value) (w : World) (K : KV) : Prop :=
  al (Value.cells t0) 25 w fun t6 w =>
  bsl 37 6 0 #[] [] w fun t18 w =>
  lp [t18, (Value.int IntKind.i64 0)] w (b2 fun t13 t14 w g1 =>
  lnS t5 w fun t21 w =>
  bi .lss .i64 t14 t21 w fun t22 w =>
  iff' t22
  (bi .add .i64 t2 t14 w fun t28 w =>
  ixS 3 t5 t14 w fun t33 w =>
  ldN 3 t33 w fun t34 w =>
  Cl prog 84 #[t1, t28, t3, t4, t34] w fun t35 w =>
  al (zeroD prog 37) 37 w fun t15 w =>
  stN 6 t15 t35 w fun _ w =>
  ldN 3 t6 w fun t36 w =>
  fld 4 t15 w fun t38 w =>
  ld1 t38 w fun t39 w =>
  Cl prog 85 #[t36, t1, t39] w fun t40 w =>
  lp [t13, (Value.int IntKind.i64 0)] w (b2 fun t13_1 t17 w g2 =>
  lnS t40 w fun t43 w =>
  bi .lss .i64 t17 t43 w fun t44 w =>
  iff' t44
  (ixS 1 t40 t17 w fun t49 w =>
  ld1 t49 w fun t50 w =>
  fld 3 t15 w fun t51 w =>
  stN 1 t51 t50 w fun _ w =>
  ldN 6 t15 w fun t53 w =>
  bsl 37 6 1 (zeroD prog 37) [(0, t53)] w fun t54 w =>
  apS prog #[58, 58] 58 t13_1 t54 w fun t55 w =>
  bi .add .i64 t17 (Value.int IntKind.i64 1) w fun t46 w =>
  g2 [t55, t46] w)
  (bi .add .i64 t14 (Value.int IntKind.i64 1) w fun t24 w =>
  g1 [t13_1, t24] w)))
  (K t13 w))
theorem pacelineref08_Spread_eq (t0 t1 t2 t3 t4 t5 : Value) (w : World) (K : KV) : pacelineref08_Spread t0 t1 t2 t3 t4 t5 w K = fnW prog 57 [12] (match fn59.body with | some c => c | none => .skip) #[t0, t1, t2, t3, t4, t5] w K := by kernel_rfl
theorem pacelineref08_Spread_ok : fnOk prog 57 [12] (match fn59.body with | some c => c | none => .skip) = true := by kernel_rfl
theorem pacelineref08_Spread_calls {t0 t1 t2 t3 t4 t5 : Value} {w : World} {K : KV} (h : pacelineref08_Spread t0 t1 t2 t3 t4 t5 w K) : Cl prog 59 #[t0, t1, t2, t3, t4, t5] w K :=
  Cl.mk (by kernel_rfl) (calls_of_F (fn := fn59) (nt := 57) (rs := [12]) mixed fnAt59 (by kernel_rfl) (by kernel_rfl) (by kernel_rfl) (Nat.le_of_ble_eq_true (by kernel_rfl)) pacelineref08_Spread_ok (pacelineref08_Spread_eq t0 t1 t2 t3 t4 t5 w K) h)

/-- paceline/pacelineref07.Step -/
def pacelineref07_Step (t0 t1 t2 : Value) (w : World) (K : KV) : Prop :=
  Cl prog 76 #[t0, t1, t2] w fun t13 w =>
  bi .lss .i64 t13 (Value.int IntKind.i64 0) w fun t15 w =>
  iff' t15
  (K (Value.tuple #[t1, (Value.slice none 0 0)]) w)
  (bsl 63 3 0 #[] [] w fun t17 w =>
  dr w fun w =>
  ixS 4 t0 t13 w fun t20 _ =>
  fld 2 t20 w fun t21 _ =>
  ld1 t21 w fun t22 _ =>
  ixS 4 t0 t13 w fun t26 _ =>
  fld 3 t26 w fun t27 _ =>
  ld1 t27 w fun t28 _ =>
  apS prog #[51, 51] 51 t17 t28 w fun t29 w =>
  (ld1 t21 w (fun v' w'' => v' = t22 ∧ w'' = w)) ∧ (K (Value.tuple #[t22, t29]) w))
theorem pacelineref07_Step_eq (t0 t1 t2 : Value) (w : World) (K : KV) : pacelineref07_Step t0 t1 t2 w K = fnW prog 30 [6, 7] (match fn60.body with | some c => c | none => .skip) #[t0, t1, t2] w K := by kernel_rfl
theorem pacelineref07_Step_ok : fnOk prog 30 [6, 7] (match fn60.body with | some c => c | none => .skip) = true := by kernel_rfl
theorem pacelineref07_Step_calls {t0 t1 t2 : Value} {w : World} {K : KV} (h : pacelineref07_Step t0 t1 t2 w K) : Cl prog 60 #[t0, t1, t2] w K :=
  Cl.mk (by kernel_rfl) (calls_of_F (fn := fn60) (nt := 30) (rs := [6, 7]) mixed fnAt60 (by kernel_rfl) (by kernel_rfl) (by kernel_rfl) (Nat.le_of_ble_eq_true (by kernel_rfl)) pacelineref07_Step_ok (pacelineref07_Step_eq t0 t1 t2 w K) h)

/-- cmp.Or[int] -/
def cmp_Or_int (t0 : Value) (w : World) (K : KV) : Prop :=
  lnS t0 w fun t7 w =>
  lp [(Value.int IntKind.i64 0)] w (b1 fun t8 w g1 =>
  bi .lss .i64 t8 t7 w fun t9 w =>
  iff' t9
  (ixS 1 t0 t8 w fun t10 w =>
  ld1 t10 w fun t11 w =>
  bi .neq .i64 t11 (Value.int IntKind.i64 0) w fun t14 w =>
  iff' t14
  (K t11 w)
  (bi .add .i64 t8 (Value.int IntKind.i64 1) w fun t16 w =>
  g1 [t16] w))
  (K (Value.int IntKind.i64 0) w))
theorem cmp_Or_int_eq (t0 : Value) (w : World) (K : KV) : cmp_Or_int t0 w K = fnW prog 18 [2] (match fn63.body with | some c => c | none => .skip) #[t0] w K := by kernel_rfl
theorem cmp_Or_int_ok : fnOk prog 18 [2] (match fn63.body with | some c => c | none => .skip) = true := by kernel_rfl
theorem cmp_Or_int_calls {t0 : Value} {w : World} {K : KV} (h : cmp_Or_int t0 w K) : Cl prog 63 #[t0] w K :=
  Cl.mk (by kernel_rfl) (calls_of_F (fn := fn63) (nt := 18) (rs := [2]) mixed fnAt63 (by kernel_rfl) (by kernel_rfl) (by kernel_rfl) (Nat.le_of_ble_eq_true (by kernel_rfl)) cmp_Or_int_ok (cmp_Or_int_eq t0 w K) h)

/-- paceline/vtime.Cmp -/
def vtime_Cmp (t0 t1 : Value) (w : World) (K : KV) : Prop :=
  al (Value.cells t0) 35 w fun t2 w =>
  al (Value.cells t1) 35 w fun t3 w =>
  dr w fun w =>
  fld 0 t2 w fun t5 _ =>
  ld1 t5 w fun t6 _ =>
  fld 0 t3 w fun t7 _ =>
  ld1 t7 w fun t8 _ =>
  fld 1 t2 w fun t10 _ =>
  ld1 t10 w fun t11 _ =>
  fld 1 t3 w fun t12 _ =>
  ld1 t12 w fun t13 _ =>
  fld 2 t2 w fun t15 _ =>
  ld1 t15 w fun t16 _ =>
  fld 2 t3 w fun t17 _ =>
  ld1 t17 w fun t18 _ =>
  Cl prog 65 #[t6, t8] w fun t9 w =>
  (ld1 t17 w (fun v' w'' => v' = t18 ∧ w'' = w)) ∧ ((ld1 t15 w (fun v' w'' => v' = t16 ∧ w'' = w)) ∧ ((ld1 t12 w (fun v' w'' => v' = t13 ∧ w'' = w)) ∧ ((ld1 t10 w (fun v' w'' => v' = t11 ∧ w'' = w)) ∧ (Cl prog 65 #[t11, t13] w fun t14 w =>
  (ld1 t17 w (fun v' w'' => v' = t18 ∧ w'' = w)) ∧ ((ld1 t15 w (fun v' w'' => v' = t16 ∧ w'' = w)) ∧ (Cl prog 65 #[t16, t18] w fun t19 w =>
  bsl 3 1 3 (zeroD prog 3) [(0, t9), (1, t14), (2, t19)] w fun t20 w =>
  Cl prog 63 #[t20] w fun t21 w =>
  K t21 w))))))
theorem vtime_Cmp_eq (t0 t1 : Value) (w : World) (K : KV) : vtime_Cmp t0 t1 w K = fnW prog 22 [4] (match fn64.body with | some c => c | none => .skip) #[t0, t1] w K := by kernel_rfl
theorem vtime_Cmp_ok : fnOk prog 22 [4] (match fn64.body with | some c => c | none => .skip) = true := by kernel_rfl
theorem vtime_Cmp_calls {t0 t1 : Value} {w : World} {K : KV} (h : vtime_Cmp t0 t1 w K) : Cl prog 64 #[t0, t1] w K :=
  Cl.mk (by kernel_rfl) (calls_of_F (fn := fn64) (nt := 22) (rs := [4]) mixed fnAt64 (by kernel_rfl) (by kernel_rfl) (by kernel_rfl) (Nat.le_of_ble_eq_true (by kernel_rfl)) vtime_Cmp_ok (vtime_Cmp_eq t0 t1 w K) h)

/-- cmp.Compare[int] -/
def cmp_Compare_int (t0 t1 : Value) (w : World) (K : KV) : Prop :=
  Cl prog 96 #[t0] w fun t8 w =>
  Cl prog 96 #[t1] w fun t10 w =>
  iff' t8
  (iff' t10
  (K (Value.int IntKind.i64 0) w)
  (K (Value.int IntKind.i64 (-1)) w))
  (iff' t10
  (K (Value.int IntKind.i64 1) w)
  (bi .lss .i64 t0 t1 w fun t16 w =>
  iff' t16
  (K (Value.int IntKind.i64 (-1)) w)
  (bi .gtr .i64 t0 t1 w fun t19 w =>
  iff' t19
  (K (Value.int IntKind.i64 1) w)
  (K (Value.int IntKind.i64 0) w))))
theorem cmp_Compare_int_eq (t0 t1 : Value) (w : World) (K : KV) : cmp_Compare_int t0 t1 w K = fnW prog 20 [4] (match fn65.body with | some c => c | none => .skip) #[t0, t1] w K := by kernel_rfl
theorem cmp_Compare_int_ok : fnOk prog 20 [4] (match fn65.body with | some c => c | none => .skip) = true := by kernel_rfl
theorem cmp_Compare_int_calls {t0 t1 : Value} {w : World} {K : KV} (h : cmp_Compare_int t0 t1 w K) : Cl prog 65 #[t0, t1] w K :=
  Cl.mk (by kernel_rfl) (calls_of_F (fn := fn65) (nt := 20) (rs := [4]) mixed fnAt65 (by kernel_rfl) (by kernel_rfl) (by kernel_rfl) (Nat.le_of_ble_eq_true (by kernel_rfl)) cmp_Compare_int_ok (cmp_Compare_int_eq t0 t1 w K) h)

/-- paceline/config.unless$1 -/
def config_unless_1 (t0 t1 : Value) (w : World) (K : KV) : Prop :=
  ld1 t0 w fun t3 w =>
  iff' t3
  (K (Value.int IntKind.i64 0) w)
  (ld1 t1 w fun t4 w =>
  K t4 w)
theorem config_unless_1_eq (t0 t1 : Value) (w : World) (K : KV) : config_unless_1 t0 t1 w K = fnW prog 5 [2] (match fn66.body with | some c => c | none => .skip) #[t0, t1] w K := by kernel_rfl
theorem config_unless_1_ok : fnOk prog 5 [2] (match fn66.body with | some c => c | none => .skip) = true := by kernel_rfl
theorem config_unless_1_calls {t0 t1 : Value} {w : World} {K : KV} (h : config_unless_1 t0 t1 w K) : Cl prog 66 #[t0, t1] w K :=
  Cl.mk (by kernel_rfl) (calls_of_F (fn := fn66) (nt := 5) (rs := [2]) mixed fnAt66 (by kernel_rfl) (by kernel_rfl) (by kernel_rfl) (Nat.le_of_ble_eq_true (by kernel_rfl)) config_unless_1_ok (config_unless_1_eq t0 t1 w K) h)

/-- paceline/config.fed$1 -/
def config_fed_1 (t0 t1 : Value) (w : World) (K : KV) : Prop :=
  lnS t0 w fun t8 w =>
  lp [(Value.int IntKind.i64 (-1)), (Value.int IntKind.i64 0)] w (b2 fun t4 t9 w g1 =>
  bi .lss .i64 t9 t8 w fun t10 w =>
  iff' t10
  (ixS 1 t0 t9 w fun t11 w =>
  ld1 t11 w fun t12 w =>
  bi .leq .i64 t12 t4 w fun t15 w =>
  gd t15 false (fun k => k t12 w) w fun t17 w =>
  gd t15 false (fun k => ld1 t1 w k) w fun t18 w =>
  gd t15 false (fun k => bi .geq .i64 t17 t18 w k) w fun t19 w =>
  pk t15 (Value.bool true) t19 w fun t20 w =>
  iff' t20
  (K (Value.bool false) w)
  (bi .add .i64 t9 (Value.int IntKind.i64 1) w fun t22 w =>
  g1 [t12, t22] w))
  (K (Value.bool true) w))
theorem config_fed_1_eq (t0 t1 : Value) (w : World) (K : KV) : config_fed_1 t0 t1 w K = fnW prog 23 [3] (match fn67.body with | some c => c | none => .skip) #[t0, t1] w K := by kernel_rfl
theorem config_fed_1_ok : fnOk prog 23 [3] (match fn67.body with | some c => c | none => .skip) = true := by kernel_rfl
theorem config_fed_1_calls {t0 t1 : Value} {w : World} {K : KV} (h : config_fed_1 t0 t1 w K) : Cl prog 67 #[t0, t1] w K :=
  Cl.mk (by kernel_rfl) (calls_of_F (fn := fn67) (nt := 23) (rs := [3]) mixed fnAt67 (by kernel_rfl) (by kernel_rfl) (by kernel_rfl) (Nat.le_of_ble_eq_true (by kernel_rfl)) config_fed_1_ok (config_fed_1_eq t0 t1 w K) h)

/-- paceline/config.fed$2 -/
def config_fed_2 (t0 t1 : Value) (w : World) (K : KV) : Prop :=
  fld 3 t0 w fun t8 w =>
  ld1 t8 w fun t9 w =>
  lnS t9 w fun t10 w =>
  lp [(Value.int IntKind.i64 0)] w (b1 fun t11 w g1 =>
  bi .lss .i64 t11 t10 w fun t12 w =>
  iff' t12
  (ixS 4 t9 t11 w fun t13 w =>
  ldN 4 t13 w fun t14 w =>
  al (zeroD prog 55) 55 w fun t4 w =>
  stN 4 t4 t14 w fun _ w =>
  fld 1 t4 w fun t15 w =>
  ld1 t15 w fun t16 w =>
  ld1 t1 w fun t17 w =>
  bi .geq .i64 t16 t17 w fun t18 w =>
  iff' t18
  (K (Value.int IntKind.i64 81) w)
  (fld 3 t4 w fun t19 w =>
  ld1 t19 w fun t20 w =>
  lnS t20 w fun t21 w =>
  lp [(Value.int IntKind.i64 0)] w (b1 fun t22 w g2 =>
  bi .lss .i64 t22 t21 w fun t23 w =>
  iff' t23
  (ixS 3 t20 t22 w fun t24 w =>
  ldN 3 t24 w fun t25 w =>
  al (zeroD prog 63) 63 w fun t6 w =>
  stN 3 t6 t25 w fun _ w =>
  dr w fun w =>
  fld 4 t0 w fun t26 _ =>
  ld1 t26 w fun t27 _ =>
  fld 0 t6 w fun t28 _ =>
  ld1 t28 w fun t29 _ =>
  fld 1 t6 w fun t32 _ =>
  ld1 t32 w fun t33 _ =>
  fld 1 t0 w fun t34 _ =>
  ld1 t34 w fun t35 _ =>
  bi .geq .i64 t33 t35 w fun t36 _ =>
  Cl prog 69 #[t27, t29] w fun t30 w =>
  (ld1 t34 w (fun v' w'' => v' = t35 ∧ w'' = w)) ∧ ((ld1 t32 w (fun v' w'' => v' = t33 ∧ w'' = w)) ∧ (Cl prog 43 #[t30, (Value.int IntKind.i64 81)] w fun t31 w =>
  (ld1 t34 w (fun v' w'' => v' = t35 ∧ w'' = w)) ∧ ((ld1 t32 w (fun v' w'' => v' = t33 ∧ w'' = w)) ∧ (Cl prog 43 #[t36, (Value.int IntKind.i64 80)] w fun t37 w =>
  bsl 90 1 2 (zeroD prog 90) [(0, t31), (1, t37)] w fun t38 w =>
  Cl prog 40 #[t38] w fun t39 w =>
  bi .neq .i64 t39 (Value.int IntKind.i64 0) w fun t41 w =>
  iff' t41
  (K t39 w)
  (bi .add .i64 t22 (Value.int IntKind.i64 1) w fun t43 w =>
  g2 [t43] w))))))
  (bi .add .i64 t11 (Value.int IntKind.i64 1) w fun t44 w =>
  g1 [t44] w))))
  (K (Value.int IntKind.i64 0) w))
theorem config_fed_2_eq (t0 t1 : Value) (w : World) (K : KV) : config_fed_2 t0 t1 w K = fnW prog 45 [2] (match fn68.body with | some c => c | none => .skip) #[t0, t1] w K := by kernel_rfl
theorem config_fed_2_ok : fnOk prog 45 [2] (match fn68.body with | some c => c | none => .skip) = true := by kernel_rfl
theorem config_fed_2_calls {t0 t1 : Value} {w : World} {K : KV} (h : config_fed_2 t0 t1 w K) : Cl prog 68 #[t0, t1] w K :=
  Cl.mk (by kernel_rfl) (calls_of_F (fn := fn68) (nt := 45) (rs := [2]) mixed fnAt68 (by kernel_rfl) (by kernel_rfl) (by kernel_rfl) (Nat.le_of_ble_eq_true (by kernel_rfl)) config_fed_2_ok (config_fed_2_eq t0 t1 w K) h)

/-- slices.Contains[[]int,int] -/
def slices_Contains_int_int (t0 t1 : Value) (w : World) (K : KV) : Prop :=
  Cl prog 97 #[t0, t1] w fun t7 w =>
  bi .geq .i64 t7 (Value.int IntKind.i64 0) w fun t8 w =>
  K t8 w
theorem slices_Contains_int_int_eq (t0 t1 : Value) (w : World) (K : KV) : slices_Contains_int_int t0 t1 w K = fnW prog 9 [4] (match fn69.body with | some c => c | none => .skip) #[t0, t1] w K := by kernel_rfl
theorem slices_Contains_int_int_ok : fnOk prog 9 [4] (match fn69.body with | some c => c | none => .skip) = true := by kernel_rfl
theorem slices_Contains_int_int_calls {t0 t1 : Value} {w : World} {K : KV} (h : slices_Contains_int_int t0 t1 w K) : Cl prog 69 #[t0, t1] w K :=
  Cl.mk (by kernel_rfl) (calls_of_F (fn := fn69) (nt := 9) (rs := [4]) mixed fnAt69 (by kernel_rfl) (by kernel_rfl) (by kernel_rfl) (Nat.le_of_ble_eq_true (by kernel_rfl)) slices_Contains_int_int_ok (slices_Contains_int_int_eq t0 t1 w K) h)

/-- paceline/config.fed$3 -/
def config_fed_3 (t0 t1 : Value) (w : World) (K : KV) : Prop :=
  al (Value.cells t0) 63 w fun t2 w =>
  fld 4 t1 w fun t4 w =>
  ld1 t4 w fun t5 w =>
  fld 0 t2 w fun t6 w =>
  ld1 t6 w fun t7 w =>
  Cl prog 69 #[t5, t7] w fun t8 w =>
  bnot t8 w fun t9 w =>
  gd t9 false (fun k => fld 1 t2 w k) w fun t11 w =>
  gd t9 false (fun k => ld1 t11 w k) w fun t12 w =>
  gd t9 false (fun k => Cl prog 44 #[t12, (Value.int IntKind.i64 0), (Value.int IntKind.i64 1099511627776)] w k) w fun t13 w =>
  gd t9 false (fun k => bnot t13 w k) w fun t14 w =>
  pk t9 (Value.bool true) t14 w fun t15 w =>
  gd t15 false (fun k => fld 2 t2 w k) w fun t17 w =>
  gd t15 false (fun k => ld1 t17 w k) w fun t18 w =>
  gd t15 false (fun k => Cl prog 44 #[t18, (Value.int IntKind.i64 0), (Value.int IntKind.i64 999)] w k) w fun t19 w =>
  gd t15 false (fun k => bnot t19 w k) w fun t20 w =>
  pk t15 (Value.bool true) t20 w fun t21 w =>
  K t21 w
theorem config_fed_3_eq (t0 t1 : Value) (w : World) (K : KV) : config_fed_3 t0 t1 w K = fnW prog 22 [3] (match fn70.body with | some c => c | none => .skip) #[t0, t1] w K := by kernel_rfl
theorem config_fed_3_ok : fnOk prog 22 [3] (match fn70.body with | some c => c | none => .skip) = true := by kernel_rfl
theorem config_fed_3_calls {t0 t1 : Value} {w : World} {K : KV} (h : config_fed_3 t0 t1 w K) : Cl prog 70 #[t0, t1] w K :=
  Cl.mk (by kernel_rfl) (calls_of_F (fn := fn70) (nt := 22) (rs := [3]) mixed fnAt70 (by kernel_rfl) (by kernel_rfl) (by kernel_rfl) (Nat.le_of_ble_eq_true (by kernel_rfl)) config_fed_3_ok (config_fed_3_eq t0 t1 w K) h)

/-- paceline/config.fed$4 -/
def config_fed_4 (t0 : Value) (w : World) (K : KV) : Prop :=
  fld 3 t0 w fun t2 w =>
  ld1 t2 w fun t3 w =>
  Cl prog 72 #[t3] w fun t4 w =>
  K t4 w
theorem config_fed_4_eq (t0 : Value) (w : World) (K : KV) : config_fed_4 t0 w K = fnW prog 5 [1] (match fn71.body with | some c => c | none => .skip) #[t0] w K := by kernel_rfl
theorem config_fed_4_ok : fnOk prog 5 [1] (match fn71.body with | some c => c | none => .skip) = true := by kernel_rfl
theorem config_fed_4_calls {t0 : Value} {w : World} {K : KV} (h : config_fed_4 t0 w K) : Cl prog 71 #[t0] w K :=
  Cl.mk (by kernel_rfl) (calls_of_F (fn := fn71) (nt := 5) (rs := [1]) mixed fnAt71 (by kernel_rfl) (by kernel_rfl) (by kernel_rfl) (Nat.le_of_ble_eq_true (by kernel_rfl)) config_fed_4_ok (config_fed_4_eq t0 w K) h)

/-- paceline/table.Check -/
def table_Check (t0 : Value) (w : World) (K : KV) : Prop :=
  lnS t0 w fun t9 w =>
  bi .gtr .i64 t9 (Value.int IntKind.i64 32) w fun t10 w =>
  iff' t10
  (K (Value.int IntKind.i64 70) w)
  (mkMap w fun t11 w =>
  lnS t0 w fun t13 w =>
  lp [(Value.int IntKind.i64 0)] w (b1 fun t14 w g1 =>
  bi .lss .i64 t14 t13 w fun t15 w =>
  iff' t15
  (ixS 4 t0 t14 w fun t16 w =>
  ldN 4 t16 w fun t17 w =>
  al (zeroD prog 55) 55 w fun t5 w =>
  stN 4 t5 t17 w fun _ w =>
  fld 0 t5 w fun t18 w =>
  ld1 t18 w fun t19 w =>
  fld 1 t5 w fun t20 w =>
  ld1 t20 w fun t21 w =>
  bld (zeroD prog 143) #[(0, 1), (1, 1)] [(0, t19), (1, t21)] w fun t22 w =>
  al (zeroD prog 143) 143 w fun t6 w =>
  stN 2 t6 t22 w fun _ w =>
  ldN 2 t6 w fun t24 w =>
  lkM prog 141 t11 t24 false w fun t25 w =>
  gd t25 false (fun k => fld 0 t5 w k) w fun t27 w =>
  gd t25 false (fun k => ld1 t27 w k) w fun t28 w =>
  gd t25 false (fun k => Cl prog 99 #[t28, (Value.int IntKind.i64 8)] w k) w fun t29 w =>
  gd t25 false (fun k => bnot t29 w k) w fun t30 w =>
  pk t25 (Value.bool true) t30 w fun t31 w =>
  gd t31 false (fun k => fld 2 t5 w k) w fun t33 w =>
  gd t31 false (fun k => ld1 t33 w k) w fun t34 w =>
  gd t31 false (fun k => Cl prog 99 #[t34, (Value.int IntKind.i64 8)] w k) w fun t35 w =>
  gd t31 false (fun k => bnot t35 w k) w fun t36 w =>
  pk t31 (Value.bool true) t36 w fun t37 w =>
  gd t37 false (fun k => fld 1 t5 w k) w fun t39 w =>
  gd t37 false (fun k => ld1 t39 w k) w fun t40 w =>
  gd t37 false (fun k => Cl prog 99 #[t40, (Value.int IntKind.i64 16)] w k) w fun t41 w =>
  gd t37 false (fun k => bnot t41 w k) w fun t42 w =>
  pk t37 (Value.bool true) t42 w fun t43 w =>
  gd t43 false (fun k => fld 3 t5 w k) w fun t45 w =>
  gd t43 false (fun k => ld1 t45 w k) w fun t46 w =>
  gd t43 false (fun k => lnS t46 w k) w fun t47 w =>
  gd t43 false (fun k => bi .gtr .i64 t47 (Value.int IntKind.i64 3) w k) w fun t48 w =>
  pk t43 (Value.bool true) t48 w fun t49 w =>
  gd t49 false (fun k => fld 3 t5 w k) w fun t51 w =>
  gd t49 false (fun k => ld1 t51 w k) w fun t52 w =>
  gd t49 false (fun k => k (Value.func (.func 98) #[] #[]) w) w fun t53 w =>
  gd t49 false (fun k => Cl prog 73 #[t52, t53] w k) w fun t54 w =>
  pk t49 (Value.bool true) t54 w fun t55 w =>
  iff' t55
  (K (Value.int IntKind.i64 70) w)
  (ldN 2 t6 w fun t57 w =>
  upM prog 141 t11 t57 (Value.bool true) w fun _ w =>
  bi .add .i64 t14 (Value.int IntKind.i64 1) w fun t58 w =>
  g1 [t58] w))
  (K (Value.int IntKind.i64 0) w)))
theorem table_Check_eq (t0 : Value) (w : World) (K : KV) : table_Check t0 w K = fnW prog 59 [2] (match fn72.body with | some c => c | none => .skip) #[t0] w K := by kernel_rfl
theorem table_Check_ok : fnOk prog 59 [2] (match fn72.body with | some c => c | none => .skip) = true := by kernel_rfl
theorem table_Check_calls {t0 : Value} {w : World} {K : KV} (h : table_Check t0 w K) : Cl prog 72 #[t0] w K :=
  Cl.mk (by kernel_rfl) (calls_of_F (fn := fn72) (nt := 59) (rs := [2]) mixed fnAt72 (by kernel_rfl) (by kernel_rfl) (by kernel_rfl) (Nat.le_of_ble_eq_true (by kernel_rfl)) table_Check_ok (table_Check_eq t0 w K) h)

/-- slices.ContainsFunc[[]paceline/api.Out,paceline/api.Out] -/
def slices_ContainsFunc_api_Out_api_Out (t0 t1 : Value) (w : World) (K : KV) : Prop :=
  Cl prog 100 #[t0, t1] w fun t7 w =>
  bi .geq .i64 t7 (Value.int IntKind.i64 0) w fun t8 w =>
  K t8 w
theorem slices_ContainsFunc_api_Out_api_Out_eq (t0 t1 : Value) (w : World) (K : KV) : slices_ContainsFunc_api_Out_api_Out t0 t1 w K = fnW prog 9 [4] (match fn73.body with | some c => c | none => .skip) #[t0, t1] w K := by kernel_rfl
theorem slices_ContainsFunc_api_Out_api_Out_ok : fnOk prog 9 [4] (match fn73.body with | some c => c | none => .skip) = true := by kernel_rfl
theorem slices_ContainsFunc_api_Out_api_Out_calls {t0 t1 : Value} {w : World} {K : KV} (h : slices_ContainsFunc_api_Out_api_Out t0 t1 w K) : Cl prog 73 #[t0, t1] w K :=
  Cl.mk (by kernel_rfl) (calls_of_F (fn := fn73) (nt := 9) (rs := [4]) mixed fnAt73 (by kernel_rfl) (by kernel_rfl) (by kernel_rfl) (Nat.le_of_ble_eq_true (by kernel_rfl)) slices_ContainsFunc_api_Out_api_Out_ok (slices_ContainsFunc_api_Out_api_Out_eq t0 t1 w K) h)

/-- container/heap.up -/
def heap_up (t0 t1 : Value) (w : World) (K : KV) : Prop :=
  lp [t1] w (b1 fun t1_1 w g1 =>
  bi .sub .i64 t1_1 (Value.int IntKind.i64 1) w fun t6 w =>
  bi .quo .i64 t6 (Value.int IntKind.i64 2) w fun t7 w =>
  bi .eql .i64 t7 t1_1 w fun t10 w =>
  gd t10 false (fun k => k t0 w) w fun t12 w =>
  gd t10 false (fun k => k t1_1 w) w fun t13 w =>
  gd t10 false (fun k => k t7 w) w fun t14 w =>
  gd t10 false (fun k => clI prog t12 "Less" #[t13, t14] w k) w fun t15 w =>
  gd t10 false (fun k => bnot t15 w k) w fun t16 w =>
  pk t10 (Value.bool true) t16 w fun t17 w =>
  iff' t17
  (K (Value.tuple #[]) w)
  (clI prog t0 "Swap" #[t7, t1_1] w fun _ w =>
  g1 [t7] w))
theorem heap_up_eq (t0 t1 : Value) (w : World) (K : KV) : heap_up t0 t1 w K = fnW prog 23 [] (match fn74.body with | some c => c | none => .skip) #[t0, t1] w K := by kernel_rfl
theorem heap_up_ok : fnOk prog 23 [] (match fn74.body with | some c => c | none => .skip) = true := by kernel_rfl
theorem heap_up_calls {t0 t1 : Value} {w : World} {K : KV} (h : heap_up t0 t1 w K) : Cl prog 74 #[t0, t1] w K :=
  Cl.mk (by kernel_rfl) (calls_of_F (fn := fn74) (nt := 23) (rs := []) mixed fnAt74 (by kernel_rfl) (by kernel_rfl) (by kernel_rfl) (Nat.le_of_ble_eq_true (by kernel_rfl)) heap_up_ok (heap_up_eq t0 t1 w K) h)

/-- paceline/pacelineref07.fine -/
def pacelineref07_fine (t0 : Value) (w : World) (K : KV) : Prop :=
  al (Value.cells t0) 55 w fun t1 w =>
  fld 0 t1 w fun t5 w =>
  ld1 t5 w fun t6 w =>
  Cl prog 101 #[t6, (Value.int IntKind.i64 8)] w fun t7 w =>
  bnot t7 w fun t8 w =>
  gd t8 false (fun k => fld 2 t1 w k) w fun t10 w =>
  gd t8 false (fun k => ld1 t10 w k) w fun t11 w =>
  gd t8 false (fun k => Cl prog 101 #[t11, (Value.int IntKind.i64 8)] w k) w fun t12 w =>
  gd t8 false (fun k => bnot t12 w k) w fun t13 w =>
  pk t8 (Value.bool true) t13 w fun t14 w =>
  gd t14 false (fun k => fld 1 t1 w k) w fun t16 w =>
  gd t14 false (fun k => ld1 t16 w k) w fun t17 w =>
  gd t14 false (fun k => Cl prog 101 #[t17, (Value.int IntKind.i64 16)] w k) w fun t18 w =>
  gd t14 false (fun k => bnot t18 w k) w fun t19 w =>
  pk t14 (Value.bool true) t19 w fun t20 w =>
  gd t20 false (fun k => fld 3 t1 w k) w fun t22 w =>
  gd t20 false (fun k => ld1 t22 w k) w fun t23 w =>
  gd t20 false (fun k => lnS t23 w k) w fun t24 w =>
  gd t20 false (fun k => bi .gtr .i64 t24 (Value.int IntKind.i64 3) w k) w fun t25 w =>
  pk t20 (Value.bool true) t25 w fun t26 w =>
  iff' t26
  (K (Value.bool false) w)
  (lp [(Value.int IntKind.i64 0)] w (b1 fun t3 w g1 =>
  fld 3 t1 w fun t28 w =>
  ld1 t28 w fun t29 w =>
  lnS t29 w fun t30 w =>
  bi .lss .i64 t3 t30 w fun t31 w =>
  iff' t31
  (fld 3 t1 w fun t34 w =>
  ld1 t34 w fun t35 w =>
  ixS 3 t35 t3 w fun t37 w =>
  ldN 3 t37 w fun t38 w =>
  al (zeroD prog 63) 63 w fun t4 w =>
  stN 3 t4 t38 w fun _ w =>
  fld 0 t4 w fun t39 w =>
  ld1 t39 w fun t40 w =>
  Cl prog 101 #[t40, (Value.int IntKind.i64 16)] w fun t41 w =>
  bnot t41 w fun t42 w =>
  gd t42 false (fun k => fld 1 t4 w k) w fun t44 w =>
  gd t42 false (fun k => ld1 t44 w k) w fun t45 w =>
  gd t42 false (fun k => Cl prog 101 #[t45, (Value.int IntKind.i64 1048577)] w k) w fun t46 w =>
  gd t42 false (fun k => bnot t46 w k) w fun t47 w =>
  pk t42 (Value.bool true) t47 w fun t48 w =>
  gd t48 false (fun k => fld 2 t4 w k) w fun t50 w =>
  gd t48 false (fun k => ld1 t50 w k) w fun t51 w =>
  gd t48 false (fun k => Cl prog 101 #[t51, (Value.int IntKind.i64 1000)] w k) w fun t52 w =>
  gd t48 false (fun k => bnot t52 w k) w fun t53 w =>
  pk t48 (Value.bool true) t53 w fun t54 w =>
  iff' t54
  (K (Value.bool false) w)
  (bi .add .i64 t3 (Value.int IntKind.i64 1) w fun t33 w =>
  g1 [t33] w))
  (K (Value.bool true) w)))
theorem pacelineref07_fine_eq (t0 : Value) (w : World) (K : KV) : pacelineref07_fine t0 w K = fnW prog 55 [2] (match fn75.body with | some c => c | none => .skip) #[t0] w K := by kernel_rfl
theorem pacelineref07_fine_ok : fnOk prog 55 [2] (match fn75.body with | some c => c | none => .skip) = true := by kernel_rfl
theorem pacelineref07_fine_calls {t0 : Value} {w : World} {K : KV} (h : pacelineref07_fine t0 w K) : Cl prog 75 #[t0] w K :=
  Cl.mk (by kernel_rfl) (calls_of_F (fn := fn75) (nt := 55) (rs := [2]) mixed fnAt75 (by kernel_rfl) (by kernel_rfl) (by kernel_rfl) (Nat.le_of_ble_eq_true (by kernel_rfl)) pacelineref07_fine_ok (pacelineref07_fine_eq t0 w K) h)

/-- paceline/pacelineref07.Find -/
def pacelineref07_Find (t0 t1 t2 : Value) (w : World) (K : KV) : Prop :=
  lp [(Value.int IntKind.i64 0)] w (b1 fun t7 w g1 =>
  lnS t0 w fun t10 w =>
  bi .lss .i64 t7 t10 w fun t11 w =>
  iff' t11
  (ixS 4 t0 t7 w fun t16 w =>
  fld 0 t16 w fun t17 w =>
  ld1 t17 w fun t18 w =>
  bi .eql .i64 t18 t1 w fun t20 w =>
  gd t20 true (fun k => k t0 w) w fun t22 w =>
  gd t20 true (fun k => k t7 w) w fun t23 w =>
  gd t20 true (fun k => ixS 4 t22 t23 w k) w fun t24 w =>
  gd t20 true (fun k => fld 1 t24 w k) w fun t25 w =>
  gd t20 true (fun k => ld1 t25 w k) w fun t26 w =>
  gd t20 true (fun k => k t2 w) w fun t27 w =>
  gd t20 true (fun k => bi .eql .i64 t26 t27 w k) w fun t28 w =>
  pk t20 t28 (Value.bool false) w fun t29 w =>
  iff' t29
  (K t7 w)
  (bi .add .i64 t7 (Value.int IntKind.i64 1) w fun t13 w =>
  g1 [t13] w))
  (K (Value.int IntKind.i64 (-1)) w))
theorem pacelineref07_Find_eq (t0 t1 t2 : Value) (w : World) (K : KV) : pacelineref07_Find t0 t1 t2 w K = fnW prog 31 [6] (match fn76.body with | some c => c | none => .skip) #[t0, t1, t2] w K := by kernel_rfl
theorem pacelineref07_Find_ok : fnOk prog 31 [6] (match fn76.body with | some c => c | none => .skip) = true := by kernel_rfl
theorem pacelineref07_Find_calls {t0 t1 t2 : Value} {w : World} {K : KV} (h : pacelineref07_Find t0 t1 t2 w K) : Cl prog 76 #[t0, t1, t2] w K :=
  Cl.mk (by kernel_rfl) (calls_of_F (fn := fn76) (nt := 31) (rs := [6]) mixed fnAt76 (by kernel_rfl) (by kernel_rfl) (by kernel_rfl) (Nat.le_of_ble_eq_true (by kernel_rfl)) pacelineref07_Find_ok (pacelineref07_Find_eq t0 t1 t2 w K) h)

end Go.Proofs.Ytfcnjbannejchaa
