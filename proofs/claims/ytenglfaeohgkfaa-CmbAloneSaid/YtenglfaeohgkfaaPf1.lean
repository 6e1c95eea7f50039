/- Printed by prt.py: the Go functions of this seat as shallow predicate transformers. Conditions: none. -/
import Derived.Test.YtenglfaeohgkfaaEngO
import Derived.Test.YtenglfaeohgkfaaEngZ
import Derived.Test.YtenglfaeohgkfaaPfHead
import Derived.KernelRfl
namespace Go.Proofs.Ytenglfaeohgkfaa
open Go Go.E
set_option linter.unusedVariables false
set_option maxRecDepth 100000
/-- paceline/table.Step -/
def table_Step (t0 t1 t2 : Value) (w : World) (K : KV) : Prop :=
  Cl prog 46 #[t0, t1, t2] w fun t12 w =>
  bi .lss .i64 t12 (Value.int IntKind.i64 0) w fun t14 w =>
  iff' t14
  (K (Value.tuple #[t1, (Value.slice none 0 0)]) w)
  (dr w fun w =>
  ixS 4 t0 t12 w fun t18 _ =>
  fld 2 t18 w fun t19 _ =>
  ld1 t19 w fun t20 _ =>
  ixS 4 t0 t12 w fun t23 _ =>
  fld 3 t23 w fun t24 _ =>
  ld1 t24 w fun t25 _ =>
  Cl prog 41 #[t25] w fun t26 w =>
  (ld1 t19 w (fun v' w'' => v' = t20 ∧ w'' = w)) ∧ (K (Value.tuple #[t20, t26]) w))
theorem table_Step_eq (t0 t1 t2 : Value) (w : World) (K : KV) : table_Step t0 t1 t2 w K = fnW prog 27 [6, 7] (match fn27.body with | some c => c | none => .skip) #[t0, t1, t2] w K := by kernel_rfl
theorem table_Step_ok : fnOk prog 27 [6, 7] (match fn27.body with | some c => c | none => .skip) = true := by kernel_rfl
theorem table_Step_calls {t0 t1 t2 : Value} {w : World} {K : KV} (h : table_Step t0 t1 t2 w K) : Cl prog 27 #[t0, t1, t2] w K :=
  Cl.mk (by kernel_rfl) (calls_of_F (fn := fn27) (nt := 27) (rs := [6, 7]) mixed fnAt27 (by kernel_rfl) (by kernel_rfl) (by kernel_rfl) (Nat.le_of_ble_eq_true (by kernel_rfl)) table_Step_ok (table_Step_eq t0 t1 t2 w K) h)

/-- paceline/config.Spread -/
def config_Spread (t0 t1 t2 t3 t4 t5 : Value) (w : World) (K : KV) : Prop :=
  al (Value.cells t0) 31 w fun t6 w =>
  lnS t5 w fun t20 w =>
  lp [(Value.slice none 0 0), (Value.int IntKind.i64 0)] w (b2 fun t13 t21 w g1 =>
  bi .lss .i64 t21 t20 w fun t22 w =>
  iff' t22
  (ixS 3 t5 t21 w fun t24 w =>
  ldN 3 t24 w fun t25 w =>
  al (zeroD prog 75) 75 w fun t15 w =>
  stN 3 t15 t25 w fun _ w =>
  bi .add .i64 t2 t21 w fun t29 w =>
  ldN 3 t15 w fun t32 w =>
  Cl prog 47 #[t1, t29, t3, t4, t32] w fun t33 w =>
  al (zeroD prog 36) 36 w fun t16 w =>
  stN 6 t16 t33 w fun _ w =>
  ldN 3 t6 w fun t34 w =>
  fld 4 t16 w fun t36 w =>
  ld1 t36 w fun t37 w =>
  Cl prog 48 #[t34, t1, t37] w fun t38 w =>
  lnS t38 w fun t39 w =>
  lp [t13, (Value.int IntKind.i64 0)] w (b2 fun t13_1 t40 w g2 =>
  bi .lss .i64 t40 t39 w fun t41 w =>
  iff' t41
  (ixS 1 t38 t40 w fun t42 w =>
  ld1 t42 w fun t43 w =>
  fld 3 t16 w fun t45 w =>
  stN 1 t45 t43 w fun _ w =>
  ldN 6 t16 w fun t47 w =>
  bsl 36 6 1 (zeroD prog 36) [(0, t47)] w fun t48 w =>
  apS prog #[52, 52] 52 t13_1 t48 w fun t49 w =>
  bi .add .i64 t40 (Value.int IntKind.i64 1) w fun t50 w =>
  g2 [t49, t50] w)
  (bi .add .i64 t21 (Value.int IntKind.i64 1) w fun t51 w =>
  g1 [t13_1, t51] w)))
  (K t13 w))
theorem config_Spread_eq (t0 t1 t2 t3 t4 t5 : Value) (w : World) (K : KV) : config_Spread t0 t1 t2 t3 t4 t5 w K = fnW prog 53 [12] (match fn28.body with | some c => c | none => .skip) #[t0, t1, t2, t3, t4, t5] w K := by kernel_rfl
theorem config_Spread_ok : fnOk prog 53 [12] (match fn28.body with | some c => c | none => .skip) = true := by kernel_rfl
theorem config_Spread_calls {t0 t1 t2 t3 t4 t5 : Value} {w : World} {K : KV} (h : config_Spread t0 t1 t2 t3 t4 t5 w K) : Cl prog 28 #[t0, t1, t2, t3, t4, t5] w K :=
  Cl.mk (by kernel_rfl) (calls_of_F (fn := fn28) (nt := 53) (rs := [12]) mixed fnAt28 (by kernel_rfl) (by kernel_rfl) (by kernel_rfl) (Nat.le_of_ble_eq_true (by kernel_rfl)) config_Spread_ok (config_Spread_eq t0 t1 t2 t3 t4 t5 w K) h)

/-- slices.Clone[[]paceline/api.Done,paceline/api.Done] -/
def slices_Clone_api_Done_api_Done (t0 : Value) (w : World) (K : KV) : Prop :=
  bO prog .eql 46 (Operand.tmp 3) (Operand.const (Value.slice none 0 0)) t0 (Value.slice none 0 0) w fun t4 w =>
  iff' t4
  (K (Value.slice none 0 0) w)
  (bsl 51 7 0 #[] [] w fun t5 w =>
  apS prog #[46, 46] 46 t5 t0 w fun t7 w =>
  K t7 w)
theorem slices_Clone_api_Done_api_Done_eq (t0 : Value) (w : World) (K : KV) : slices_Clone_api_Done_api_Done t0 w K = fnW prog 8 [2] (match fn29.body with | some c => c | none => .skip) #[t0] w K := by kernel_rfl
theorem slices_Clone_api_Done_api_Done_ok : fnOk prog 8 [2] (match fn29.body with | some c => c | none => .skip) = true := by kernel_rfl
theorem slices_Clone_api_Done_api_Done_calls {t0 : Value} {w : World} {K : KV} (h : slices_Clone_api_Done_api_Done t0 w K) : Cl prog 29 #[t0] w K :=
  Cl.mk (by kernel_rfl) (calls_of_F (fn := fn29) (nt := 8) (rs := [2]) mixed fnAt29 (by kernel_rfl) (by kernel_rfl) (by kernel_rfl) (Nat.le_of_ble_eq_true (by kernel_rfl)) slices_Clone_api_Done_api_Done_ok (slices_Clone_api_Done_api_Done_eq t0 w K) h)

/-- (paceline/cmb.queue).first -/
def cmb_queue_first (t0 : Value) (w : World) (K : KV) : Prop :=
  al (Value.cells t0) 45 w fun t1 w =>
  al (zeroD prog 36) 36 w fun t2 w =>
  fld 0 t1 w fun t4 w =>
  ld1 t4 w fun t5 w =>
  Cl prog 49 #[t5] w fun t6 w =>
  xt 0 t6 w fun t7 w =>
  xt 1 t6 w fun t8 w =>
  stN 6 t2 t7 w fun _ w =>
  ldN 6 t2 w fun r0 _ =>
  K (Value.tuple #[r0, t8]) w
theorem cmb_queue_first_eq (t0 : Value) (w : World) (K : KV) : cmb_queue_first t0 w K = fnWC prog 9 [(2, some 36), (3, none)] (match fn30.body with | some c => c | none => .skip) #[t0] w K := by kernel_rfl
theorem cmb_queue_first_ok : fnOkC prog 9 [(2, some 36), (3, none)] (match fn30.body with | some c => c | none => .skip) = true := by kernel_rfl
theorem cmb_queue_first_calls {t0 : Value} {w : World} {K : KV} (h : cmb_queue_first t0 w K) : Cl prog 30 #[t0] w K :=
  Cl.mk (by kernel_rfl) (calls_of_FC (fn := fn30) (nt := 9) (rs := [(2, some 36), (3, none)]) mixed fnAt30 (by kernel_rfl) (by kernel_rfl) (by kernel_rfl) (Nat.le_of_ble_eq_true (by kernel_rfl)) cmb_queue_first_ok (cmb_queue_first_eq t0 w K) h)

/-- (*paceline/clock.Clocks).Tell -/
def clock_Clocks_Tell (t0 t1 t2 : Value) (w : World) (K : KV) : Prop :=
  Cl prog 10 #[t0] w fun t11 w =>
  bsl 3 1 2 (zeroD prog 3) [(0, t1), (1, t11)] w fun t12 w =>
  Cl prog 51 #[t12] w fun t13 w =>
  Cl prog 50 #[t13, t2] w fun t15 w =>
  ncP t0 <|
  fld 1 t0 w fun t19 w =>
  ld1 t19 w fun t20 w =>
  bi .leq .i64 t15 t20 w fun t21 w =>
  iff' t21
  (ncP t0 <|
  fld 1 t0 w fun t24 w =>
  ld1 t24 w fun t25 w =>
  K (Value.tuple #[t25, (Value.bool false)]) w)
  (ncP t0 <|
  fld 1 t0 w fun t29 w =>
  stN 1 t29 t15 w fun _ w =>
  K (Value.tuple #[t15, (Value.bool true)]) w)
theorem clock_Clocks_Tell_eq (t0 t1 t2 : Value) (w : World) (K : KV) : clock_Clocks_Tell t0 t1 t2 w K = fnW prog 31 [6, 7] (match fn31.body with | some c => c | none => .skip) #[t0, t1, t2] w K := by kernel_rfl
theorem clock_Clocks_Tell_ok : fnOk prog 31 [6, 7] (match fn31.body with | some c => c | none => .skip) = true := by kernel_rfl
theorem clock_Clocks_Tell_calls {t0 t1 t2 : Value} {w : World} {K : KV} (h : clock_Clocks_Tell t0 t1 t2 w K) : Cl prog 31 #[t0, t1, t2] w K :=
  Cl.mk (by kernel_rfl) (calls_of_F (fn := fn31) (nt := 31) (rs := [6, 7]) mixed fnAt31 (by kernel_rfl) (by kernel_rfl) (by kernel_rfl) (Nat.le_of_ble_eq_true (by kernel_rfl)) clock_Clocks_Tell_ok (clock_Clocks_Tell_eq t0 t1 t2 w K) h)

/-- (*paceline/prio.Queue).List -/
def prio_Queue_List (t0 : Value) (w : World) (K : KV) : Prop :=
  ncP t0 <|
  fld 1 t0 w fun t6 w =>
  ld1 t6 w fun t7 w =>
  Cl prog 52 #[t7] w fun t8 w =>
  Cl prog 53 #[t8, (Value.func (.func 54) #[] #[])] w fun _ w =>
  K t8 w
theorem prio_Queue_List_eq (t0 : Value) (w : World) (K : KV) : prio_Queue_List t0 w K = fnW prog 12 [2] (match fn32.body with | some c => c | none => .skip) #[t0] w K := by kernel_rfl
theorem prio_Queue_List_ok : fnOk prog 12 [2] (match fn32.body with | some c => c | none => .skip) = true := by kernel_rfl
theorem prio_Queue_List_calls {t0 : Value} {w : World} {K : KV} (h : prio_Queue_List t0 w K) : Cl prog 32 #[t0] w K :=
  Cl.mk (by kernel_rfl) (calls_of_F (fn := fn32) (nt := 12) (rs := [2]) mixed fnAt32 (by kernel_rfl) (by kernel_rfl) (by kernel_rfl) (Nat.le_of_ble_eq_true (by kernel_rfl)) prio_Queue_List_ok (prio_Queue_List_eq t0 w K) h)

/-- paceline/config.first -/
def config_first (t0 : Value) (w : World) (K : KV) : Prop :=
  lnS t0 w fun t7 w =>
  lp [(Value.int IntKind.i64 0)] w (b1 fun t8 w g1 =>
  bi .lss .i64 t8 t7 w fun t9 w =>
  iff' t9
  (ixS 1 t0 t8 w fun t10 w =>
  ld1 t10 w fun t11 w =>
  clV prog t11 #[] w fun t13 w =>
  bi .neq .i64 t13 (Value.int IntKind.i64 0) w fun t15 w =>
  iff' t15
  (K t13 w)
  (bi .add .i64 t8 (Value.int IntKind.i64 1) w fun t17 w =>
  g1 [t17] w))
  (K (Value.int IntKind.i64 0) w))
theorem config_first_eq (t0 : Value) (w : World) (K : KV) : config_first t0 w K = fnW prog 18 [2] (match fn33.body with | some c => c | none => .skip) #[t0] w K := by kernel_rfl
theorem config_first_ok : fnOk prog 18 [2] (match fn33.body with | some c => c | none => .skip) = true := by kernel_rfl
theorem config_first_calls {t0 : Value} {w : World} {K : KV} (h : config_first t0 w K) : Cl prog 33 #[t0] w K :=
  Cl.mk (by kernel_rfl) (calls_of_F (fn := fn33) (nt := 18) (rs := [2]) mixed fnAt33 (by kernel_rfl) (by kernel_rfl) (by kernel_rfl) (Nat.le_of_ble_eq_true (by kernel_rfl)) config_first_ok (config_first_eq t0 w K) h)

/-- paceline/config.Check$1 -/
def config_Check_1 (t0 : Value) (w : World) (K : KV) : Prop :=
  fld 0 t0 w fun t2 w =>
  ld1 t2 w fun t3 w =>
  Cl prog 35 #[t3] w fun t4 w =>
  K t4 w
theorem config_Check_1_eq (t0 : Value) (w : World) (K : KV) : config_Check_1 t0 w K = fnW prog 5 [1] (match fn34.body with | some c => c | none => .skip) #[t0] w K := by kernel_rfl
theorem config_Check_1_ok : fnOk prog 5 [1] (match fn34.body with | some c => c | none => .skip) = true := by kernel_rfl
theorem config_Check_1_calls {t0 : Value} {w : World} {K : KV} (h : config_Check_1 t0 w K) : Cl prog 34 #[t0] w K :=
  Cl.mk (by kernel_rfl) (calls_of_F (fn := fn34) (nt := 5) (rs := [1]) mixed fnAt34 (by kernel_rfl) (by kernel_rfl) (by kernel_rfl) (Nat.le_of_ble_eq_true (by kernel_rfl)) config_Check_1_ok (config_Check_1_eq t0 w K) h)

/-- paceline/tree.Check -/
def tree_Check (t0 : Value) (w : World) (K : KV) : Prop :=
  lnS t0 w fun t7 w =>
  bi .lss .i64 t7 (Value.int IntKind.i64 1) w fun t9 w =>
  gd t9 false (fun k => k t7 w) w fun t11 w =>
  gd t9 false (fun k => bi .gtr .i64 t11 (Value.int IntKind.i64 16) w k) w fun t12 w =>
  pk t9 (Value.bool true) t12 w fun t13 w =>
  iff' t13
  (K (Value.int IntKind.i64 50) w)
  (lnS t0 w fun t15 w =>
  lp [(Value.int IntKind.i64 0)] w (b1 fun t16 w g1 =>
  bi .lss .i64 t16 t15 w fun t17 w =>
  iff' t17
  (ixS 1 t0 t16 w fun t19 w =>
  ld1 t19 w fun t20 w =>
  bi .lss .i64 t20 (Value.int IntKind.i64 (-1)) w fun t22 w =>
  gd t22 false (fun k => k t20 w) w fun t24 w =>
  gd t22 false (fun k => k t16 w) w fun t25 w =>
  gd t22 false (fun k => bi .geq .i64 t24 t25 w k) w fun t26 w =>
  pk t22 (Value.bool true) t26 w fun t27 w =>
  iff' t27
  (K (Value.int IntKind.i64 50) w)
  (bi .add .i64 t16 (Value.int IntKind.i64 1) w fun t28 w =>
  g1 [t28] w))
  (K (Value.int IntKind.i64 0) w)))
theorem tree_Check_eq (t0 : Value) (w : World) (K : KV) : tree_Check t0 w K = fnW prog 29 [2] (match fn35.body with | some c => c | none => .skip) #[t0] w K := by kernel_rfl
theorem tree_Check_ok : fnOk prog 29 [2] (match fn35.body with | some c => c | none => .skip) = true := by kernel_rfl
theorem tree_Check_calls {t0 : Value} {w : World} {K : KV} (h : tree_Check t0 w K) : Cl prog 35 #[t0] w K :=
  Cl.mk (by kernel_rfl) (calls_of_F (fn := fn35) (nt := 29) (rs := [2]) mixed fnAt35 (by kernel_rfl) (by kernel_rfl) (by kernel_rfl) (Nat.le_of_ble_eq_true (by kernel_rfl)) tree_Check_ok (tree_Check_eq t0 w K) h)

/-- paceline/config.unless -/
def config_unless (t0 t1 : Value) (w : World) (K : KV) : Prop :=
  al (Value.cells t0) 4 w fun t2 w =>
  al (Value.cells t1) 25 w fun t3 w =>
  K (Value.func (Fn.func 56) #[] #[t2, t3]) w
theorem config_unless_eq (t0 t1 : Value) (w : World) (K : KV) : config_unless t0 t1 w K = fnW prog 6 [4] (match fn36.body with | some c => c | none => .skip) #[t0, t1] w K := by kernel_rfl
theorem config_unless_ok : fnOk prog 6 [4] (match fn36.body with | some c => c | none => .skip) = true := by kernel_rfl
theorem config_unless_calls {t0 t1 : Value} {w : World} {K : KV} (h : config_unless t0 t1 w K) : Cl prog 36 #[t0, t1] w K :=
  Cl.mk (by kernel_rfl) (calls_of_F (fn := fn36) (nt := 6) (rs := [4]) mixed fnAt36 (by kernel_rfl) (by kernel_rfl) (by kernel_rfl) (Nat.le_of_ble_eq_true (by kernel_rfl)) config_unless_ok (config_unless_eq t0 t1 w K) h)

/-- paceline/config.within -/
def config_within (t0 t1 t2 : Value) (w : World) (K : KV) : Prop :=
  bi .geq .i64 t0 t1 w fun t9 w =>
  gd t9 true (fun k => k t0 w) w fun t11 w =>
  gd t9 true (fun k => k t2 w) w fun t12 w =>
  gd t9 true (fun k => bi .leq .i64 t11 t12 w k) w fun t13 w =>
  pk t9 t13 (Value.bool false) w fun t14 w =>
  K t14 w
theorem config_within_eq (t0 t1 t2 : Value) (w : World) (K : KV) : config_within t0 t1 t2 w K = fnW prog 15 [6] (match fn37.body with | some c => c | none => .skip) #[t0, t1, t2] w K := by kernel_rfl
theorem config_within_ok : fnOk prog 15 [6] (match fn37.body with | some c => c | none => .skip) = true := by kernel_rfl
theorem config_within_calls {t0 t1 t2 : Value} {w : World} {K : KV} (h : config_within t0 t1 t2 w K) : Cl prog 37 #[t0, t1, t2] w K :=
  Cl.mk (by kernel_rfl) (calls_of_F (fn := fn37) (nt := 15) (rs := [6]) mixed fnAt37 (by kernel_rfl) (by kernel_rfl) (by kernel_rfl) (Nat.le_of_ble_eq_true (by kernel_rfl)) config_within_ok (config_within_eq t0 t1 t2 w K) h)

/-- paceline/config.fed -/
def config_fed (t0 t1 : Value) (w : World) (K : KV) : Prop :=
  al (Value.cells t0) 69 w fun t2 w =>
  al (Value.cells t1) 3 w fun t3 w =>
  dr w fun w =>
  fld 0 t2 w fun t11 _ =>
  ld1 t11 w fun t12 _ =>
  fld 1 t2 w fun t15 _ =>
  ld1 t15 w fun t16 _ =>
  fld 2 t2 w fun t19 _ =>
  ld1 t19 w fun t20 _ =>
  fld 4 t2 w fun t25 _ =>
  ld1 t25 w fun t26 _ =>
  fld 6 t2 w fun t36 _ =>
  ld1 t36 w fun t37 _ =>
  lnS t37 w fun t38 _ =>
  bi .leq .i64 t38 (Value.int IntKind.i64 4) w fun t39 _ =>
  Cl prog 37 #[t12, (Value.int IntKind.i64 0), (Value.int IntKind.i64 1)] w fun t13 w =>
  (ld1 t36 w (fun v' w'' => v' = t37 ∧ w'' = w)) ∧ ((ld1 t25 w (fun v' w'' => v' = t26 ∧ w'' = w)) ∧ ((ld1 t19 w (fun v' w'' => v' = t20 ∧ w'' = w)) ∧ ((ld1 t15 w (fun v' w'' => v' = t16 ∧ w'' = w)) ∧ (Cl prog 36 #[t13, (Value.int IntKind.i64 1)] w fun t14 w =>
  (ld1 t36 w (fun v' w'' => v' = t37 ∧ w'' = w)) ∧ ((ld1 t25 w (fun v' w'' => v' = t26 ∧ w'' = w)) ∧ ((ld1 t19 w (fun v' w'' => v' = t20 ∧ w'' = w)) ∧ ((ld1 t15 w (fun v' w'' => v' = t16 ∧ w'' = w)) ∧ (Cl prog 37 #[t16, (Value.int IntKind.i64 1), (Value.int IntKind.i64 1048576)] w fun t17 w =>
  (ld1 t36 w (fun v' w'' => v' = t37 ∧ w'' = w)) ∧ ((ld1 t25 w (fun v' w'' => v' = t26 ∧ w'' = w)) ∧ ((ld1 t19 w (fun v' w'' => v' = t20 ∧ w'' = w)) ∧ (Cl prog 36 #[t17, (Value.int IntKind.i64 80)] w fun t18 w =>
  (ld1 t36 w (fun v' w'' => v' = t37 ∧ w'' = w)) ∧ ((ld1 t25 w (fun v' w'' => v' = t26 ∧ w'' = w)) ∧ ((ld1 t19 w (fun v' w'' => v' = t20 ∧ w'' = w)) ∧ (Cl prog 37 #[t20, (Value.int IntKind.i64 0), (Value.int IntKind.i64 7)] w fun t21 w =>
  (ld1 t36 w (fun v' w'' => v' = t37 ∧ w'' = w)) ∧ ((ld1 t25 w (fun v' w'' => v' = t26 ∧ w'' = w)) ∧ (Cl prog 36 #[t21, (Value.int IntKind.i64 70)] w fun t22 w =>
  (ld1 t36 w (fun v' w'' => v' = t37 ∧ w'' = w)) ∧ ((ld1 t25 w (fun v' w'' => v' = t26 ∧ w'' = w)) ∧ (clV prog (Value.func (Fn.func 57) #[] #[t3]) #[t26] w fun t27 w =>
  (ld1 t36 w (fun v' w'' => v' = t37 ∧ w'' = w)) ∧ (gd t27 true (fun k => k (Value.func (Fn.func 57) #[] #[t3]) w) w fun t29 _ =>
  gd t27 true (fun k => fld 5 t2 w k) w fun t30 _ =>
  gd t27 true (fun k => ld1 t30 w k) w fun t31 _ =>
  gd t27 true (fun k => clV prog t29 #[t31] w k) w fun t32 w =>
  (ld1 t36 w (fun v' w'' => v' = t37 ∧ w'' = w)) ∧ (pk t27 t32 (Value.bool false) w fun t33 _ =>
  Cl prog 36 #[t33, (Value.int IntKind.i64 81)] w fun t34 w =>
  (ld1 t36 w (fun v' w'' => v' = t37 ∧ w'' = w)) ∧ (gd t39 true (fun k => fld 6 t2 w k) w fun t41 _ =>
  gd t39 true (fun k => ld1 t41 w k) w fun t42 _ =>
  gd t39 true (fun k => k (Value.func (Fn.func 60) #[] #[t2]) w) w fun t43 _ =>
  gd t39 true (fun k => Cl prog 63 #[t42, t43] w k) w fun t44 w =>
  gd t39 true (fun k => bnot t44 w k) w fun t45 _ =>
  pk t39 t45 (Value.bool false) w fun t46 _ =>
  Cl prog 36 #[t46, (Value.int IntKind.i64 82)] w fun t47 w =>
  bsl 94 1 7 (zeroD prog 94) [(0, t14), (1, t18), (2, t22), (3, (Value.func (Fn.func 61) #[] #[t2])), (4, t34), (5, (Value.func (Fn.func 58) #[] #[t2, t3])), (6, t47)] w fun t48 w =>
  Cl prog 33 #[t48] w fun t49 w =>
  K t49 w)))))))))))))))))))))
theorem config_fed_eq (t0 t1 : Value) (w : World) (K : KV) : config_fed t0 t1 w K = fnW prog 50 [4] (match fn38.body with | some c => c | none => .skip) #[t0, t1] w K := by kernel_rfl
theorem config_fed_ok : fnOk prog 50 [4] (match fn38.body with | some c => c | none => .skip) = true := by kernel_rfl
theorem config_fed_calls {t0 t1 : Value} {w : World} {K : KV} (h : config_fed t0 t1 w K) : Cl prog 38 #[t0, t1] w K :=
  Cl.mk (by kernel_rfl) (calls_of_F (fn := fn38) (nt := 50) (rs := [4]) mixed fnAt38 (by kernel_rfl) (by kernel_rfl) (by kernel_rfl) (Nat.le_of_ble_eq_true (by kernel_rfl)) config_fed_ok (config_fed_eq t0 t1 w K) h)

/-- slices.Clone[[]int,int] -/
def slices_Clone_int_int (t0 : Value) (w : World) (K : KV) : Prop :=
  bO prog .eql 28 (Operand.tmp 3) (Operand.const (Value.slice none 0 0)) t0 (Value.slice none 0 0) w fun t4 w =>
  iff' t4
  (K (Value.slice none 0 0) w)
  (bsl 3 1 0 #[] [] w fun t5 w =>
  apS prog #[28, 28] 28 t5 t0 w fun t7 w =>
  K t7 w)
theorem slices_Clone_int_int_eq (t0 : Value) (w : World) (K : KV) : slices_Clone_int_int t0 w K = fnW prog 8 [2] (match fn39.body with | some c => c | none => .skip) #[t0] w K := by kernel_rfl
theorem slices_Clone_int_int_ok : fnOk prog 8 [2] (match fn39.body with | some c => c | none => .skip) = true := by kernel_rfl
theorem slices_Clone_int_int_calls {t0 : Value} {w : World} {K : KV} (h : slices_Clone_int_int t0 w K) : Cl prog 39 #[t0] w K :=
  Cl.mk (by kernel_rfl) (calls_of_F (fn := fn39) (nt := 8) (rs := [2]) mixed fnAt39 (by kernel_rfl) (by kernel_rfl) (by kernel_rfl) (Nat.le_of_ble_eq_true (by kernel_rfl)) slices_Clone_int_int_ok (slices_Clone_int_int_eq t0 w K) h)

/-- slices.Clone[[]paceline/api.Fed,paceline/api.Fed] -/
def slices_Clone_api_Fed_api_Fed (t0 : Value) (w : World) (K : KV) : Prop :=
  bO prog .eql 29 (Operand.tmp 3) (Operand.const (Value.slice none 0 0)) t0 (Value.slice none 0 0) w fun t4 w =>
  iff' t4
  (K (Value.slice none 0 0) w)
  (bsl 69 7 0 #[] [] w fun t5 w =>
  apS prog #[29, 29] 29 t5 t0 w fun t7 w =>
  K t7 w)
theorem slices_Clone_api_Fed_api_Fed_eq (t0 : Value) (w : World) (K : KV) : slices_Clone_api_Fed_api_Fed t0 w K = fnW prog 8 [2] (match fn40.body with | some c => c | none => .skip) #[t0] w K := by kernel_rfl
theorem slices_Clone_api_Fed_api_Fed_ok : fnOk prog 8 [2] (match fn40.body with | some c => c | none => .skip) = true := by kernel_rfl
theorem slices_Clone_api_Fed_api_Fed_calls {t0 : Value} {w : World} {K : KV} (h : slices_Clone_api_Fed_api_Fed t0 w K) : Cl prog 40 #[t0] w K :=
  Cl.mk (by kernel_rfl) (calls_of_F (fn := fn40) (nt := 8) (rs := [2]) mixed fnAt40 (by kernel_rfl) (by kernel_rfl) (by kernel_rfl) (Nat.le_of_ble_eq_true (by kernel_rfl)) slices_Clone_api_Fed_api_Fed_ok (slices_Clone_api_Fed_api_Fed_eq t0 w K) h)

/-- slices.Clone[[]paceline/api.Out,paceline/api.Out] -/
def slices_Clone_api_Out_api_Out (t0 : Value) (w : World) (K : KV) : Prop :=
  bO prog .eql 67 (Operand.tmp 3) (Operand.const (Value.slice none 0 0)) t0 (Value.slice none 0 0) w fun t4 w =>
  iff' t4
  (K (Value.slice none 0 0) w)
  (bsl 75 3 0 #[] [] w fun t5 w =>
  apS prog #[67, 67] 67 t5 t0 w fun t7 w =>
  K t7 w)
theorem slices_Clone_api_Out_api_Out_eq (t0 : Value) (w : World) (K : KV) : slices_Clone_api_Out_api_Out t0 w K = fnW prog 8 [2] (match fn41.body with | some c => c | none => .skip) #[t0] w K := by kernel_rfl
theorem slices_Clone_api_Out_api_Out_ok : fnOk prog 8 [2] (match fn41.body with | some c => c | none => .skip) = true := by kernel_rfl
theorem slices_Clone_api_Out_api_Out_calls {t0 : Value} {w : World} {K : KV} (h : slices_Clone_api_Out_api_Out t0 w K) : Cl prog 41 #[t0] w K :=
  Cl.mk (by kernel_rfl) (calls_of_F (fn := fn41) (nt := 8) (rs := [2]) mixed fnAt41 (by kernel_rfl) (by kernel_rfl) (by kernel_rfl) (Nat.le_of_ble_eq_true (by kernel_rfl)) slices_Clone_api_Out_api_Out_ok (slices_Clone_api_Out_api_Out_eq t0 w K) h)

/-- slices.Clone[[]paceline/api.Rule,paceline/api.Rule] -/
def slices_Clone_api_Rule_api_Rule (t0 : Value) (w : World) (K : KV) : Prop :=
  bO prog .eql 66 (Operand.tmp 3) (Operand.const (Value.slice none 0 0)) t0 (Value.slice none 0 0) w fun t4 w =>
  iff' t4
  (K (Value.slice none 0 0) w)
  (bsl 77 4 0 #[] [] w fun t5 w =>
  apS prog #[66, 66] 66 t5 t0 w fun t7 w =>
  K t7 w)
theorem slices_Clone_api_Rule_api_Rule_eq (t0 : Value) (w : World) (K : KV) : slices_Clone_api_Rule_api_Rule t0 w K = fnW prog 8 [2] (match fn42.body with | some c => c | none => .skip) #[t0] w K := by kernel_rfl
theorem slices_Clone_api_Rule_api_Rule_ok : fnOk prog 8 [2] (match fn42.body with | some c => c | none => .skip) = true := by kernel_rfl
theorem slices_Clone_api_Rule_api_Rule_calls {t0 : Value} {w : World} {K : KV} (h : slices_Clone_api_Rule_api_Rule t0 w K) : Cl prog 42 #[t0] w K :=
  Cl.mk (by kernel_rfl) (calls_of_F (fn := fn42) (nt := 8) (rs := [2]) mixed fnAt42 (by kernel_rfl) (by kernel_rfl) (by kernel_rfl) (Nat.le_of_ble_eq_true (by kernel_rfl)) slices_Clone_api_Rule_api_Rule_ok (slices_Clone_api_Rule_api_Rule_eq t0 w K) h)

/-- paceline/vtime.Valid -/
def vtime_Valid (t0 : Value) (w : World) (K : KV) : Prop :=
  bi .eql .i64 t0 (Value.int IntKind.i64 1125899906842624) w fun t4 w =>
  gd t4 false (fun k => k t0 w) w fun t6 w =>
  gd t4 false (fun k => cvI .u64 t6 w k) w fun t7 w =>
  gd t4 false (fun k => bi .leq .u64 t7 (Value.int IntKind.u64 1099511627776) w k) w fun t8 w =>
  pk t4 (Value.bool true) t8 w fun t9 w =>
  K t9 w
theorem vtime_Valid_eq (t0 : Value) (w : World) (K : KV) : vtime_Valid t0 w K = fnW prog 10 [2] (match fn43.body with | some c => c | none => .skip) #[t0] w K := by kernel_rfl
theorem vtime_Valid_ok : fnOk prog 10 [2] (match fn43.body with | some c => c | none => .skip) = true := by kernel_rfl
theorem vtime_Valid_calls {t0 : Value} {w : World} {K : KV} (h : vtime_Valid t0 w K) : Cl prog 43 #[t0] w K :=
  Cl.mk (by kernel_rfl) (calls_of_F (fn := fn43) (nt := 10) (rs := [2]) mixed fnAt43 (by kernel_rfl) (by kernel_rfl) (by kernel_rfl) (Nat.le_of_ble_eq_true (by kernel_rfl)) vtime_Valid_ok (vtime_Valid_eq t0 w K) h)

/-- container/heap.Push -/
def heap_Push (t0 t1 : Value) (w : World) (K : KV) : Prop :=
  clI prog t0 "Push" #[t1] w fun _ w =>
  clI prog t0 "Len" #[] w fun t9 w =>
  bi .sub .i64 t9 (Value.int IntKind.i64 1) w fun t10 w =>
  Cl prog 64 #[t0, t10] w fun _ w =>
  K (Value.tuple #[]) w
theorem heap_Push_eq (t0 t1 : Value) (w : World) (K : KV) : heap_Push t0 t1 w K = fnW prog 12 [] (match fn44.body with | some c => c | none => .skip) #[t0, t1] w K := by kernel_rfl
theorem heap_Push_ok : fnOk prog 12 [] (match fn44.body with | some c => c | none => .skip) = true := by kernel_rfl
theorem heap_Push_calls {t0 t1 : Value} {w : World} {K : KV} (h : heap_Push t0 t1 w K) : Cl prog 44 #[t0, t1] w K :=
  Cl.mk (by kernel_rfl) (calls_of_F (fn := fn44) (nt := 12) (rs := []) mixed fnAt44 (by kernel_rfl) (by kernel_rfl) (by kernel_rfl) (Nat.le_of_ble_eq_true (by kernel_rfl)) heap_Push_ok (heap_Push_eq t0 t1 w K) h)

/-- container/heap.Pop -/
def heap_Pop (t0 : Value) (w : World) (K : KV) : Prop :=
  clI prog t0 "Len" #[] w fun t5 w =>
  bi .sub .i64 t5 (Value.int IntKind.i64 1) w fun t6 w =>
  clI prog t0 "Swap" #[(Value.int IntKind.i64 0), t6] w fun _ w =>
  Cl prog 65 #[t0, (Value.int IntKind.i64 0), t6] w fun _ w =>
  clI prog t0 "Pop" #[] w fun t14 w =>
  K t14 w
theorem heap_Pop_eq (t0 : Value) (w : World) (K : KV) : heap_Pop t0 w K = fnW prog 15 [2] (match fn45.body with | some c => c | none => .skip) #[t0] w K := by kernel_rfl
theorem heap_Pop_ok : fnOk prog 15 [2] (match fn45.body with | some c => c | none => .skip) = true := by kernel_rfl
theorem heap_Pop_calls {t0 : Value} {w : World} {K : KV} (h : heap_Pop t0 w K) : Cl prog 45 #[t0] w K :=
  Cl.mk (by kernel_rfl) (calls_of_F (fn := fn45) (nt := 15) (rs := [2]) mixed fnAt45 (by kernel_rfl) (by kernel_rfl) (by kernel_rfl) (Nat.le_of_ble_eq_true (by kernel_rfl)) heap_Pop_ok (heap_Pop_eq t0 w K) h)

/-- paceline/table.Find -/
def table_Find (t0 t1 t2 : Value) (w : World) (K : KV) : Prop :=
  al (Value.cells t1) 3 w fun t4 w =>
  al (Value.cells t2) 3 w fun t5 w =>
  Cl prog 66 #[t0, (Value.func (Fn.func 67) #[] #[t4, t5])] w fun t9 w =>
  K t9 w
theorem table_Find_eq (t0 t1 t2 : Value) (w : World) (K : KV) : table_Find t0 t1 t2 w K = fnW prog 10 [6] (match fn46.body with | some c => c | none => .skip) #[t0, t1, t2] w K := by kernel_rfl
theorem table_Find_ok : fnOk prog 10 [6] (match fn46.body with | some c => c | none => .skip) = true := by kernel_rfl
theorem table_Find_calls {t0 t1 t2 : Value} {w : World} {K : KV} (h : table_Find t0 t1 t2 w K) : Cl prog 46 #[t0, t1, t2] w K :=
  Cl.mk (by kernel_rfl) (calls_of_F (fn := fn46) (nt := 10) (rs := [6]) mixed fnAt46 (by kernel_rfl) (by kernel_rfl) (by kernel_rfl) (Nat.le_of_ble_eq_true (by kernel_rfl)) table_Find_ok (table_Find_eq t0 t1 t2 w K) h)

/-- paceline/table.Sent -/
def table_Sent (t0 t1 t2 t3 t4 : Value) (w : World) (K : KV) : Prop :=
  al (Value.cells t4) 75 w fun t9 w =>
  al (zeroD prog 36) 36 w fun t10 w =>
  dr w fun w =>
  fld 1 t9 w fun t12 _ =>
  ld1 t12 w fun t13 _ =>
  fld 0 t9 w fun t18 _ =>
  ld1 t18 w fun t19 _ =>
  fld 2 t9 w fun t22 _ =>
  ld1 t22 w fun t23 _ =>
  Cl prog 50 #[t2, t13] w fun t14 w =>
  (ld1 t22 w (fun v' w'' => v' = t23 ∧ w'' = w)) ∧ ((ld1 t18 w (fun v' w'' => v' = t19 ∧ w'' = w)) ∧ ((bld (zeroD prog 34) #[(0, 1), (1, 1), (2, 1)] [(0, t14), (1, t0), (2, t1)] w fun t17 w =>
  (ld1 t22 w (fun v' w'' => v' = t23 ∧ w'' = w)) ∧ ((ld1 t18 w (fun v' w'' => v' = t19 ∧ w'' = w)) ∧ (Cl prog 68 #[t3] w fun t21 w =>
  (ld1 t22 w (fun v' w'' => v' = t23 ∧ w'' = w)) ∧ ((ld1 t18 w (fun v' w'' => v' = t19 ∧ w'' = w)) ∧ (Cl prog 68 #[t23] w fun t24 w =>
  (ld1 t18 w (fun v' w'' => v' = t19 ∧ w'' = w)) ∧ (bi .add .i64 t21 t24 w fun t25 _ =>
  Cl prog 68 #[t25] w fun t26 w =>
  (ld1 t18 w (fun v' w'' => v' = t19 ∧ w'' = w)) ∧ (bld (zeroD prog 36) #[(0, 3), (3, 1), (4, 1), (5, 1)] [(0, t17), (1, (Value.int IntKind.i64 (-1))), (2, t19), (3, t26)] w fun t27 w =>
  stN 6 t10 t27 w fun _ w =>
  ldN 6 t10 w fun r0 _ =>
  K r0 w))))))) ∧ (Cl prog 68 #[t3] w fun t21_1 w =>
  (ld1 t22 w (fun v' w'' => v' = t23 ∧ w'' = w)) ∧ ((ld1 t18 w (fun v' w'' => v' = t19 ∧ w'' = w)) ∧ ((bld (zeroD prog 34) #[(0, 1), (1, 1), (2, 1)] [(0, t14), (1, t0), (2, t1)] w fun t17_1 w =>
  (ld1 t22 w (fun v' w'' => v' = t23 ∧ w'' = w)) ∧ ((ld1 t18 w (fun v' w'' => v' = t19 ∧ w'' = w)) ∧ (Cl prog 68 #[t23] w fun t24_1 w =>
  (ld1 t18 w (fun v' w'' => v' = t19 ∧ w'' = w)) ∧ (bi .add .i64 t21_1 t24_1 w fun t25_1 _ =>
  Cl prog 68 #[t25_1] w fun t26_1 w =>
  (ld1 t18 w (fun v' w'' => v' = t19 ∧ w'' = w)) ∧ (bld (zeroD prog 36) #[(0, 3), (3, 1), (4, 1), (5, 1)] [(0, t17_1), (1, (Value.int IntKind.i64 (-1))), (2, t19), (3, t26_1)] w fun t27_1 w =>
  stN 6 t10 t27_1 w fun _ w =>
  ldN 6 t10 w fun r0 _ =>
  K r0 w))))) ∧ (Cl prog 68 #[t23] w fun t24_2 w =>
  (ld1 t18 w (fun v' w'' => v' = t19 ∧ w'' = w)) ∧ (bi .add .i64 t21_1 t24_2 w fun t25_2 _ =>
  (bld (zeroD prog 34) #[(0, 1), (1, 1), (2, 1)] [(0, t14), (1, t0), (2, t1)] w fun t17_2 w =>
  (ld1 t22 w (fun v' w'' => v' = t23 ∧ w'' = w)) ∧ ((ld1 t18 w (fun v' w'' => v' = t19 ∧ w'' = w)) ∧ (Cl prog 68 #[t25_2] w fun t26_2 w =>
  (ld1 t18 w (fun v' w'' => v' = t19 ∧ w'' = w)) ∧ (bld (zeroD prog 36) #[(0, 3), (3, 1), (4, 1), (5, 1)] [(0, t17_2), (1, (Value.int IntKind.i64 (-1))), (2, t19), (3, t26_2)] w fun t27_2 w =>
  stN 6 t10 t27_2 w fun _ w =>
  ldN 6 t10 w fun r0 _ =>
  K r0 w)))) ∧ (Cl prog 68 #[t25_2] w fun t26_3 w =>
  (ld1 t18 w (fun v' w'' => v' = t19 ∧ w'' = w)) ∧ (bld (zeroD prog 34) #[(0, 1), (1, 1), (2, 1)] [(0, t14), (1, t0), (2, t1)] w fun t17_3 w =>
  (ld1 t22 w (fun v' w'' => v' = t23 ∧ w'' = w)) ∧ ((ld1 t18 w (fun v' w'' => v' = t19 ∧ w'' = w)) ∧ (bld (zeroD prog 36) #[(0, 3), (3, 1), (4, 1), (5, 1)] [(0, t17_3), (1, (Value.int IntKind.i64 (-1))), (2, t19), (3, t26_3)] w fun t27_3 w =>
  stN 6 t10 t27_3 w fun _ w =>
  ldN 6 t10 w fun r0 _ =>
  K r0 w)))))))))))
theorem table_Sent_eq (t0 t1 t2 t3 t4 : Value) (w : World) (K : KV) : table_Sent t0 t1 t2 t3 t4 w K = fnWC prog 28 [(10, some 36)] (match fn47.body with | some c => c | none => .skip) #[t0, t1, t2, t3, t4] w K := by kernel_rfl
theorem table_Sent_ok : fnOkC prog 28 [(10, some 36)] (match fn47.body with | some c => c | none => .skip) = true := by kernel_rfl
theorem table_Sent_calls {t0 t1 t2 t3 t4 : Value} {w : World} {K : KV} (h : table_Sent t0 t1 t2 t3 t4 w K) : Cl prog 47 #[t0, t1, t2, t3, t4] w K :=
  Cl.mk (by kernel_rfl) (calls_of_FC (fn := fn47) (nt := 28) (rs := [(10, some 36)]) mixed fnAt47 (by kernel_rfl) (by kernel_rfl) (by kernel_rfl) (Nat.le_of_ble_eq_true (by kernel_rfl)) table_Sent_ok (table_Sent_eq t0 t1 t2 t3 t4 w K) h)

/-- paceline/config.Routes -/
def config_Routes (t0 t1 t2 : Value) (w : World) (K : KV) : Prop :=
  al (Value.cells t0) 31 w fun t3 w =>
  al (Value.cells t2) 3 w fun t5 w =>
  fld 1 t3 w fun t10 w =>
  ld1 t10 w fun t11 w =>
  lnS t11 w fun t12 w =>
  lp [(Value.slice none 0 0), (Value.int IntKind.i64 0)] w (b2 fun t7 t13 w g1 =>
  bi .lss .i64 t13 t12 w fun t14 w =>
  iff' t14
  (J1 (fun t7_1 w =>
  bi .add .i64 t13 (Value.int IntKind.i64 1) w fun t31 w =>
  g1 [t7_1, t31] w) fun k2 =>
  ixS 7 t11 t13 w fun t16 w =>
  ldN 7 t16 w fun t17 w =>
  al (zeroD prog 69) 69 w fun t9 w =>
  stN 7 t9 t17 w fun _ w =>
  bi .neq .i64 t13 t1 w fun t20 w =>
  gd t20 true (fun k => fld 5 t9 w k) w fun t22 w =>
  gd t20 true (fun k => ld1 t22 w k) w fun t23 w =>
  gd t20 true (fun k => k (Value.func (Fn.func 70) #[] #[t3, t5]) w) w fun t24 w =>
  gd t20 true (fun k => Cl prog 69 #[t23, t24] w k) w fun t25 w =>
  pk t20 t25 (Value.bool false) w fun t26 w =>
  iff' t26
  (bsl 3 1 1 (zeroD prog 3) [(0, t13)] w fun t29 w =>
  apS prog #[28, 28] 28 t7 t29 w fun t30 w =>
  k2 t30 w)
  (k2 t7 w))
  (K t7 w))
theorem config_Routes_eq (t0 t1 t2 : Value) (w : World) (K : KV) : config_Routes t0 t1 t2 w K = fnW prog 33 [6] (match fn48.body with | some c => c | none => .skip) #[t0, t1, t2] w K := by kernel_rfl
theorem config_Routes_ok : fnOk prog 33 [6] (match fn48.body with | some c => c | none => .skip) = true := by kernel_rfl
theorem config_Routes_calls {t0 t1 t2 : Value} {w : World} {K : KV} (h : config_Routes t0 t1 t2 w K) : Cl prog 48 #[t0, t1, t2] w K :=
  Cl.mk (by kernel_rfl) (calls_of_F (fn := fn48) (nt := 33) (rs := [6]) mixed fnAt48 (by kernel_rfl) (by kernel_rfl) (by kernel_rfl) (Nat.le_of_ble_eq_true (by kernel_rfl)) config_Routes_ok (config_Routes_eq t0 t1 t2 w K) h)

/-- (*paceline/prio.Queue).First -/
def prio_Queue_First (t0 : Value) (w : World) (K : KV) : Prop :=
  al (zeroD prog 36) 36 w fun t2 w =>
  ncP t0 <|
  fld 1 t0 w fun t6 w =>
  ld1 t6 w fun t7 w =>
  lnS t7 w fun t8 w =>
  bi .eql .i64 t8 (Value.int IntKind.i64 0) w fun t9 w =>
  iff' t9
  (bld (zeroD prog 36) #[(0, 3), (3, 1), (4, 1), (5, 1)] [] w fun t10 w =>
  stN 6 t2 t10 w fun _ w =>
  ldN 6 t2 w fun r0 _ =>
  K (Value.tuple #[r0, (Value.bool false)]) w)
  (ncP t0 <|
  fld 1 t0 w fun t13 w =>
  ld1 t13 w fun t14 w =>
  ixS 6 t14 (Value.int IntKind.i64 0) w fun t15 w =>
  ldN 6 t15 w fun t16 w =>
  stN 6 t2 t16 w fun _ w =>
  ldN 6 t2 w fun r0 _ =>
  K (Value.tuple #[r0, (Value.bool true)]) w)
theorem prio_Queue_First_eq (t0 : Value) (w : World) (K : KV) : prio_Queue_First t0 w K = fnWC prog 17 [(2, some 36), (3, none)] (match fn49.body with | some c => c | none => .skip) #[t0] w K := by kernel_rfl
theorem prio_Queue_First_ok : fnOkC prog 17 [(2, some 36), (3, none)] (match fn49.body with | some c => c | none => .skip) = true := by kernel_rfl
theorem prio_Queue_First_calls {t0 : Value} {w : World} {K : KV} (h : prio_Queue_First t0 w K) : Cl prog 49 #[t0] w K :=
  Cl.mk (by kernel_rfl) (calls_of_FC (fn := fn49) (nt := 17) (rs := [(2, some 36), (3, none)]) mixed fnAt49 (by kernel_rfl) (by kernel_rfl) (by kernel_rfl) (Nat.le_of_ble_eq_true (by kernel_rfl)) prio_Queue_First_ok (prio_Queue_First_eq t0 w K) h)

/-- paceline/vtime.Add -/
def vtime_Add (t0 t1 : Value) (w : World) (K : KV) : Prop :=
  Cl prog 72 #[t0] w fun t6 w =>
  Cl prog 72 #[t1] w fun t8 w =>
  bi .add .i64 t6 t8 w fun t9 w =>
  Cl prog 72 #[t9] w fun t10 w =>
  K t10 w
theorem vtime_Add_eq (t0 t1 : Value) (w : World) (K : KV) : vtime_Add t0 t1 w K = fnW prog 11 [4] (match fn50.body with | some c => c | none => .skip) #[t0, t1] w K := by kernel_rfl
theorem vtime_Add_ok : fnOk prog 11 [4] (match fn50.body with | some c => c | none => .skip) = true := by kernel_rfl
theorem vtime_Add_calls {t0 t1 : Value} {w : World} {K : KV} (h : vtime_Add t0 t1 w K) : Cl prog 50 #[t0, t1] w K :=
  Cl.mk (by kernel_rfl) (calls_of_F (fn := fn50) (nt := 11) (rs := [4]) mixed fnAt50 (by kernel_rfl) (by kernel_rfl) (by kernel_rfl) (Nat.le_of_ble_eq_true (by kernel_rfl)) vtime_Add_ok (vtime_Add_eq t0 t1 w K) h)

end Go.Proofs.Ytenglfaeohgkfaa
