/- Printed by prt.py: the Go functions of this seat as shallow predicate transformers. Conditions: none. -/
import Derived.Test.YtenglfaeohgkfaaGreatEngO
import Derived.Test.YtenglfaeohgkfaaGreatEngZ
import Derived.Test.YtenglfaeohgkfaaGreatPfHead
import Derived.KernelRfl
namespace Go.Proofs.YtenglfaeohgkfaaGreat
open Go Go.E
set_option linter.unusedVariables false
set_option maxRecDepth 100000
/-- paceline/config.Spread -/
def config_Spread (t0 t1 t2 t3 t4 t5 : Value) (w : World) (K : KV) : Prop :=
  al (Value.cells t0) 39 w fun t6 w =>
  lnS t5 w fun t20 w =>
  lp [(Value.slice none 0 0), (Value.int IntKind.i64 0)] w (b2 fun t13 t21 w g1 =>
  bi .lss .i64 t21 t20 w fun t22 w =>
  iff' t22
  (ixS 3 t5 t21 w fun t24 w =>
  ldN 3 t24 w fun t25 w =>
  al (zeroD prog 78) 78 w fun t15 w =>
  stN 3 t15 t25 w fun _ w =>
  bi .add .i64 t2 t21 w fun t29 w =>
  ldN 3 t15 w fun t32 w =>
  Cl prog 75 #[t1, t29, t3, t4, t32] w fun t33 w =>
  al (zeroD prog 26) 26 w fun t16 w =>
  stN 6 t16 t33 w fun _ w =>
  ldN 3 t6 w fun t34 w =>
  fld 4 t16 w fun t36 w =>
  ld1 t36 w fun t37 w =>
  Cl prog 76 #[t34, t1, t37] w fun t38 w =>
  lnS t38 w fun t39 w =>
  lp [t13, (Value.int IntKind.i64 0)] w (b2 fun t13_1 t40 w g2 =>
  bi .lss .i64 t40 t39 w fun t41 w =>
  iff' t41
  (ixS 1 t38 t40 w fun t42 w =>
  ld1 t42 w fun t43 w =>
  fld 3 t16 w fun t45 w =>
  stN 1 t45 t43 w fun _ w =>
  ldN 6 t16 w fun t47 w =>
  bsl 26 6 1 (zeroD prog 26) [(0, t47)] w fun t48 w =>
  apS prog #[47, 47] 47 t13_1 t48 w fun t49 w =>
  bi .add .i64 t40 (Value.int IntKind.i64 1) w fun t50 w =>
  g2 [t49, t50] w)
  (bi .add .i64 t21 (Value.int IntKind.i64 1) w fun t51 w =>
  g1 [t13_1, t51] w)))
  (K t13 w))
theorem config_Spread_eq (t0 t1 t2 t3 t4 t5 : Value) (w : World) (K : KV) : config_Spread t0 t1 t2 t3 t4 t5 w K = fnW prog 53 [12] (match fn43.body with | some c => c | none => .skip) #[t0, t1, t2, t3, t4, t5] w K := by kernel_rfl
theorem config_Spread_ok : fnOk prog 53 [12] (match fn43.body with | some c => c | none => .skip) = true := by kernel_rfl
theorem config_Spread_calls {t0 t1 t2 t3 t4 t5 : Value} {w : World} {K : KV} (h : config_Spread t0 t1 t2 t3 t4 t5 w K) : Cl prog 43 #[t0, t1, t2, t3, t4, t5] w K :=
  Cl.mk (by kernel_rfl) (calls_of_F (fn := fn43) (nt := 53) (rs := [12]) mixed fnAt43 (by kernel_rfl) (by kernel_rfl) (by kernel_rfl) (Nat.le_of_ble_eq_true (by kernel_rfl)) config_Spread_ok (config_Spread_eq t0 t1 t2 t3 t4 t5 w K) h)

/-- (*paceline/pacelineref03.Queue).Pop -/
def pacelineref03_Queue_Pop (t0 : Value) (w : World) (K : KV) : Prop :=
  al (zeroD prog 26) 26 w fun t2 w =>
  Cl prog 52 #[t0] w fun t8 w =>
  xt 0 t8 w fun t9 w =>
  xt 1 t8 w fun t10 w =>
  al (zeroD prog 26) 26 w fun t4 w =>
  stN 6 t4 t9 w fun _ w =>
  J0 (fun w =>
  ldN 6 t4 w fun t22 w =>
  stN 6 t2 t22 w fun _ w =>
  ldN 6 t2 w fun r0 _ =>
  K (Value.tuple #[r0, t10]) w) fun k1 =>
  iff' t10
  (dr w fun w =>
  ncP t0 <|
  fld 1 t0 w fun t15 _ =>
  ld1 t15 w fun t16 _ =>
  fld 0 t4 w fun t17 _ =>
  ldN 3 t17 w fun t18 _ =>
  Cl prog 77 #[t16, t18] w fun t19 w =>
  ncP t0 <|
  fld 1 t0 w fun t21 _ =>
  stN 1 t21 t19 w fun _ w =>
  k1 w)
  (k1 w)
theorem pacelineref03_Queue_Pop_eq (t0 : Value) (w : World) (K : KV) : pacelineref03_Queue_Pop t0 w K = fnWC prog 24 [(2, some 26), (3, none)] (match fn44.body with | some c => c | none => .skip) #[t0] w K := by kernel_rfl
theorem pacelineref03_Queue_Pop_ok : fnOkC prog 24 [(2, some 26), (3, none)] (match fn44.body with | some c => c | none => .skip) = true := by kernel_rfl
theorem pacelineref03_Queue_Pop_calls {t0 : Value} {w : World} {K : KV} (h : pacelineref03_Queue_Pop t0 w K) : Cl prog 44 #[t0] w K :=
  Cl.mk (by kernel_rfl) (calls_of_FC (fn := fn44) (nt := 24) (rs := [(2, some 26), (3, none)]) mixed fnAt44 (by kernel_rfl) (by kernel_rfl) (by kernel_rfl) (Nat.le_of_ble_eq_true (by kernel_rfl)) pacelineref03_Queue_Pop_ok (pacelineref03_Queue_Pop_eq t0 w K) h)

/-- paceline/pacelineref07.Step -/
def pacelineref07_Step (t0 t1 t2 : Value) (w : World) (K : KV) : Prop :=
  Cl prog 78 #[t0, t1, t2] w fun t13 w =>
  bi .lss .i64 t13 (Value.int IntKind.i64 0) w fun t15 w =>
  iff' t15
  (K (Value.tuple #[t1, (Value.slice none 0 0)]) w)
  (bsl 78 3 0 #[] [] w fun t17 w =>
  dr w fun w =>
  ixS 4 t0 t13 w fun t20 _ =>
  fld 2 t20 w fun t21 _ =>
  ld1 t21 w fun t22 _ =>
  ixS 4 t0 t13 w fun t26 _ =>
  fld 3 t26 w fun t27 _ =>
  ld1 t27 w fun t28 _ =>
  apS prog #[70, 70] 70 t17 t28 w fun t29 w =>
  (ld1 t21 w (fun v' w'' => v' = t22 ∧ w'' = w)) ∧ (K (Value.tuple #[t22, t29]) w))
theorem pacelineref07_Step_eq (t0 t1 t2 : Value) (w : World) (K : KV) : pacelineref07_Step t0 t1 t2 w K = fnW prog 30 [6, 7] (match fn45.body with | some c => c | none => .skip) #[t0, t1, t2] w K := by kernel_rfl
theorem pacelineref07_Step_ok : fnOk prog 30 [6, 7] (match fn45.body with | some c => c | none => .skip) = true := by kernel_rfl
theorem pacelineref07_Step_calls {t0 t1 t2 : Value} {w : World} {K : KV} (h : pacelineref07_Step t0 t1 t2 w K) : Cl prog 45 #[t0, t1, t2] w K :=
  Cl.mk (by kernel_rfl) (calls_of_F (fn := fn45) (nt := 30) (rs := [6, 7]) mixed fnAt45 (by kernel_rfl) (by kernel_rfl) (by kernel_rfl) (Nat.le_of_ble_eq_true (by kernel_rfl)) pacelineref07_Step_ok (pacelineref07_Step_eq t0 t1 t2 w K) h)

/-- paceline/pacelineref08.Spread -/
def pacelineref08_Spread (t0 t1 t2 t3 t4 t5 : Value) (w : World) (K : KV) : Prop :=
  al (Value.cells t0) 39 w fun t6 w =>
  bsl 26 6 0 #[] [] w fun t18 w =>
  lp [t18, (Value.int IntKind.i64 0)] w (b2 fun t13 t14 w g1 =>
  lnS t5 w fun t21 w =>
  bi .lss .i64 t14 t21 w fun t22 w =>
  iff' t22
  (bi .add .i64 t2 t14 w fun t28 w =>
  ixS 3 t5 t14 w fun t33 w =>
  ldN 3 t33 w fun t34 w =>
  Cl prog 79 #[t1, t28, t3, t4, t34] w fun t35 w =>
  al (zeroD prog 26) 26 w fun t15 w =>
  stN 6 t15 t35 w fun _ w =>
  ldN 3 t6 w fun t36 w =>
  fld 4 t15 w fun t38 w =>
  ld1 t38 w fun t39 w =>
  Cl prog 80 #[t36, t1, t39] w fun t40 w =>
  lp [t13, (Value.int IntKind.i64 0)] w (b2 fun t13_1 t17 w g2 =>
  lnS t40 w fun t43 w =>
  bi .lss .i64 t17 t43 w fun t44 w =>
  iff' t44
  (ixS 1 t40 t17 w fun t49 w =>
  ld1 t49 w fun t50 w =>
  fld 3 t15 w fun t51 w =>
  stN 1 t51 t50 w fun _ w =>
  ldN 6 t15 w fun t53 w =>
  bsl 26 6 1 (zeroD prog 26) [(0, t53)] w fun t54 w =>
  apS prog #[47, 47] 47 t13_1 t54 w fun t55 w =>
  bi .add .i64 t17 (Value.int IntKind.i64 1) w fun t46 w =>
  g2 [t55, t46] w)
  (bi .add .i64 t14 (Value.int IntKind.i64 1) w fun t24 w =>
  g1 [t13_1, t24] w)))
  (K t13 w))
theorem pacelineref08_Spread_eq (t0 t1 t2 t3 t4 t5 : Value) (w : World) (K : KV) : pacelineref08_Spread t0 t1 t2 t3 t4 t5 w K = fnW prog 57 [12] (match fn46.body with | some c => c | none => .skip) #[t0, t1, t2, t3, t4, t5] w K := by kernel_rfl
theorem pacelineref08_Spread_ok : fnOk prog 57 [12] (match fn46.body with | some c => c | none => .skip) = true := by kernel_rfl
theorem pacelineref08_Spread_calls {t0 t1 t2 t3 t4 t5 : Value} {w : World} {K : KV} (h : pacelineref08_Spread t0 t1 t2 t3 t4 t5 w K) : Cl prog 46 #[t0, t1, t2, t3, t4, t5] w K :=
  Cl.mk (by kernel_rfl) (calls_of_F (fn := fn46) (nt := 57) (rs := [12]) mixed fnAt46 (by kernel_rfl) (by kernel_rfl) (by kernel_rfl) (Nat.le_of_ble_eq_true (by kernel_rfl)) pacelineref08_Spread_ok (pacelineref08_Spread_eq t0 t1 t2 t3 t4 t5 w K) h)

/-- (*paceline/prio.Queue).List -/
def prio_Queue_List (t0 : Value) (w : World) (K : KV) : Prop :=
  ncP t0 <|
  fld 1 t0 w fun t6 w =>
  ld1 t6 w fun t7 w =>
  Cl prog 81 #[t7] w fun t8 w =>
  Cl prog 82 #[t8, (Value.func (.func 83) #[] #[])] w fun _ w =>
  K t8 w
theorem prio_Queue_List_eq (t0 : Value) (w : World) (K : KV) : prio_Queue_List t0 w K = fnW prog 12 [2] (match fn47.body with | some c => c | none => .skip) #[t0] w K := by kernel_rfl
theorem prio_Queue_List_ok : fnOk prog 12 [2] (match fn47.body with | some c => c | none => .skip) = true := by kernel_rfl
theorem prio_Queue_List_calls {t0 : Value} {w : World} {K : KV} (h : prio_Queue_List t0 w K) : Cl prog 47 #[t0] w K :=
  Cl.mk (by kernel_rfl) (calls_of_F (fn := fn47) (nt := 12) (rs := [2]) mixed fnAt47 (by kernel_rfl) (by kernel_rfl) (by kernel_rfl) (Nat.le_of_ble_eq_true (by kernel_rfl)) prio_Queue_List_ok (prio_Queue_List_eq t0 w K) h)

/-- (*paceline/clock.Clocks).Bound$1 -/
def clock_Clocks_Bound_1 (t0 t1 : Value) (w : World) (K : KV) : Prop :=
  ld1 t1 w fun t3 w =>
  mnI .i64 t3 t0 w fun t5 w =>
  stN 1 t1 t5 w fun _ w =>
  K (Value.tuple #[]) w
theorem clock_Clocks_Bound_1_eq (t0 t1 : Value) (w : World) (K : KV) : clock_Clocks_Bound_1 t0 t1 w K = fnW prog 6 [] (match fn48.body with | some c => c | none => .skip) #[t0, t1] w K := by kernel_rfl
theorem clock_Clocks_Bound_1_ok : fnOk prog 6 [] (match fn48.body with | some c => c | none => .skip) = true := by kernel_rfl
theorem clock_Clocks_Bound_1_calls {t0 t1 : Value} {w : World} {K : KV} (h : clock_Clocks_Bound_1 t0 t1 w K) : Cl prog 48 #[t0, t1] w K :=
  Cl.mk (by kernel_rfl) (calls_of_F (fn := fn48) (nt := 6) (rs := []) mixed fnAt48 (by kernel_rfl) (by kernel_rfl) (by kernel_rfl) (Nat.le_of_ble_eq_true (by kernel_rfl)) clock_Clocks_Bound_1_ok (clock_Clocks_Bound_1_eq t0 t1 w K) h)

/-- slices.Clone[[]paceline/api.Done,paceline/api.Done] -/
def slices_Clone_api_Done_api_Done (t0 : Value) (w : World) (K : KV) : Prop :=
  bO prog .eql 55 (Operand.tmp 3) (Operand.const (Value.slice none 0 0)) t0 (Value.slice none 0 0) w fun t4 w =>
  iff' t4
  (K (Value.slice none 0 0) w)
  (bsl 46 7 0 #[] [] w fun t5 w =>
  apS prog #[55, 55] 55 t5 t0 w fun t7 w =>
  K t7 w)
theorem slices_Clone_api_Done_api_Done_eq (t0 : Value) (w : World) (K : KV) : slices_Clone_api_Done_api_Done t0 w K = fnW prog 8 [2] (match fn49.body with | some c => c | none => .skip) #[t0] w K := by kernel_rfl
theorem slices_Clone_api_Done_api_Done_ok : fnOk prog 8 [2] (match fn49.body with | some c => c | none => .skip) = true := by kernel_rfl
theorem slices_Clone_api_Done_api_Done_calls {t0 : Value} {w : World} {K : KV} (h : slices_Clone_api_Done_api_Done t0 w K) : Cl prog 49 #[t0] w K :=
  Cl.mk (by kernel_rfl) (calls_of_F (fn := fn49) (nt := 8) (rs := [2]) mixed fnAt49 (by kernel_rfl) (by kernel_rfl) (by kernel_rfl) (Nat.le_of_ble_eq_true (by kernel_rfl)) slices_Clone_api_Done_api_Done_ok (slices_Clone_api_Done_api_Done_eq t0 w K) h)

/-- (paceline/cmb.queue).first -/
def cmb_queue_first (t0 : Value) (w : World) (K : KV) : Prop :=
  al (Value.cells t0) 54 w fun t1 w =>
  al (zeroD prog 26) 26 w fun t2 w =>
  fld 0 t1 w fun t4 w =>
  ld1 t4 w fun t5 w =>
  Cl prog 85 #[t5] w fun t6 w =>
  xt 0 t6 w fun t7 w =>
  xt 1 t6 w fun t8 w =>
  stN 6 t2 t7 w fun _ w =>
  ldN 6 t2 w fun r0 _ =>
  K (Value.tuple #[r0, t8]) w
theorem cmb_queue_first_eq (t0 : Value) (w : World) (K : KV) : cmb_queue_first t0 w K = fnWC prog 9 [(2, some 26), (3, none)] (match fn50.body with | some c => c | none => .skip) #[t0] w K := by kernel_rfl
theorem cmb_queue_first_ok : fnOkC prog 9 [(2, some 26), (3, none)] (match fn50.body with | some c => c | none => .skip) = true := by kernel_rfl
theorem cmb_queue_first_calls {t0 : Value} {w : World} {K : KV} (h : cmb_queue_first t0 w K) : Cl prog 50 #[t0] w K :=
  Cl.mk (by kernel_rfl) (calls_of_FC (fn := fn50) (nt := 9) (rs := [(2, some 26), (3, none)]) mixed fnAt50 (by kernel_rfl) (by kernel_rfl) (by kernel_rfl) (Nat.le_of_ble_eq_true (by kernel_rfl)) cmb_queue_first_ok (cmb_queue_first_eq t0 w K) h)

/-- (*paceline/clock.Clocks).Tell -/
def clock_Clocks_Tell (t0 t1 t2 : Value) (w : World) (K : KV) : Prop :=
  Cl prog 14 #[t0] w fun t11 w =>
  bsl 3 1 2 (zeroD prog 3) [(0, t1), (1, t11)] w fun t12 w =>
  Cl prog 87 #[t12] w fun t13 w =>
  Cl prog 86 #[t13, t2] w fun t15 w =>
  ncP t0 <|
  fld 1 t0 w fun t19 w =>
  ld1 t19 w fun t20 w =>
  bi .leq .i64 t15 t20 w fun t21 w =>
  iff' t21
  (ncP t0 <|
  fld 1 t0 w fun t24 w =>
  ld1 t24 w fun t25 w =>
  K (Value.tuple #[t25, (Value.bool false)]) w)
  (ncP t0 <|
  fld 1 t0 w fun t29 w =>
  stN 1 t29 t15 w fun _ w =>
  K (Value.tuple #[t15, (Value.bool true)]) w)
theorem clock_Clocks_Tell_eq (t0 t1 t2 : Value) (w : World) (K : KV) : clock_Clocks_Tell t0 t1 t2 w K = fnW prog 31 [6, 7] (match fn51.body with | some c => c | none => .skip) #[t0, t1, t2] w K := by kernel_rfl
theorem clock_Clocks_Tell_ok : fnOk prog 31 [6, 7] (match fn51.body with | some c => c | none => .skip) = true := by kernel_rfl
theorem clock_Clocks_Tell_calls {t0 t1 t2 : Value} {w : World} {K : KV} (h : clock_Clocks_Tell t0 t1 t2 w K) : Cl prog 51 #[t0, t1, t2] w K :=
  Cl.mk (by kernel_rfl) (calls_of_F (fn := fn51) (nt := 31) (rs := [6, 7]) mixed fnAt51 (by kernel_rfl) (by kernel_rfl) (by kernel_rfl) (Nat.le_of_ble_eq_true (by kernel_rfl)) clock_Clocks_Tell_ok (clock_Clocks_Tell_eq t0 t1 t2 w K) h)

/-- (*paceline/pacelineref03.Queue).First -/
def pacelineref03_Queue_First (t0 : Value) (w : World) (K : KV) : Prop :=
  al (zeroD prog 26) 26 w fun t2 w =>
  ncP t0 <|
  fld 1 t0 w fun t6 w =>
  ld1 t6 w fun t7 w =>
  lnS t7 w fun t8 w =>
  bi .eql .i64 t8 (Value.int IntKind.i64 0) w fun t9 w =>
  iff' t9
  (bld (zeroD prog 26) #[(0, 3), (3, 1), (4, 1), (5, 1)] [] w fun t10 w =>
  stN 6 t2 t10 w fun _ w =>
  ldN 6 t2 w fun r0 _ =>
  K (Value.tuple #[r0, (Value.bool false)]) w)
  (ncP t0 <|
  fld 1 t0 w fun t13 w =>
  ld1 t13 w fun t14 w =>
  ixS 6 t14 (Value.int IntKind.i64 0) w fun t15 w =>
  ldN 6 t15 w fun t16 w =>
  stN 6 t2 t16 w fun _ w =>
  ldN 6 t2 w fun r0 _ =>
  K (Value.tuple #[r0, (Value.bool true)]) w)
theorem pacelineref03_Queue_First_eq (t0 : Value) (w : World) (K : KV) : pacelineref03_Queue_First t0 w K = fnWC prog 17 [(2, some 26), (3, none)] (match fn52.body with | some c => c | none => .skip) #[t0] w K := by kernel_rfl
theorem pacelineref03_Queue_First_ok : fnOkC prog 17 [(2, some 26), (3, none)] (match fn52.body with | some c => c | none => .skip) = true := by kernel_rfl
theorem pacelineref03_Queue_First_calls {t0 : Value} {w : World} {K : KV} (h : pacelineref03_Queue_First t0 w K) : Cl prog 52 #[t0] w K :=
  Cl.mk (by kernel_rfl) (calls_of_FC (fn := fn52) (nt := 17) (rs := [(2, some 26), (3, none)]) mixed fnAt52 (by kernel_rfl) (by kernel_rfl) (by kernel_rfl) (Nat.le_of_ble_eq_true (by kernel_rfl)) pacelineref03_Queue_First_ok (pacelineref03_Queue_First_eq t0 w K) h)

/-- (*paceline/pacelineref11.Clocks).Tell -/
def pacelineref11_Clocks_Tell (t0 t1 t2 : Value) (w : World) (K : KV) : Prop :=
  Cl prog 54 #[t0] w fun t12 w =>
  bsl 3 1 2 (zeroD prog 3) [(0, t1), (1, t12)] w fun t13 w =>
  Cl prog 89 #[t13] w fun t15 w =>
  Cl prog 88 #[t15, t2] w fun t17 w =>
  ncP t0 <|
  fld 2 t0 w fun t21 w =>
  ld1 t21 w fun t22 w =>
  bi .leq .i64 t17 t22 w fun t23 w =>
  iff' t23
  (ncP t0 <|
  fld 2 t0 w fun t26 w =>
  ld1 t26 w fun t27 w =>
  K (Value.tuple #[t27, (Value.bool false)]) w)
  (ncP t0 <|
  fld 2 t0 w fun t31 w =>
  stN 1 t31 t17 w fun _ w =>
  K (Value.tuple #[t17, (Value.bool true)]) w)
theorem pacelineref11_Clocks_Tell_eq (t0 t1 t2 : Value) (w : World) (K : KV) : pacelineref11_Clocks_Tell t0 t1 t2 w K = fnW prog 33 [6, 7] (match fn53.body with | some c => c | none => .skip) #[t0, t1, t2] w K := by kernel_rfl
theorem pacelineref11_Clocks_Tell_ok : fnOk prog 33 [6, 7] (match fn53.body with | some c => c | none => .skip) = true := by kernel_rfl
theorem pacelineref11_Clocks_Tell_calls {t0 t1 t2 : Value} {w : World} {K : KV} (h : pacelineref11_Clocks_Tell t0 t1 t2 w K) : Cl prog 53 #[t0, t1, t2] w K :=
  Cl.mk (by kernel_rfl) (calls_of_F (fn := fn53) (nt := 33) (rs := [6, 7]) mixed fnAt53 (by kernel_rfl) (by kernel_rfl) (by kernel_rfl) (Nat.le_of_ble_eq_true (by kernel_rfl)) pacelineref11_Clocks_Tell_ok (pacelineref11_Clocks_Tell_eq t0 t1 t2 w K) h)

/-- (*paceline/pacelineref11.Clocks).Bound -/
def pacelineref11_Clocks_Bound (t0 : Value) (w : World) (K : KV) : Prop :=
  lp [(Value.int IntKind.i64 1125899906842624), (Value.int IntKind.i64 0)] w (b2 fun t3 t4 w g1 =>
  ncP t0 <|
  fld 0 t0 w fun t8 w =>
  ld1 t8 w fun t9 w =>
  lnS t9 w fun t10 w =>
  bi .lss .i64 t4 t10 w fun t11 w =>
  iff' t11
  (J1 (fun t3_1 w =>
  bi .add .i64 t4 (Value.int IntKind.i64 1) w fun t13 w =>
  g1 [t3_1, t13] w) fun k2 =>
  ncP t0 <|
  fld 1 t0 w fun t17 w =>
  ld1 t17 w fun t18 w =>
  bi .neq .i64 t4 t18 w fun t19 w =>
  iff' t19
  (ncP t0 <|
  fld 0 t0 w fun t23 w =>
  ld1 t23 w fun t24 w =>
  ixS 1 t24 t4 w fun t26 w =>
  ld1 t26 w fun t27 w =>
  mnI .i64 t3 t27 w fun t28 w =>
  k2 t28 w)
  (k2 t3 w))
  (K t3 w))
theorem pacelineref11_Clocks_Bound_eq (t0 : Value) (w : World) (K : KV) : pacelineref11_Clocks_Bound t0 w K = fnW prog 30 [2] (match fn54.body with | some c => c | none => .skip) #[t0] w K := by kernel_rfl
theorem pacelineref11_Clocks_Bound_ok : fnOk prog 30 [2] (match fn54.body with | some c => c | none => .skip) = true := by kernel_rfl
theorem pacelineref11_Clocks_Bound_calls {t0 : Value} {w : World} {K : KV} (h : pacelineref11_Clocks_Bound t0 w K) : Cl prog 54 #[t0] w K :=
  Cl.mk (by kernel_rfl) (calls_of_F (fn := fn54) (nt := 30) (rs := [2]) mixed fnAt54 (by kernel_rfl) (by kernel_rfl) (by kernel_rfl) (Nat.le_of_ble_eq_true (by kernel_rfl)) pacelineref11_Clocks_Bound_ok (pacelineref11_Clocks_Bound_eq t0 w K) h)

/-- (*paceline/pacelineref03.Queue).List -/
def pacelineref03_Queue_List (t0 : Value) (w : World) (K : KV) : Prop :=
  bsl 26 6 0 #[] [] w fun t4 w =>
  ncP t0 <|
  fld 1 t0 w fun t8 w =>
  ld1 t8 w fun t9 w =>
  apS prog #[47, 47] 47 t4 t9 w fun t10 w =>
  K t10 w
theorem pacelineref03_Queue_List_eq (t0 : Value) (w : World) (K : KV) : pacelineref03_Queue_List t0 w K = fnW prog 11 [2] (match fn55.body with | some c => c | none => .skip) #[t0] w K := by kernel_rfl
theorem pacelineref03_Queue_List_ok : fnOk prog 11 [2] (match fn55.body with | some c => c | none => .skip) = true := by kernel_rfl
theorem pacelineref03_Queue_List_calls {t0 : Value} {w : World} {K : KV} (h : pacelineref03_Queue_List t0 w K) : Cl prog 55 #[t0] w K :=
  Cl.mk (by kernel_rfl) (calls_of_F (fn := fn55) (nt := 11) (rs := [2]) mixed fnAt55 (by kernel_rfl) (by kernel_rfl) (by kernel_rfl) (Nat.le_of_ble_eq_true (by kernel_rfl)) pacelineref03_Queue_List_ok (pacelineref03_Queue_List_eq t0 w K) h)

/-- paceline/config.first -/
def config_first (t0 : Value) (w : World) (K : KV) : Prop :=
  lnS t0 w fun t7 w =>
  lp [(Value.int IntKind.i64 0)] w (b1 fun t8 w g1 =>
  bi .lss .i64 t8 t7 w fun t9 w =>
  iff' t9
  (ixS 1 t0 t8 w fun t10 w =>
  ld1 t10 w fun t11 w =>
  clV prog t11 #[] w fun t13 w =>
  bi .neq .i64 t13 (Value.int IntKind.i64 0) w fun t15 w =>
  iff' t15
  (K t13 w)
  (bi .add .i64 t8 (Value.int IntKind.i64 1) w fun t17 w =>
  g1 [t17] w))
  (K (Value.int IntKind.i64 0) w))
theorem config_first_eq (t0 : Value) (w : World) (K : KV) : config_first t0 w K = fnW prog 18 [2] (match fn56.body with | some c => c | none => .skip) #[t0] w K := by kernel_rfl
theorem config_first_ok : fnOk prog 18 [2] (match fn56.body with | some c => c | none => .skip) = true := by kernel_rfl
theorem config_first_calls {t0 : Value} {w : World} {K : KV} (h : config_first t0 w K) : Cl prog 56 #[t0] w K :=
  Cl.mk (by kernel_rfl) (calls_of_F (fn := fn56) (nt := 18) (rs := [2]) mixed fnAt56 (by kernel_rfl) (by kernel_rfl) (by kernel_rfl) (Nat.le_of_ble_eq_true (by kernel_rfl)) config_first_ok (config_first_eq t0 w K) h)

/-- paceline/config.Check$1 -/
def config_Check_1 (t0 : Value) (w : World) (K : KV) : Prop :=
  fld 0 t0 w fun t2 w =>
  ld1 t2 w fun t3 w =>
  Cl prog 58 #[t3] w fun t4 w =>
  K t4 w
theorem config_Check_1_eq (t0 : Value) (w : World) (K : KV) : config_Check_1 t0 w K = fnW prog 5 [1] (match fn57.body with | some c => c | none => .skip) #[t0] w K := by kernel_rfl
theorem config_Check_1_ok : fnOk prog 5 [1] (match fn57.body with | some c => c | none => .skip) = true := by kernel_rfl
theorem config_Check_1_calls {t0 : Value} {w : World} {K : KV} (h : config_Check_1 t0 w K) : Cl prog 57 #[t0] w K :=
  Cl.mk (by kernel_rfl) (calls_of_F (fn := fn57) (nt := 5) (rs := [1]) mixed fnAt57 (by kernel_rfl) (by kernel_rfl) (by kernel_rfl) (Nat.le_of_ble_eq_true (by kernel_rfl)) config_Check_1_ok (config_Check_1_eq t0 w K) h)

/-- paceline/tree.Check -/
def tree_Check (t0 : Value) (w : World) (K : KV) : Prop :=
  lnS t0 w fun t7 w =>
  bi .lss .i64 t7 (Value.int IntKind.i64 1) w fun t9 w =>
  gd t9 false (fun k => k t7 w) w fun t11 w =>
  gd t9 false (fun k => bi .gtr .i64 t11 (Value.int IntKind.i64 16) w k) w fun t12 w =>
  pk t9 (Value.bool true) t12 w fun t13 w =>
  iff' t13
  (K (Value.int IntKind.i64 50) w)
  (lnS t0 w fun t15 w =>
  lp [(Value.int IntKind.i64 0)] w (b1 fun t16 w g1 =>
  bi .lss .i64 t16 t15 w fun t17 w =>
  iff' t17
  (ixS 1 t0 t16 w fun t19 w =>
  ld1 t19 w fun t20 w =>
  bi .lss .i64 t20 (Value.int IntKind.i64 (-1)) w fun t22 w =>
  gd t22 false (fun k => k t20 w) w fun t24 w =>
  gd t22 false (fun k => k t16 w) w fun t25 w =>
  gd t22 false (fun k => bi .geq .i64 t24 t25 w k) w fun t26 w =>
  pk t22 (Value.bool true) t26 w fun t27 w =>
  iff' t27
  (K (Value.int IntKind.i64 50) w)
  (bi .add .i64 t16 (Value.int IntKind.i64 1) w fun t28 w =>
  g1 [t28] w))
  (K (Value.int IntKind.i64 0) w)))
theorem tree_Check_eq (t0 : Value) (w : World) (K : KV) : tree_Check t0 w K = fnW prog 29 [2] (match fn58.body with | some c => c | none => .skip) #[t0] w K := by kernel_rfl
theorem tree_Check_ok : fnOk prog 29 [2] (match fn58.body with | some c => c | none => .skip) = true := by kernel_rfl
theorem tree_Check_calls {t0 : Value} {w : World} {K : KV} (h : tree_Check t0 w K) : Cl prog 58 #[t0] w K :=
  Cl.mk (by kernel_rfl) (calls_of_F (fn := fn58) (nt := 29) (rs := [2]) mixed fnAt58 (by kernel_rfl) (by kernel_rfl) (by kernel_rfl) (Nat.le_of_ble_eq_true (by kernel_rfl)) tree_Check_ok (tree_Check_eq t0 w K) h)

/-- paceline/config.unless -/
def config_unless (t0 t1 : Value) (w : World) (K : KV) : Prop :=
  al (Value.cells t0) 4 w fun t2 w =>
  al (Value.cells t1) 33 w fun t3 w =>
  K (Value.func (Fn.func 90) #[] #[t2, t3]) w
theorem config_unless_eq (t0 t1 : Value) (w : World) (K : KV) : config_unless t0 t1 w K = fnW prog 6 [4] (match fn59.body with | some c => c | none => .skip) #[t0, t1] w K := by kernel_rfl
theorem config_unless_ok : fnOk prog 6 [4] (match fn59.body with | some c => c | none => .skip) = true := by kernel_rfl
theorem config_unless_calls {t0 t1 : Value} {w : World} {K : KV} (h : config_unless t0 t1 w K) : Cl prog 59 #[t0, t1] w K :=
  Cl.mk (by kernel_rfl) (calls_of_F (fn := fn59) (nt := 6) (rs := [4]) mixed fnAt59 (by kernel_rfl) (by kernel_rfl) (by kernel_rfl) (Nat.le_of_ble_eq_true (by kernel_rfl)) config_unless_ok (config_unless_eq t0 t1 w K) h)

/-- paceline/config.within -/
def config_within (t0 t1 t2 : Value) (w : World) (K : KV) : Prop :=
  bi .geq .i64 t0 t1 w fun t9 w =>
  gd t9 true (fun k => k t0 w) w fun t11 w =>
  gd t9 true (fun k => k t2 w) w fun t12 w =>
  gd t9 true (fun k => bi .leq .i64 t11 t12 w k) w fun t13 w =>
  pk t9 t13 (Value.bool false) w fun t14 w =>
  K t14 w
theorem config_within_eq (t0 t1 t2 : Value) (w : World) (K : KV) : config_within t0 t1 t2 w K = fnW prog 15 [6] (match fn60.body with | some c => c | none => .skip) #[t0, t1, t2] w K := by kernel_rfl
theorem config_within_ok : fnOk prog 15 [6] (match fn60.body with | some c => c | none => .skip) = true := by kernel_rfl
theorem config_within_calls {t0 t1 t2 : Value} {w : World} {K : KV} (h : config_within t0 t1 t2 w K) : Cl prog 60 #[t0, t1, t2] w K :=
  Cl.mk (by kernel_rfl) (calls_of_F (fn := fn60) (nt := 15) (rs := [6]) mixed fnAt60 (by kernel_rfl) (by kernel_rfl) (by kernel_rfl) (Nat.le_of_ble_eq_true (by kernel_rfl)) config_within_ok (config_within_eq t0 t1 t2 w K) h)

/-- paceline/config.fed -/
def config_fed (t0 t1 : Value) (w : World) (K : KV) : Prop :=
  al (Value.cells t0) 72 w fun t2 w =>
  al (Value.cells t1) 3 w fun t3 w =>
  dr w fun w =>
  fld 0 t2 w fun t11 _ =>
  ld1 t11 w fun t12 _ =>
  fld 1 t2 w fun t15 _ =>
  ld1 t15 w fun t16 _ =>
  fld 2 t2 w fun t19 _ =>
  ld1 t19 w fun t20 _ =>
  fld 4 t2 w fun t25 _ =>
  ld1 t25 w fun t26 _ =>
  fld 6 t2 w fun t36 _ =>
  ld1 t36 w fun t37 _ =>
  lnS t37 w fun t38 _ =>
  bi .leq .i64 t38 (Value.int IntKind.i64 4) w fun t39 _ =>
  Cl prog 60 #[t12, (Value.int IntKind.i64 0), (Value.int IntKind.i64 1)] w fun t13 w =>
  (ld1 t36 w (fun v' w'' => v' = t37 ∧ w'' = w)) ∧ ((ld1 t25 w (fun v' w'' => v' = t26 ∧ w'' = w)) ∧ ((ld1 t19 w (fun v' w'' => v' = t20 ∧ w'' = w)) ∧ ((ld1 t15 w (fun v' w'' => v' = t16 ∧ w'' = w)) ∧ (Cl prog 59 #[t13, (Value.int IntKind.i64 1)] w fun t14 w =>
  (ld1 t36 w (fun v' w'' => v' = t37 ∧ w'' = w)) ∧ ((ld1 t25 w (fun v' w'' => v' = t26 ∧ w'' = w)) ∧ ((ld1 t19 w (fun v' w'' => v' = t20 ∧ w'' = w)) ∧ ((ld1 t15 w (fun v' w'' => v' = t16 ∧ w'' = w)) ∧ (Cl prog 60 #[t16, (Value.int IntKind.i64 1), (Value.int IntKind.i64 1048576)] w fun t17 w =>
  (ld1 t36 w (fun v' w'' => v' = t37 ∧ w'' = w)) ∧ ((ld1 t25 w (fun v' w'' => v' = t26 ∧ w'' = w)) ∧ ((ld1 t19 w (fun v' w'' => v' = t20 ∧ w'' = w)) ∧ (Cl prog 59 #[t17, (Value.int IntKind.i64 80)] w fun t18 w =>
  (ld1 t36 w (fun v' w'' => v' = t37 ∧ w'' = w)) ∧ ((ld1 t25 w (fun v' w'' => v' = t26 ∧ w'' = w)) ∧ ((ld1 t19 w (fun v' w'' => v' = t20 ∧ w'' = w)) ∧ (Cl prog 60 #[t20, (Value.int IntKind.i64 0), (Value.int IntKind.i64 7)] w fun t21 w =>
  (ld1 t36 w (fun v' w'' => v' = t37 ∧ w'' = w)) ∧ ((ld1 t25 w (fun v' w'' => v' = t26 ∧ w'' = w)) ∧ (Cl prog 59 #[t21, (Value.int IntKind.i64 70)] w fun t22 w =>
  (ld1 t36 w (fun v' w'' => v' = t37 ∧ w'' = w)) ∧ ((ld1 t25 w (fun v' w'' => v' = t26 ∧ w'' = w)) ∧ (clV prog (Value.func (Fn.func 91) #[] #[t3]) #[t26] w fun t27 w =>
  (ld1 t36 w (fun v' w'' => v' = t37 ∧ w'' = w)) ∧ (gd t27 true (fun k => k (Value.func (Fn.func 91) #[] #[t3]) w) w fun t29 _ =>
  gd t27 true (fun k => fld 5 t2 w k) w fun t30 _ =>
  gd t27 true (fun k => ld1 t30 w k) w fun t31 _ =>
  gd t27 true (fun k => clV prog t29 #[t31] w k) w fun t32 w =>
  (ld1 t36 w (fun v' w'' => v' = t37 ∧ w'' = w)) ∧ (pk t27 t32 (Value.bool false) w fun t33 _ =>
  Cl prog 59 #[t33, (Value.int IntKind.i64 81)] w fun t34 w =>
  (ld1 t36 w (fun v' w'' => v' = t37 ∧ w'' = w)) ∧ (gd t39 true (fun k => fld 6 t2 w k) w fun t41 _ =>
  gd t39 true (fun k => ld1 t41 w k) w fun t42 _ =>
  gd t39 true (fun k => k (Value.func (Fn.func 94) #[] #[t2]) w) w fun t43 _ =>
  gd t39 true (fun k => Cl prog 97 #[t42, t43] w k) w fun t44 w =>
  gd t39 true (fun k => bnot t44 w k) w fun t45 _ =>
  pk t39 t45 (Value.bool false) w fun t46 _ =>
  Cl prog 59 #[t46, (Value.int IntKind.i64 82)] w fun t47 w =>
  bsl 104 1 7 (zeroD prog 104) [(0, t14), (1, t18), (2, t22), (3, (Value.func (Fn.func 95) #[] #[t2])), (4, t34), (5, (Value.func (Fn.func 92) #[] #[t2, t3])), (6, t47)] w fun t48 w =>
  Cl prog 56 #[t48] w fun t49 w =>
  K t49 w)))))))))))))))))))))
theorem config_fed_eq (t0 t1 : Value) (w : World) (K : KV) : config_fed t0 t1 w K = fnW prog 50 [4] (match fn61.body with | some c => c | none => .skip) #[t0, t1] w K := by kernel_rfl
theorem config_fed_ok : fnOk prog 50 [4] (match fn61.body with | some c => c | none => .skip) = true := by kernel_rfl
theorem config_fed_calls {t0 t1 : Value} {w : World} {K : KV} (h : config_fed t0 t1 w K) : Cl prog 61 #[t0, t1] w K :=
  Cl.mk (by kernel_rfl) (calls_of_F (fn := fn61) (nt := 50) (rs := [4]) mixed fnAt61 (by kernel_rfl) (by kernel_rfl) (by kernel_rfl) (Nat.le_of_ble_eq_true (by kernel_rfl)) config_fed_ok (config_fed_eq t0 t1 w K) h)

/-- slices.Clone[[]int,int] -/
def slices_Clone_int_int (t0 : Value) (w : World) (K : KV) : Prop :=
  bO prog .eql 36 (Operand.tmp 3) (Operand.const (Value.slice none 0 0)) t0 (Value.slice none 0 0) w fun t4 w =>
  iff' t4
  (K (Value.slice none 0 0) w)
  (bsl 3 1 0 #[] [] w fun t5 w =>
  apS prog #[36, 36] 36 t5 t0 w fun t7 w =>
  K t7 w)
theorem slices_Clone_int_int_eq (t0 : Value) (w : World) (K : KV) : slices_Clone_int_int t0 w K = fnW prog 8 [2] (match fn62.body with | some c => c | none => .skip) #[t0] w K := by kernel_rfl
theorem slices_Clone_int_int_ok : fnOk prog 8 [2] (match fn62.body with | some c => c | none => .skip) = true := by kernel_rfl
theorem slices_Clone_int_int_calls {t0 : Value} {w : World} {K : KV} (h : slices_Clone_int_int t0 w K) : Cl prog 62 #[t0] w K :=
  Cl.mk (by kernel_rfl) (calls_of_F (fn := fn62) (nt := 8) (rs := [2]) mixed fnAt62 (by kernel_rfl) (by kernel_rfl) (by kernel_rfl) (Nat.le_of_ble_eq_true (by kernel_rfl)) slices_Clone_int_int_ok (slices_Clone_int_int_eq t0 w K) h)

/-- slices.Clone[[]paceline/api.Fed,paceline/api.Fed] -/
def slices_Clone_api_Fed_api_Fed (t0 : Value) (w : World) (K : KV) : Prop :=
  bO prog .eql 37 (Operand.tmp 3) (Operand.const (Value.slice none 0 0)) t0 (Value.slice none 0 0) w fun t4 w =>
  iff' t4
  (K (Value.slice none 0 0) w)
  (bsl 72 7 0 #[] [] w fun t5 w =>
  apS prog #[37, 37] 37 t5 t0 w fun t7 w =>
  K t7 w)
theorem slices_Clone_api_Fed_api_Fed_eq (t0 : Value) (w : World) (K : KV) : slices_Clone_api_Fed_api_Fed t0 w K = fnW prog 8 [2] (match fn63.body with | some c => c | none => .skip) #[t0] w K := by kernel_rfl
theorem slices_Clone_api_Fed_api_Fed_ok : fnOk prog 8 [2] (match fn63.body with | some c => c | none => .skip) = true := by kernel_rfl
theorem slices_Clone_api_Fed_api_Fed_calls {t0 : Value} {w : World} {K : KV} (h : slices_Clone_api_Fed_api_Fed t0 w K) : Cl prog 63 #[t0] w K :=
  Cl.mk (by kernel_rfl) (calls_of_F (fn := fn63) (nt := 8) (rs := [2]) mixed fnAt63 (by kernel_rfl) (by kernel_rfl) (by kernel_rfl) (Nat.le_of_ble_eq_true (by kernel_rfl)) slices_Clone_api_Fed_api_Fed_ok (slices_Clone_api_Fed_api_Fed_eq t0 w K) h)

/-- slices.Clone[[]paceline/api.Out,paceline/api.Out] -/
def slices_Clone_api_Out_api_Out (t0 : Value) (w : World) (K : KV) : Prop :=
  bO prog .eql 70 (Operand.tmp 3) (Operand.const (Value.slice none 0 0)) t0 (Value.slice none 0 0) w fun t4 w =>
  iff' t4
  (K (Value.slice none 0 0) w)
  (bsl 78 3 0 #[] [] w fun t5 w =>
  apS prog #[70, 70] 70 t5 t0 w fun t7 w =>
  K t7 w)
theorem slices_Clone_api_Out_api_Out_eq (t0 : Value) (w : World) (K : KV) : slices_Clone_api_Out_api_Out t0 w K = fnW prog 8 [2] (match fn64.body with | some c => c | none => .skip) #[t0] w K := by kernel_rfl
theorem slices_Clone_api_Out_api_Out_ok : fnOk prog 8 [2] (match fn64.body with | some c => c | none => .skip) = true := by kernel_rfl
theorem slices_Clone_api_Out_api_Out_calls {t0 : Value} {w : World} {K : KV} (h : slices_Clone_api_Out_api_Out t0 w K) : Cl prog 64 #[t0] w K :=
  Cl.mk (by kernel_rfl) (calls_of_F (fn := fn64) (nt := 8) (rs := [2]) mixed fnAt64 (by kernel_rfl) (by kernel_rfl) (by kernel_rfl) (Nat.le_of_ble_eq_true (by kernel_rfl)) slices_Clone_api_Out_api_Out_ok (slices_Clone_api_Out_api_Out_eq t0 w K) h)

/-- slices.Clone[[]paceline/api.Rule,paceline/api.Rule] -/
def slices_Clone_api_Rule_api_Rule (t0 : Value) (w : World) (K : KV) : Prop :=
  bO prog .eql 69 (Operand.tmp 3) (Operand.const (Value.slice none 0 0)) t0 (Value.slice none 0 0) w fun t4 w =>
  iff' t4
  (K (Value.slice none 0 0) w)
  (bsl 80 4 0 #[] [] w fun t5 w =>
  apS prog #[69, 69] 69 t5 t0 w fun t7 w =>
  K t7 w)
theorem slices_Clone_api_Rule_api_Rule_eq (t0 : Value) (w : World) (K : KV) : slices_Clone_api_Rule_api_Rule t0 w K = fnW prog 8 [2] (match fn65.body with | some c => c | none => .skip) #[t0] w K := by kernel_rfl
theorem slices_Clone_api_Rule_api_Rule_ok : fnOk prog 8 [2] (match fn65.body with | some c => c | none => .skip) = true := by kernel_rfl
theorem slices_Clone_api_Rule_api_Rule_calls {t0 : Value} {w : World} {K : KV} (h : slices_Clone_api_Rule_api_Rule t0 w K) : Cl prog 65 #[t0] w K :=
  Cl.mk (by kernel_rfl) (calls_of_F (fn := fn65) (nt := 8) (rs := [2]) mixed fnAt65 (by kernel_rfl) (by kernel_rfl) (by kernel_rfl) (Nat.le_of_ble_eq_true (by kernel_rfl)) slices_Clone_api_Rule_api_Rule_ok (slices_Clone_api_Rule_api_Rule_eq t0 w K) h)

/-- paceline/pacelineref05.Check -/
def pacelineref05_Check (t0 : Value) (w : World) (K : KV) : Prop :=
  lnS t0 w fun t5 w =>
  bi .lss .i64 t5 (Value.int IntKind.i64 1) w fun t6 w =>
  gd t6 false (fun k => k t0 w) w fun t8 w =>
  gd t6 false (fun k => lnS t8 w k) w fun t9 w =>
  gd t6 false (fun k => bi .gtr .i64 t9 (Value.int IntKind.i64 16) w k) w fun t10 w =>
  pk t6 (Value.bool true) t10 w fun t11 w =>
  iff' t11
  (K (Value.int IntKind.i64 50) w)
  (lp [(Value.int IntKind.i64 0)] w (b1 fun t3 w g1 =>
  lnS t0 w fun t14 w =>
  bi .lss .i64 t3 t14 w fun t15 w =>
  iff' t15
  (ixS 1 t0 t3 w fun t20 w =>
  ld1 t20 w fun t21 w =>
  bi .lss .i64 t21 (Value.int IntKind.i64 (-1)) w fun t22 w =>
  gd t22 false (fun k => k t0 w) w fun t24 w =>
  gd t22 false (fun k => k t3 w) w fun t25 w =>
  gd t22 false (fun k => ixS 1 t24 t25 w k) w fun t26 w =>
  gd t22 false (fun k => ld1 t26 w k) w fun t27 w =>
  gd t22 false (fun k => k t3 w) w fun t28 w =>
  gd t22 false (fun k => bi .geq .i64 t27 t28 w k) w fun t29 w =>
  pk t22 (Value.bool true) t29 w fun t30 w =>
  iff' t30
  (K (Value.int IntKind.i64 50) w)
  (bi .add .i64 t3 (Value.int IntKind.i64 1) w fun t17 w =>
  g1 [t17] w))
  (K (Value.int IntKind.i64 0) w)))
theorem pacelineref05_Check_eq (t0 : Value) (w : World) (K : KV) : pacelineref05_Check t0 w K = fnW prog 31 [2] (match fn66.body with | some c => c | none => .skip) #[t0] w K := by kernel_rfl
theorem pacelineref05_Check_ok : fnOk prog 31 [2] (match fn66.body with | some c => c | none => .skip) = true := by kernel_rfl
theorem pacelineref05_Check_calls {t0 : Value} {w : World} {K : KV} (h : pacelineref05_Check t0 w K) : Cl prog 66 #[t0] w K :=
  Cl.mk (by kernel_rfl) (calls_of_F (fn := fn66) (nt := 31) (rs := [2]) mixed fnAt66 (by kernel_rfl) (by kernel_rfl) (by kernel_rfl) (Nat.le_of_ble_eq_true (by kernel_rfl)) pacelineref05_Check_ok (pacelineref05_Check_eq t0 w K) h)

/-- paceline/pacelineref08.Fed -/
def pacelineref08_Fed (t0 t1 : Value) (w : World) (K : KV) : Prop :=
  al (Value.cells t0) 72 w fun t2 w =>
  fld 0 t2 w fun t10 w =>
  ld1 t10 w fun t11 w =>
  bi .neq .i64 t11 (Value.int IntKind.i64 0) w fun t12 w =>
  gd t12 true (fun k => fld 0 t2 w k) w fun t14 w =>
  gd t12 true (fun k => ld1 t14 w k) w fun t15 w =>
  gd t12 true (fun k => bi .neq .i64 t15 (Value.int IntKind.i64 1) w k) w fun t16 w =>
  pk t12 t16 (Value.bool false) w fun t17 w =>
  iff' t17
  (K (Value.int IntKind.i64 1) w)
  (fld 1 t2 w fun t18 w =>
  ld1 t18 w fun t19 w =>
  bi .lss .i64 t19 (Value.int IntKind.i64 1) w fun t20 w =>
  gd t20 false (fun k => fld 1 t2 w k) w fun t22 w =>
  gd t20 false (fun k => ld1 t22 w k) w fun t23 w =>
  gd t20 false (fun k => bi .gtr .i64 t23 (Value.int IntKind.i64 1048576) w k) w fun t24 w =>
  pk t20 (Value.bool true) t24 w fun t25 w =>
  iff' t25
  (K (Value.int IntKind.i64 80) w)
  (fld 2 t2 w fun t26 w =>
  ld1 t26 w fun t27 w =>
  bi .lss .i64 t27 (Value.int IntKind.i64 0) w fun t28 w =>
  gd t28 false (fun k => fld 2 t2 w k) w fun t30 w =>
  gd t28 false (fun k => ld1 t30 w k) w fun t31 w =>
  gd t28 false (fun k => bi .geq .i64 t31 (Value.int IntKind.i64 8) w k) w fun t32 w =>
  pk t28 (Value.bool true) t32 w fun t33 w =>
  gd t33 false (fun k => fld 3 t2 w k) w fun t35 w =>
  gd t33 false (fun k => ld1 t35 w k) w fun t36 w =>
  gd t33 false (fun k => Cl prog 98 #[t36] w k) w fun t37 w =>
  gd t33 false (fun k => bi .neq .i64 t37 (Value.int IntKind.i64 0) w k) w fun t38 w =>
  pk t33 (Value.bool true) t38 w fun t39 w =>
  iff' t39
  (K (Value.int IntKind.i64 70) w)
  (fld 4 t2 w fun t40 w =>
  ld1 t40 w fun t41 w =>
  Cl prog 99 #[t41, t1] w fun t43 w =>
  bnot t43 w fun t44 w =>
  gd t44 false (fun k => fld 5 t2 w k) w fun t46 w =>
  gd t44 false (fun k => ld1 t46 w k) w fun t47 w =>
  gd t44 false (fun k => k t1 w) w fun t48 w =>
  gd t44 false (fun k => Cl prog 99 #[t47, t48] w k) w fun t49 w =>
  gd t44 false (fun k => bnot t49 w k) w fun t50 w =>
  pk t44 (Value.bool true) t50 w fun t51 w =>
  iff' t51
  (K (Value.int IntKind.i64 81) w)
  (lp [(Value.int IntKind.i64 0)] w (b1 fun t5 w g1 =>
  fld 3 t2 w fun t53 w =>
  ld1 t53 w fun t54 w =>
  lnS t54 w fun t55 w =>
  bi .lss .i64 t5 t55 w fun t56 w =>
  iff' t56
  (fld 3 t2 w fun t59 w =>
  ld1 t59 w fun t60 w =>
  ixS 4 t60 t5 w fun t62 w =>
  fld 1 t62 w fun t63 w =>
  ld1 t63 w fun t64 w =>
  bi .geq .i64 t64 t1 w fun t66 w =>
  iff' t66
  (K (Value.int IntKind.i64 81) w)
  (lp [(Value.int IntKind.i64 0)] w (b1 fun t6 w g2 =>
  fld 3 t2 w fun t68 w =>
  ld1 t68 w fun t69 w =>
  ixS 4 t69 t5 w fun t71 w =>
  fld 3 t71 w fun t72 w =>
  ld1 t72 w fun t73 w =>
  lnS t73 w fun t74 w =>
  bi .lss .i64 t6 t74 w fun t75 w =>
  iff' t75
  (fld 3 t2 w fun t78 w =>
  ld1 t78 w fun t79 w =>
  ixS 4 t79 t5 w fun t81 w =>
  fld 3 t81 w fun t82 w =>
  ld1 t82 w fun t83 w =>
  ixS 3 t83 t6 w fun t85 w =>
  ldN 3 t85 w fun t86 w =>
  al (zeroD prog 78) 78 w fun t7 w =>
  stN 3 t7 t86 w fun _ w =>
  fld 4 t2 w fun t87 w =>
  ld1 t87 w fun t88 w =>
  fld 0 t7 w fun t89 w =>
  ld1 t89 w fun t90 w =>
  Cl prog 100 #[t88, t90] w fun t91 w =>
  bnot t91 w fun t92 w =>
  iff' t92
  (K (Value.int IntKind.i64 81) w)
  (fld 1 t7 w fun t93 w =>
  ld1 t93 w fun t94 w =>
  fld 1 t2 w fun t95 w =>
  ld1 t95 w fun t96 w =>
  bi .lss .i64 t94 t96 w fun t97 w =>
  iff' t97
  (K (Value.int IntKind.i64 80) w)
  (bi .add .i64 t6 (Value.int IntKind.i64 1) w fun t77 w =>
  g2 [t77] w)))
  (bi .add .i64 t5 (Value.int IntKind.i64 1) w fun t58 w =>
  g1 [t58] w))))
  (fld 6 t2 w fun t98 w =>
  ld1 t98 w fun t99 w =>
  lnS t99 w fun t100 w =>
  bi .gtr .i64 t100 (Value.int IntKind.i64 4) w fun t101 w =>
  iff' t101
  (K (Value.int IntKind.i64 82) w)
  (lp [(Value.int IntKind.i64 0)] w (b1 fun t8 w g3 =>
  fld 6 t2 w fun t103 w =>
  ld1 t103 w fun t104 w =>
  lnS t104 w fun t105 w =>
  bi .lss .i64 t8 t105 w fun t106 w =>
  iff' t106
  (fld 6 t2 w fun t109 w =>
  ld1 t109 w fun t110 w =>
  ixS 3 t110 t8 w fun t112 w =>
  ldN 3 t112 w fun t113 w =>
  al (zeroD prog 78) 78 w fun t9 w =>
  stN 3 t9 t113 w fun _ w =>
  fld 4 t2 w fun t114 w =>
  ld1 t114 w fun t115 w =>
  fld 0 t9 w fun t116 w =>
  ld1 t116 w fun t117 w =>
  Cl prog 100 #[t115, t117] w fun t118 w =>
  bnot t118 w fun t119 w =>
  gd t119 false (fun k => fld 1 t9 w k) w fun t121 w =>
  gd t119 false (fun k => ld1 t121 w k) w fun t122 w =>
  gd t119 false (fun k => bi .lss .i64 t122 (Value.int IntKind.i64 0) w k) w fun t123 w =>
  pk t119 (Value.bool true) t123 w fun t124 w =>
  gd t124 false (fun k => fld 1 t9 w k) w fun t126 w =>
  gd t124 false (fun k => ld1 t126 w k) w fun t127 w =>
  gd t124 false (fun k => bi .gtr .i64 t127 (Value.int IntKind.i64 1099511627776) w k) w fun t128 w =>
  pk t124 (Value.bool true) t128 w fun t129 w =>
  gd t129 false (fun k => fld 2 t9 w k) w fun t131 w =>
  gd t129 false (fun k => ld1 t131 w k) w fun t132 w =>
  gd t129 false (fun k => bi .lss .i64 t132 (Value.int IntKind.i64 0) w k) w fun t133 w =>
  pk t129 (Value.bool true) t133 w fun t134 w =>
  gd t134 false (fun k => fld 2 t9 w k) w fun t136 w =>
  gd t134 false (fun k => ld1 t136 w k) w fun t137 w =>
  gd t134 false (fun k => bi .geq .i64 t137 (Value.int IntKind.i64 1000) w k) w fun t138 w =>
  pk t134 (Value.bool true) t138 w fun t139 w =>
  iff' t139
  (K (Value.int IntKind.i64 82) w)
  (bi .add .i64 t8 (Value.int IntKind.i64 1) w fun t108 w =>
  g3 [t108] w))
  (K (Value.int IntKind.i64 0) w)))))))))
theorem pacelineref08_Fed_eq (t0 t1 : Value) (w : World) (K : KV) : pacelineref08_Fed t0 t1 w K = fnW prog 140 [4] (match fn67.body with | some c => c | none => .skip) #[t0, t1] w K := by kernel_rfl
theorem pacelineref08_Fed_ok : fnOk prog 140 [4] (match fn67.body with | some c => c | none => .skip) = true := by kernel_rfl
theorem pacelineref08_Fed_calls {t0 t1 : Value} {w : World} {K : KV} (h : pacelineref08_Fed t0 t1 w K) : Cl prog 67 #[t0, t1] w K :=
  Cl.mk (by kernel_rfl) (calls_of_F (fn := fn67) (nt := 140) (rs := [4]) mixed fnAt67 (by kernel_rfl) (by kernel_rfl) (by kernel_rfl) (Nat.le_of_ble_eq_true (by kernel_rfl)) pacelineref08_Fed_ok (pacelineref08_Fed_eq t0 t1 w K) h)

/-- paceline/vtime.Valid -/
def vtime_Valid (t0 : Value) (w : World) (K : KV) : Prop :=
  bi .eql .i64 t0 (Value.int IntKind.i64 1125899906842624) w fun t4 w =>
  gd t4 false (fun k => k t0 w) w fun t6 w =>
  gd t4 false (fun k => cvI .u64 t6 w k) w fun t7 w =>
  gd t4 false (fun k => bi .leq .u64 t7 (Value.int IntKind.u64 1099511627776) w k) w fun t8 w =>
  pk t4 (Value.bool true) t8 w fun t9 w =>
  K t9 w
theorem vtime_Valid_eq (t0 : Value) (w : World) (K : KV) : vtime_Valid t0 w K = fnW prog 10 [2] (match fn68.body with | some c => c | none => .skip) #[t0] w K := by kernel_rfl
theorem vtime_Valid_ok : fnOk prog 10 [2] (match fn68.body with | some c => c | none => .skip) = true := by kernel_rfl
theorem vtime_Valid_calls {t0 : Value} {w : World} {K : KV} (h : vtime_Valid t0 w K) : Cl prog 68 #[t0] w K :=
  Cl.mk (by kernel_rfl) (calls_of_F (fn := fn68) (nt := 10) (rs := [2]) mixed fnAt68 (by kernel_rfl) (by kernel_rfl) (by kernel_rfl) (Nat.le_of_ble_eq_true (by kernel_rfl)) vtime_Valid_ok (vtime_Valid_eq t0 w K) h)

/-- container/heap.Push -/
def heap_Push (t0 t1 : Value) (w : World) (K : KV) : Prop :=
  clI prog t0 "Push" #[t1] w fun _ w =>
  clI prog t0 "Len" #[] w fun t9 w =>
  bi .sub .i64 t9 (Value.int IntKind.i64 1) w fun t10 w =>
  Cl prog 101 #[t0, t10] w fun _ w =>
  K (Value.tuple #[]) w
theorem heap_Push_eq (t0 t1 : Value) (w : World) (K : KV) : heap_Push t0 t1 w K = fnW prog 12 [] (match fn69.body with | some c => c | none => .skip) #[t0, t1] w K := by kernel_rfl
theorem heap_Push_ok : fnOk prog 12 [] (match fn69.body with | some c => c | none => .skip) = true := by kernel_rfl
theorem heap_Push_calls {t0 t1 : Value} {w : World} {K : KV} (h : heap_Push t0 t1 w K) : Cl prog 69 #[t0, t1] w K :=
  Cl.mk (by kernel_rfl) (calls_of_F (fn := fn69) (nt := 12) (rs := []) mixed fnAt69 (by kernel_rfl) (by kernel_rfl) (by kernel_rfl) (Nat.le_of_ble_eq_true (by kernel_rfl)) heap_Push_ok (heap_Push_eq t0 t1 w K) h)

/-- paceline/pacelineref01.Valid -/
def pacelineref01_Valid (t0 : Value) (w : World) (K : KV) : Prop :=
  bi .geq .i64 t0 (Value.int IntKind.i64 0) w fun t4 w =>
  gd t4 true (fun k => k t0 w) w fun t6 w =>
  gd t4 true (fun k => bi .leq .i64 t6 (Value.int IntKind.i64 1099511627776) w k) w fun t7 w =>
  pk t4 t7 (Value.bool false) w fun t8 w =>
  gd t8 false (fun k => k t0 w) w fun t10 w =>
  gd t8 false (fun k => bi .eql .i64 t10 (Value.int IntKind.i64 1125899906842624) w k) w fun t11 w =>
  pk t8 (Value.bool true) t11 w fun t12 w =>
  K t12 w
theorem pacelineref01_Valid_eq (t0 : Value) (w : World) (K : KV) : pacelineref01_Valid t0 w K = fnW prog 13 [2] (match fn70.body with | some c => c | none => .skip) #[t0] w K := by kernel_rfl
theorem pacelineref01_Valid_ok : fnOk prog 13 [2] (match fn70.body with | some c => c | none => .skip) = true := by kernel_rfl
theorem pacelineref01_Valid_calls {t0 : Value} {w : World} {K : KV} (h : pacelineref01_Valid t0 w K) : Cl prog 70 #[t0] w K :=
  Cl.mk (by kernel_rfl) (calls_of_F (fn := fn70) (nt := 13) (rs := [2]) mixed fnAt70 (by kernel_rfl) (by kernel_rfl) (by kernel_rfl) (Nat.le_of_ble_eq_true (by kernel_rfl)) pacelineref01_Valid_ok (pacelineref01_Valid_eq t0 w K) h)

/-- (*paceline/pacelineref03.Queue).find -/
def pacelineref03_Queue_find (t0 t1 : Value) (w : World) (K : KV) : Prop :=
  al (Value.cells t1) 24 w fun t3 w =>
  lp [(Value.int IntKind.i64 0)] w (b1 fun t5 w g1 =>
  ncP t0 <|
  fld 1 t0 w fun t9 w =>
  ld1 t9 w fun t10 w =>
  lnS t10 w fun t11 w =>
  bi .lss .i64 t5 t11 w fun t12 w =>
  iff' t12
  (dr w fun w =>
  ncP t0 <|
  fld 1 t0 w fun t17 _ =>
  ld1 t17 w fun t18 _ =>
  ixS 6 t18 t5 w fun t20 _ =>
  fld 0 t20 w fun t21 _ =>
  ldN 3 t21 w fun t22 _ =>
  ldN 3 t3 w fun t23 _ =>
  bO prog .eql 24 (Operand.tmp 22) (Operand.tmp 23) t22 t23 w fun t24 w =>
  iff' t24
  (K t5 w)
  (bi .add .i64 t5 (Value.int IntKind.i64 1) w fun t14 w =>
  g1 [t14] w))
  (K (Value.int IntKind.i64 (-1)) w))
theorem pacelineref03_Queue_find_eq (t0 t1 : Value) (w : World) (K : KV) : pacelineref03_Queue_find t0 t1 w K = fnW prog 26 [4] (match fn71.body with | some c => c | none => .skip) #[t0, t1] w K := by kernel_rfl
theorem pacelineref03_Queue_find_ok : fnOk prog 26 [4] (match fn71.body with | some c => c | none => .skip) = true := by kernel_rfl
theorem pacelineref03_Queue_find_calls {t0 t1 : Value} {w : World} {K : KV} (h : pacelineref03_Queue_find t0 t1 w K) : Cl prog 71 #[t0, t1] w K :=
  Cl.mk (by kernel_rfl) (calls_of_F (fn := fn71) (nt := 26) (rs := [4]) mixed fnAt71 (by kernel_rfl) (by kernel_rfl) (by kernel_rfl) (Nat.le_of_ble_eq_true (by kernel_rfl)) pacelineref03_Queue_find_ok (pacelineref03_Queue_find_eq t0 t1 w K) h)

/-- paceline/pacelineref03.Insert -/
def pacelineref03_Insert (t0 t1 : Value) (w : World) (K : KV) : Prop :=
  al (Value.cells t1) 26 w fun t3 w =>
  bsl 26 6 0 #[] [] w fun t8 w =>
  lp [t8, (Value.bool false), (Value.int IntKind.i64 0)] w (b3 fun t5 t6 t7 w g1 =>
  lnS t0 w fun t11 w =>
  bi .lss .i64 t7 t11 w fun t12 w =>
  iff' t12
  (dr w fun w =>
  bnot t6 w fun t16 _ =>
  gd t16 true (fun k => fld 0 t3 w k) w fun t18 _ =>
  gd t16 true (fun k => ldN 3 t18 w k) w fun t19 _ =>
  gd t16 true (fun k => k t0 w) w fun t20 _ =>
  gd t16 true (fun k => k t7 w) w fun t21 _ =>
  gd t16 true (fun k => ixS 6 t20 t21 w k) w fun t22 _ =>
  gd t16 true (fun k => fld 0 t22 w k) w fun t23 _ =>
  gd t16 true (fun k => ldN 3 t23 w k) w fun t24 _ =>
  gd t16 true (fun k => Cl prog 102 #[t19, t24] w k) w fun t25 w =>
  gd t16 true (fun k => bi .lss .i64 t25 (Value.int IntKind.i64 0) w k) w fun t26 _ =>
  pk t16 t26 (Value.bool false) w fun t27 _ =>
  J2 (fun t5_1 t6_1 w =>
  ixS 6 t0 t7 w fun t35 w =>
  ldN 6 t35 w fun t36 w =>
  bsl 26 6 1 (zeroD prog 26) [(0, t36)] w fun t37 w =>
  apS prog #[47, 47] 47 t5_1 t37 w fun t38 w =>
  bi .add .i64 t7 (Value.int IntKind.i64 1) w fun t14 w =>
  g1 [t38, t6_1, t14] w) fun k2 =>
  iff' t27
  (ldN 6 t3 w fun t29 w =>
  bsl 26 6 1 (zeroD prog 26) [(0, t29)] w fun t30 w =>
  apS prog #[47, 47] 47 t5 t30 w fun t31 w =>
  k2 t31 (Value.bool true) w)
  (k2 t5 t6 w))
  (bnot t6 w fun t40 w =>
  J1 (fun t5_2 w =>
  K t5_2 w) fun k3 =>
  iff' t40
  (ldN 6 t3 w fun t42 w =>
  bsl 26 6 1 (zeroD prog 26) [(0, t42)] w fun t43 w =>
  apS prog #[47, 47] 47 t5 t43 w fun t44 w =>
  k3 t44 w)
  (k3 t5 w)))
theorem pacelineref03_Insert_eq (t0 t1 : Value) (w : World) (K : KV) : pacelineref03_Insert t0 t1 w K = fnW prog 46 [4] (match fn72.body with | some c => c | none => .skip) #[t0, t1] w K := by kernel_rfl
theorem pacelineref03_Insert_ok : fnOk prog 46 [4] (match fn72.body with | some c => c | none => .skip) = true := by kernel_rfl
theorem pacelineref03_Insert_calls {t0 t1 : Value} {w : World} {K : KV} (h : pacelineref03_Insert t0 t1 w K) : Cl prog 72 #[t0, t1] w K :=
  Cl.mk (by kernel_rfl) (calls_of_F (fn := fn72) (nt := 46) (rs := [4]) mixed fnAt72 (by kernel_rfl) (by kernel_rfl) (by kernel_rfl) (Nat.le_of_ble_eq_true (by kernel_rfl)) pacelineref03_Insert_ok (pacelineref03_Insert_eq t0 t1 w K) h)

/-- container/heap.Pop -/
def heap_Pop (t0 : Value) (w : World) (K : KV) : Prop :=
  clI prog t0 "Len" #[] w fun t5 w =>
  bi .sub .i64 t5 (Value.int IntKind.i64 1) w fun t6 w =>
  clI prog t0 "Swap" #[(Value.int IntKind.i64 0), t6] w fun _ w =>
  Cl prog 103 #[t0, (Value.int IntKind.i64 0), t6] w fun _ w =>
  clI prog t0 "Pop" #[] w fun t14 w =>
  K t14 w
theorem heap_Pop_eq (t0 : Value) (w : World) (K : KV) : heap_Pop t0 w K = fnW prog 15 [2] (match fn73.body with | some c => c | none => .skip) #[t0] w K := by kernel_rfl
theorem heap_Pop_ok : fnOk prog 15 [2] (match fn73.body with | some c => c | none => .skip) = true := by kernel_rfl
theorem heap_Pop_calls {t0 : Value} {w : World} {K : KV} (h : heap_Pop t0 w K) : Cl prog 73 #[t0] w K :=
  Cl.mk (by kernel_rfl) (calls_of_F (fn := fn73) (nt := 15) (rs := [2]) mixed fnAt73 (by kernel_rfl) (by kernel_rfl) (by kernel_rfl) (Nat.le_of_ble_eq_true (by kernel_rfl)) heap_Pop_ok (heap_Pop_eq t0 w K) h)

/-- paceline/table.Find -/
def table_Find (t0 t1 t2 : Value) (w : World) (K : KV) : Prop :=
  al (Value.cells t1) 3 w fun t4 w =>
  al (Value.cells t2) 3 w fun t5 w =>
  Cl prog 104 #[t0, (Value.func (Fn.func 105) #[] #[t4, t5])] w fun t9 w =>
  K t9 w
theorem table_Find_eq (t0 t1 t2 : Value) (w : World) (K : KV) : table_Find t0 t1 t2 w K = fnW prog 10 [6] (match fn74.body with | some c => c | none => .skip) #[t0, t1, t2] w K := by kernel_rfl
theorem table_Find_ok : fnOk prog 10 [6] (match fn74.body with | some c => c | none => .skip) = true := by kernel_rfl
theorem table_Find_calls {t0 t1 t2 : Value} {w : World} {K : KV} (h : table_Find t0 t1 t2 w K) : Cl prog 74 #[t0, t1, t2] w K :=
  Cl.mk (by kernel_rfl) (calls_of_F (fn := fn74) (nt := 10) (rs := [6]) mixed fnAt74 (by kernel_rfl) (by kernel_rfl) (by kernel_rfl) (Nat.le_of_ble_eq_true (by kernel_rfl)) table_Find_ok (table_Find_eq t0 t1 t2 w K) h)

/-- paceline/table.Sent -/
def table_Sent (t0 t1 t2 t3 t4 : Value) (w : World) (K : KV) : Prop :=
  al (Value.cells t4) 78 w fun t9 w =>
  al (zeroD prog 26) 26 w fun t10 w =>
  dr w fun w =>
  fld 1 t9 w fun t12 _ =>
  ld1 t12 w fun t13 _ =>
  fld 0 t9 w fun t18 _ =>
  ld1 t18 w fun t19 _ =>
  fld 2 t9 w fun t22 _ =>
  ld1 t22 w fun t23 _ =>
  Cl prog 86 #[t2, t13] w fun t14 w =>
  (ld1 t22 w (fun v' w'' => v' = t23 ∧ w'' = w)) ∧ ((ld1 t18 w (fun v' w'' => v' = t19 ∧ w'' = w)) ∧ ((bld (zeroD prog 24) #[(0, 1), (1, 1), (2, 1)] [(0, t14), (1, t0), (2, t1)] w fun t17 w =>
  (ld1 t22 w (fun v' w'' => v' = t23 ∧ w'' = w)) ∧ ((ld1 t18 w (fun v' w'' => v' = t19 ∧ w'' = w)) ∧ (Cl prog 106 #[t3] w fun t21 w =>
  (ld1 t22 w (fun v' w'' => v' = t23 ∧ w'' = w)) ∧ ((ld1 t18 w (fun v' w'' => v' = t19 ∧ w'' = w)) ∧ (Cl prog 106 #[t23] w fun t24 w =>
  (ld1 t18 w (fun v' w'' => v' = t19 ∧ w'' = w)) ∧ (bi .add .i64 t21 t24 w fun t25 _ =>
  Cl prog 106 #[t25] w fun t26 w =>
  (ld1 t18 w (fun v' w'' => v' = t19 ∧ w'' = w)) ∧ (bld (zeroD prog 26) #[(0, 3), (3, 1), (4, 1), (5, 1)] [(0, t17), (1, (Value.int IntKind.i64 (-1))), (2, t19), (3, t26)] w fun t27 w =>
  stN 6 t10 t27 w fun _ w =>
  ldN 6 t10 w fun r0 _ =>
  K r0 w))))))) ∧ (Cl prog 106 #[t3] w fun t21_1 w =>
  (ld1 t22 w (fun v' w'' => v' = t23 ∧ w'' = w)) ∧ ((ld1 t18 w (fun v' w'' => v' = t19 ∧ w'' = w)) ∧ ((bld (zeroD prog 24) #[(0, 1), (1, 1), (2, 1)] [(0, t14), (1, t0), (2, t1)] w fun t17_1 w =>
  (ld1 t22 w (fun v' w'' => v' = t23 ∧ w'' = w)) ∧ ((ld1 t18 w (fun v' w'' => v' = t19 ∧ w'' = w)) ∧ (Cl prog 106 #[t23] w fun t24_1 w =>
  (ld1 t18 w (fun v' w'' => v' = t19 ∧ w'' = w)) ∧ (bi .add .i64 t21_1 t24_1 w fun t25_1 _ =>
  Cl prog 106 #[t25_1] w fun t26_1 w =>
  (ld1 t18 w (fun v' w'' => v' = t19 ∧ w'' = w)) ∧ (bld (zeroD prog 26) #[(0, 3), (3, 1), (4, 1), (5, 1)] [(0, t17_1), (1, (Value.int IntKind.i64 (-1))), (2, t19), (3, t26_1)] w fun t27_1 w =>
  stN 6 t10 t27_1 w fun _ w =>
  ldN 6 t10 w fun r0 _ =>
  K r0 w))))) ∧ (Cl prog 106 #[t23] w fun t24_2 w =>
  (ld1 t18 w (fun v' w'' => v' = t19 ∧ w'' = w)) ∧ (bi .add .i64 t21_1 t24_2 w fun t25_2 _ =>
  (bld (zeroD prog 24) #[(0, 1), (1, 1), (2, 1)] [(0, t14), (1, t0), (2, t1)] w fun t17_2 w =>
  (ld1 t22 w (fun v' w'' => v' = t23 ∧ w'' = w)) ∧ ((ld1 t18 w (fun v' w'' => v' = t19 ∧ w'' = w)) ∧ (Cl prog 106 #[t25_2] w fun t26_2 w =>
  (ld1 t18 w (fun v' w'' => v' = t19 ∧ w'' = w)) ∧ (bld (zeroD prog 26) #[(0, 3), (3, 1), (4, 1), (5, 1)] [(0, t17_2), (1, (Value.int IntKind.i64 (-1))), (2, t19), (3, t26_2)] w fun t27_2 w =>
  stN 6 t10 t27_2 w fun _ w =>
  ldN 6 t10 w fun r0 _ =>
  K r0 w)))) ∧ (Cl prog 106 #[t25_2] w fun t26_3 w =>
  (ld1 t18 w (fun v' w'' => v' = t19 ∧ w'' = w)) ∧ (bld (zeroD prog 24) #[(0, 1), (1, 1), (2, 1)] [(0, t14), (1, t0), (2, t1)] w fun t17_3 w =>
  (ld1 t22 w (fun v' w'' => v' = t23 ∧ w'' = w)) ∧ ((ld1 t18 w (fun v' w'' => v' = t19 ∧ w'' = w)) ∧ (bld (zeroD prog 26) #[(0, 3), (3, 1), (4, 1), (5, 1)] [(0, t17_3), (1, (Value.int IntKind.i64 (-1))), (2, t19), (3, t26_3)] w fun t27_3 w =>
  stN 6 t10 t27_3 w fun _ w =>
  ldN 6 t10 w fun r0 _ =>
  K r0 w)))))))))))
theorem table_Sent_eq (t0 t1 t2 t3 t4 : Value) (w : World) (K : KV) : table_Sent t0 t1 t2 t3 t4 w K = fnWC prog 28 [(10, some 26)] (match fn75.body with | some c => c | none => .skip) #[t0, t1, t2, t3, t4] w K := by kernel_rfl
theorem table_Sent_ok : fnOkC prog 28 [(10, some 26)] (match fn75.body with | some c => c | none => .skip) = true := by kernel_rfl
theorem table_Sent_calls {t0 t1 t2 t3 t4 : Value} {w : World} {K : KV} (h : table_Sent t0 t1 t2 t3 t4 w K) : Cl prog 75 #[t0, t1, t2, t3, t4] w K :=
  Cl.mk (by kernel_rfl) (calls_of_FC (fn := fn75) (nt := 28) (rs := [(10, some 26)]) mixed fnAt75 (by kernel_rfl) (by kernel_rfl) (by kernel_rfl) (Nat.le_of_ble_eq_true (by kernel_rfl)) table_Sent_ok (table_Sent_eq t0 t1 t2 t3 t4 w K) h)

/-- paceline/config.Routes -/
def config_Routes (t0 t1 t2 : Value) (w : World) (K : KV) : Prop :=
  al (Value.cells t0) 39 w fun t3 w =>
  al (Value.cells t2) 3 w fun t5 w =>
  fld 1 t3 w fun t10 w =>
  ld1 t10 w fun t11 w =>
  lnS t11 w fun t12 w =>
  lp [(Value.slice none 0 0), (Value.int IntKind.i64 0)] w (b2 fun t7 t13 w g1 =>
  bi .lss .i64 t13 t12 w fun t14 w =>
  iff' t14
  (J1 (fun t7_1 w =>
  bi .add .i64 t13 (Value.int IntKind.i64 1) w fun t31 w =>
  g1 [t7_1, t31] w) fun k2 =>
  ixS 7 t11 t13 w fun t16 w =>
  ldN 7 t16 w fun t17 w =>
  al (zeroD prog 72) 72 w fun t9 w =>
  stN 7 t9 t17 w fun _ w =>
  bi .neq .i64 t13 t1 w fun t20 w =>
  gd t20 true (fun k => fld 5 t9 w k) w fun t22 w =>
  gd t20 true (fun k => ld1 t22 w k) w fun t23 w =>
  gd t20 true (fun k => k (Value.func (Fn.func 108) #[] #[t3, t5]) w) w fun t24 w =>
  gd t20 true (fun k => Cl prog 107 #[t23, t24] w k) w fun t25 w =>
  pk t20 t25 (Value.bool false) w fun t26 w =>
  iff' t26
  (bsl 3 1 1 (zeroD prog 3) [(0, t13)] w fun t29 w =>
  apS prog #[36, 36] 36 t7 t29 w fun t30 w =>
  k2 t30 w)
  (k2 t7 w))
  (K t7 w))
theorem config_Routes_eq (t0 t1 t2 : Value) (w : World) (K : KV) : config_Routes t0 t1 t2 w K = fnW prog 33 [6] (match fn76.body with | some c => c | none => .skip) #[t0, t1, t2] w K := by kernel_rfl
theorem config_Routes_ok : fnOk prog 33 [6] (match fn76.body with | some c => c | none => .skip) = true := by kernel_rfl
theorem config_Routes_calls {t0 t1 t2 : Value} {w : World} {K : KV} (h : config_Routes t0 t1 t2 w K) : Cl prog 76 #[t0, t1, t2] w K :=
  Cl.mk (by kernel_rfl) (calls_of_F (fn := fn76) (nt := 33) (rs := [6]) mixed fnAt76 (by kernel_rfl) (by kernel_rfl) (by kernel_rfl) (Nat.le_of_ble_eq_true (by kernel_rfl)) config_Routes_ok (config_Routes_eq t0 t1 t2 w K) h)

/-- paceline/pacelineref03.Without -/
def pacelineref03_Without (t0 t1 : Value) (w : World) (K : KV) : Prop :=
  al (Value.cells t1) 24 w fun t3 w =>
  bsl 26 6 0 #[] [] w fun t7 w =>
  lp [t7, (Value.int IntKind.i64 0)] w (b2 fun t5 t6 w g1 =>
  lnS t0 w fun t10 w =>
  bi .lss .i64 t6 t10 w fun t11 w =>
  iff' t11
  (J1 (fun t5_1 w =>
  bi .add .i64 t6 (Value.int IntKind.i64 1) w fun t13 w =>
  g1 [t5_1, t13] w) fun k2 =>
  dr w fun w =>
  ixS 6 t0 t6 w fun t16 _ =>
  fld 0 t16 w fun t17 _ =>
  ldN 3 t17 w fun t18 _ =>
  ldN 3 t3 w fun t19 _ =>
  bO prog .neq 24 (Operand.tmp 18) (Operand.tmp 19) t18 t19 w fun t20 w =>
  iff' t20
  (ixS 6 t0 t6 w fun t24 w =>
  ldN 6 t24 w fun t25 w =>
  bsl 26 6 1 (zeroD prog 26) [(0, t25)] w fun t26 w =>
  apS prog #[47, 47] 47 t5 t26 w fun t27 w =>
  k2 t27 w)
  (k2 t5 w))
  (K t5 w))
theorem pacelineref03_Without_eq (t0 t1 : Value) (w : World) (K : KV) : pacelineref03_Without t0 t1 w K = fnW prog 29 [4] (match fn77.body with | some c => c | none => .skip) #[t0, t1] w K := by kernel_rfl
theorem pacelineref03_Without_ok : fnOk prog 29 [4] (match fn77.body with | some c => c | none => .skip) = true := by kernel_rfl
theorem pacelineref03_Without_calls {t0 t1 : Value} {w : World} {K : KV} (h : pacelineref03_Without t0 t1 w K) : Cl prog 77 #[t0, t1] w K :=
  Cl.mk (by kernel_rfl) (calls_of_F (fn := fn77) (nt := 29) (rs := [4]) mixed fnAt77 (by kernel_rfl) (by kernel_rfl) (by kernel_rfl) (Nat.le_of_ble_eq_true (by kernel_rfl)) pacelineref03_Without_ok (pacelineref03_Without_eq t0 t1 w K) h)

/-- paceline/pacelineref07.Find -/
def pacelineref07_Find (t0 t1 t2 : Value) (w : World) (K : KV) : Prop :=
  lp [(Value.int IntKind.i64 0)] w (b1 fun t7 w g1 =>
  lnS t0 w fun t10 w =>
  bi .lss .i64 t7 t10 w fun t11 w =>
  iff' t11
  (ixS 4 t0 t7 w fun t16 w =>
  fld 0 t16 w fun t17 w =>
  ld1 t17 w fun t18 w =>
  bi .eql .i64 t18 t1 w fun t20 w =>
  gd t20 true (fun k => k t0 w) w fun t22 w =>
  gd t20 true (fun k => k t7 w) w fun t23 w =>
  gd t20 true (fun k => ixS 4 t22 t23 w k) w fun t24 w =>
  gd t20 true (fun k => fld 1 t24 w k) w fun t25 w =>
  gd t20 true (fun k => ld1 t25 w k) w fun t26 w =>
  gd t20 true (fun k => k t2 w) w fun t27 w =>
  gd t20 true (fun k => bi .eql .i64 t26 t27 w k) w fun t28 w =>
  pk t20 t28 (Value.bool false) w fun t29 w =>
  iff' t29
  (K t7 w)
  (bi .add .i64 t7 (Value.int IntKind.i64 1) w fun t13 w =>
  g1 [t13] w))
  (K (Value.int IntKind.i64 (-1)) w))
theorem pacelineref07_Find_eq (t0 t1 t2 : Value) (w : World) (K : KV) : pacelineref07_Find t0 t1 t2 w K = fnW prog 31 [6] (match fn78.body with | some c => c | none => .skip) #[t0, t1, t2] w K := by kernel_rfl
theorem pacelineref07_Find_ok : fnOk prog 31 [6] (match fn78.body with | some c => c | none => .skip) = true := by kernel_rfl
theorem pacelineref07_Find_calls {t0 t1 t2 : Value} {w : World} {K : KV} (h : pacelineref07_Find t0 t1 t2 w K) : Cl prog 78 #[t0, t1, t2] w K :=
  Cl.mk (by kernel_rfl) (calls_of_F (fn := fn78) (nt := 31) (rs := [6]) mixed fnAt78 (by kernel_rfl) (by kernel_rfl) (by kernel_rfl) (Nat.le_of_ble_eq_true (by kernel_rfl)) pacelineref07_Find_ok (pacelineref07_Find_eq t0 t1 t2 w K) h)

/-- paceline/pacelineref07.Sent -/
def pacelineref07_Sent (t0 t1 t2 t3 t4 : Value) (w : World) (K : KV) : Prop :=
  al (Value.cells t4) 78 w fun t9 w =>
  al (zeroD prog 26) 26 w fun t10 w =>
  bi .rem .i64 t3 (Value.int IntKind.i64 1000) w fun t13 w =>
  fld 2 t9 w fun t14 w =>
  ld1 t14 w fun t15 w =>
  bi .rem .i64 t15 (Value.int IntKind.i64 1000) w fun t16 w =>
  bi .add .i64 t13 t16 w fun t17 w =>
  bi .rem .i64 t17 (Value.int IntKind.i64 1000) w fun t18 w =>
  bi .add .i64 t18 (Value.int IntKind.i64 1000) w fun t19 w =>
  dr w fun w =>
  fld 1 t9 w fun t21 _ =>
  ld1 t21 w fun t22 _ =>
  fld 0 t9 w fun t27 _ =>
  ld1 t27 w fun t28 _ =>
  bi .rem .i64 t19 (Value.int IntKind.i64 1000) w fun t30 _ =>
  Cl prog 88 #[t2, t22] w fun t23 w =>
  (ld1 t27 w (fun v' w'' => v' = t28 ∧ w'' = w)) ∧ (bld (zeroD prog 24) #[(0, 1), (1, 1), (2, 1)] [(0, t23), (1, t0), (2, t1)] w fun t26 w =>
  (ld1 t27 w (fun v' w'' => v' = t28 ∧ w'' = w)) ∧ (bld (zeroD prog 26) #[(0, 3), (3, 1), (4, 1), (5, 1)] [(0, t26), (1, (Value.int IntKind.i64 (-1))), (2, t28), (3, t30)] w fun t31 w =>
  stN 6 t10 t31 w fun _ w =>
  ldN 6 t10 w fun r0 _ =>
  K r0 w))
theorem pacelineref07_Sent_eq (t0 t1 t2 t3 t4 : Value) (w : World) (K : KV) : pacelineref07_Sent t0 t1 t2 t3 t4 w K = fnWC prog 32 [(10, some 26)] (match fn79.body with | some c => c | none => .skip) #[t0, t1, t2, t3, t4] w K := by kernel_rfl
theorem pacelineref07_Sent_ok : fnOkC prog 32 [(10, some 26)] (match fn79.body with | some c => c | none => .skip) = true := by kernel_rfl
theorem pacelineref07_Sent_calls {t0 t1 t2 t3 t4 : Value} {w : World} {K : KV} (h : pacelineref07_Sent t0 t1 t2 t3 t4 w K) : Cl prog 79 #[t0, t1, t2, t3, t4] w K :=
  Cl.mk (by kernel_rfl) (calls_of_FC (fn := fn79) (nt := 32) (rs := [(10, some 26)]) mixed fnAt79 (by kernel_rfl) (by kernel_rfl) (by kernel_rfl) (Nat.le_of_ble_eq_true (by kernel_rfl)) pacelineref07_Sent_ok (pacelineref07_Sent_eq t0 t1 t2 t3 t4 w K) h)

/-- paceline/pacelineref08.Routes -/
def pacelineref08_Routes (t0 t1 t2 : Value) (w : World) (K : KV) : Prop :=
  al (Value.cells t0) 39 w fun t3 w =>
  fld 0 t3 w fun t12 w =>
  ld1 t12 w fun t13 w =>
  Cl prog 110 #[t13, t2] w fun t15 w =>
  bsl 3 1 0 #[] [] w fun t16 w =>
  lp [t16, (Value.int IntKind.i64 0)] w (b2 fun t8 t9 w g1 =>
  fld 1 t3 w fun t18 w =>
  ld1 t18 w fun t19 w =>
  lnS t19 w fun t20 w =>
  bi .lss .i64 t9 t20 w fun t21 w =>
  iff' t21
  (J1 (fun t8_1 w =>
  bi .add .i64 t9 (Value.int IntKind.i64 1) w fun t23 w =>
  g1 [t8_1, t23] w) fun k2 =>
  lp [(Value.bool false), (Value.int IntKind.i64 0)] w (b2 fun t10 t11 w g3 =>
  lnS t15 w fun t26 w =>
  bi .lss .i64 t11 t26 w fun t27 w =>
  iff' t27
  (dr w fun w =>
  gd t10 false (fun k => fld 1 t3 w k) w fun t32 _ =>
  gd t10 false (fun k => ld1 t32 w k) w fun t33 _ =>
  gd t10 false (fun k => k t9 w) w fun t34 _ =>
  gd t10 false (fun k => ixS 7 t33 t34 w k) w fun t35 _ =>
  gd t10 false (fun k => fld 5 t35 w k) w fun t36 _ =>
  gd t10 false (fun k => ld1 t36 w k) w fun t37 _ =>
  gd t10 false (fun k => k t15 w) w fun t38 _ =>
  gd t10 false (fun k => k t11 w) w fun t39 _ =>
  gd t10 false (fun k => ixS 1 t38 t39 w k) w fun t40 _ =>
  gd t10 false (fun k => ld1 t40 w k) w fun t41 _ =>
  gd t10 false (fun k => Cl prog 100 #[t37, t41] w k) w fun t42 w =>
  pk t10 (Value.bool true) t42 w fun t43 _ =>
  bi .add .i64 t11 (Value.int IntKind.i64 1) w fun t29 w =>
  g3 [t43, t29] w)
  (bi .neq .i64 t9 t1 w fun t46 w =>
  gd t46 true (fun k => k t10 w) w fun t48 w =>
  pk t46 t48 (Value.bool false) w fun t49 w =>
  iff' t49
  (bsl 3 1 1 (zeroD prog 3) [(0, t9)] w fun t52 w =>
  apS prog #[36, 36] 36 t8 t52 w fun t53 w =>
  k2 t53 w)
  (k2 t8 w))))
  (K t8 w))
theorem pacelineref08_Routes_eq (t0 t1 t2 : Value) (w : World) (K : KV) : pacelineref08_Routes t0 t1 t2 w K = fnW prog 55 [6] (match fn80.body with | some c => c | none => .skip) #[t0, t1, t2] w K := by kernel_rfl
theorem pacelineref08_Routes_ok : fnOk prog 55 [6] (match fn80.body with | some c => c | none => .skip) = true := by kernel_rfl
theorem pacelineref08_Routes_calls {t0 t1 t2 : Value} {w : World} {K : KV} (h : pacelineref08_Routes t0 t1 t2 w K) : Cl prog 80 #[t0, t1, t2] w K :=
  Cl.mk (by kernel_rfl) (calls_of_F (fn := fn80) (nt := 55) (rs := [6]) mixed fnAt80 (by kernel_rfl) (by kernel_rfl) (by kernel_rfl) (Nat.le_of_ble_eq_true (by kernel_rfl)) pacelineref08_Routes_ok (pacelineref08_Routes_eq t0 t1 t2 w K) h)

/-- slices.Clone[[]paceline/api.Msg,paceline/api.Msg] -/
def slices_Clone_api_Msg_api_Msg (t0 : Value) (w : World) (K : KV) : Prop :=
  bO prog .eql 47 (Operand.tmp 3) (Operand.const (Value.slice none 0 0)) t0 (Value.slice none 0 0) w fun t4 w =>
  iff' t4
  (K (Value.slice none 0 0) w)
  (bsl 26 6 0 #[] [] w fun t5 w =>
  apS prog #[47, 47] 47 t5 t0 w fun t7 w =>
  K t7 w)
theorem slices_Clone_api_Msg_api_Msg_eq (t0 : Value) (w : World) (K : KV) : slices_Clone_api_Msg_api_Msg t0 w K = fnW prog 8 [2] (match fn81.body with | some c => c | none => .skip) #[t0] w K := by kernel_rfl
theorem slices_Clone_api_Msg_api_Msg_ok : fnOk prog 8 [2] (match fn81.body with | some c => c | none => .skip) = true := by kernel_rfl
theorem slices_Clone_api_Msg_api_Msg_calls {t0 : Value} {w : World} {K : KV} (h : slices_Clone_api_Msg_api_Msg t0 w K) : Cl prog 81 #[t0] w K :=
  Cl.mk (by kernel_rfl) (calls_of_F (fn := fn81) (nt := 8) (rs := [2]) mixed fnAt81 (by kernel_rfl) (by kernel_rfl) (by kernel_rfl) (Nat.le_of_ble_eq_true (by kernel_rfl)) slices_Clone_api_Msg_api_Msg_ok (slices_Clone_api_Msg_api_Msg_eq t0 w K) h)

/-- (*paceline/prio.Queue).List$1 -/
def prio_Queue_List_1 (t0 t1 : Value) (w : World) (K : KV) : Prop :=
  al (Value.cells t0) 26 w fun t2 w =>
  al (Value.cells t1) 26 w fun t3 w =>
  fld 0 t2 w fun t5 w =>
  ldN 3 t5 w fun t6 w =>
  fld 0 t3 w fun t7 w =>
  ldN 3 t7 w fun t8 w =>
  Cl prog 84 #[t6, t8] w fun t9 w =>
  K t9 w
theorem prio_Queue_List_1_eq (t0 t1 : Value) (w : World) (K : KV) : prio_Queue_List_1 t0 t1 w K = fnW prog 10 [4] (match fn83.body with | some c => c | none => .skip) #[t0, t1] w K := by kernel_rfl
theorem prio_Queue_List_1_ok : fnOk prog 10 [4] (match fn83.body with | some c => c | none => .skip) = true := by kernel_rfl
theorem prio_Queue_List_1_calls {t0 t1 : Value} {w : World} {K : KV} (h : prio_Queue_List_1 t0 t1 w K) : Cl prog 83 #[t0, t1] w K :=
  Cl.mk (by kernel_rfl) (calls_of_F (fn := fn83) (nt := 10) (rs := [4]) mixed fnAt83 (by kernel_rfl) (by kernel_rfl) (by kernel_rfl) (Nat.le_of_ble_eq_true (by kernel_rfl)) prio_Queue_List_1_ok (prio_Queue_List_1_eq t0 t1 w K) h)

end Go.Proofs.YtenglfaeohgkfaaGreat
