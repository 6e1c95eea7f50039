/- Printed by prt.py: the Go functions of this seat as shallow predicate transformers. Conditions: none. -/
import Derived.Test.YtfcnjbannejchaaEngO
import Derived.Test.YtfcnjbannejchaaEngZ
import Derived.Test.YtfcnjbannejchaaPfHead
import Derived.KernelRfl
namespace Go.Proofs.Ytfcnjbannejchaa
open Go Go.E
set_option linter.unusedVariables false
set_option maxRecDepth 100000
/-- slices.IndexFunc[[]paceline/api.Rule,paceline/api.Rule] -/
def slices_IndexFunc_api_Rule_api_Rule (t0 t1 : Value) (w : World) (K : KV) : Prop :=
  lnS t0 w fun t7 w =>
  lp [(Value.int IntKind.i64 0)] w (b1 fun t8 w g1 =>
  bi .lss .i64 t8 t7 w fun t9 w =>
  iff' t9
  (ixS 4 t0 t8 w fun t14 w =>
  ldN 4 t14 w fun t15 w =>
  clV prog t1 #[t15] w fun t16 w =>
  iff' t16
  (K t8 w)
  (bi .add .i64 t8 (Value.int IntKind.i64 1) w fun t18 w =>
  g1 [t18] w))
  (K (Value.int IntKind.i64 (-1)) w))
theorem slices_IndexFunc_api_Rule_api_Rule_eq (t0 t1 : Value) (w : World) (K : KV) : slices_IndexFunc_api_Rule_api_Rule t0 t1 w K = fnW prog 19 [4] (match fn77.body with | some c => c | none => .skip) #[t0, t1] w K := by kernel_rfl
theorem slices_IndexFunc_api_Rule_api_Rule_ok : fnOk prog 19 [4] (match fn77.body with | some c => c | none => .skip) = true := by kernel_rfl
theorem slices_IndexFunc_api_Rule_api_Rule_calls {t0 t1 : Value} {w : World} {K : KV} (h : slices_IndexFunc_api_Rule_api_Rule t0 t1 w K) : Cl prog 77 #[t0, t1] w K :=
  Cl.mk (by kernel_rfl) (calls_of_F (fn := fn77) (nt := 19) (rs := [4]) mixed fnAt77 (by kernel_rfl) (by kernel_rfl) (by kernel_rfl) (Nat.le_of_ble_eq_true (by kernel_rfl)) slices_IndexFunc_api_Rule_api_Rule_ok (slices_IndexFunc_api_Rule_api_Rule_eq t0 t1 w K) h)

/-- paceline/table.Find$1 -/
def table_Find_1 (t0 t1 t2 : Value) (w : World) (K : KV) : Prop :=
  al (Value.cells t0) 55 w fun t3 w =>
  fld 0 t3 w fun t5 w =>
  ld1 t5 w fun t6 w =>
  ld1 t1 w fun t7 w =>
  bi .eql .i64 t6 t7 w fun t8 w =>
  gd t8 true (fun k => fld 1 t3 w k) w fun t10 w =>
  gd t8 true (fun k => ld1 t10 w k) w fun t11 w =>
  gd t8 true (fun k => ld1 t2 w k) w fun t12 w =>
  gd t8 true (fun k => bi .eql .i64 t11 t12 w k) w fun t13 w =>
  pk t8 t13 (Value.bool false) w fun t14 w =>
  K t14 w
theorem table_Find_1_eq (t0 t1 t2 : Value) (w : World) (K : KV) : table_Find_1 t0 t1 t2 w K = fnW prog 15 [4] (match fn78.body with | some c => c | none => .skip) #[t0, t1, t2] w K := by kernel_rfl
theorem table_Find_1_ok : fnOk prog 15 [4] (match fn78.body with | some c => c | none => .skip) = true := by kernel_rfl
theorem table_Find_1_calls {t0 t1 t2 : Value} {w : World} {K : KV} (h : table_Find_1 t0 t1 t2 w K) : Cl prog 78 #[t0, t1, t2] w K :=
  Cl.mk (by kernel_rfl) (calls_of_F (fn := fn78) (nt := 15) (rs := [4]) mixed fnAt78 (by kernel_rfl) (by kernel_rfl) (by kernel_rfl) (Nat.le_of_ble_eq_true (by kernel_rfl)) table_Find_1_ok (table_Find_1_eq t0 t1 t2 w K) h)

/-- paceline/vtime.Add -/
def vtime_Add (t0 t1 : Value) (w : World) (K : KV) : Prop :=
  Cl prog 102 #[t0] w fun t6 w =>
  Cl prog 102 #[t1] w fun t8 w =>
  bi .add .i64 t6 t8 w fun t9 w =>
  Cl prog 102 #[t9] w fun t10 w =>
  K t10 w
theorem vtime_Add_eq (t0 t1 : Value) (w : World) (K : KV) : vtime_Add t0 t1 w K = fnW prog 11 [4] (match fn79.body with | some c => c | none => .skip) #[t0, t1] w K := by kernel_rfl
theorem vtime_Add_ok : fnOk prog 11 [4] (match fn79.body with | some c => c | none => .skip) = true := by kernel_rfl
theorem vtime_Add_calls {t0 t1 : Value} {w : World} {K : KV} (h : vtime_Add t0 t1 w K) : Cl prog 79 #[t0, t1] w K :=
  Cl.mk (by kernel_rfl) (calls_of_F (fn := fn79) (nt := 11) (rs := [4]) mixed fnAt79 (by kernel_rfl) (by kernel_rfl) (by kernel_rfl) (Nat.le_of_ble_eq_true (by kernel_rfl)) vtime_Add_ok (vtime_Add_eq t0 t1 w K) h)

/-- paceline/table.modulo -/
def table_modulo (t0 : Value) (w : World) (K : KV) : Prop :=
  bi .rem .i64 t0 (Value.int IntKind.i64 1000) w fun t4 w =>
  bi .lss .i64 t4 (Value.int IntKind.i64 0) w fun t6 w =>
  J1 (fun t0_1 w =>
  K t0_1 w) fun k1 =>
  iff' t6
  (bi .add .i64 t4 (Value.int IntKind.i64 1000) w fun t8 w =>
  k1 t8 w)
  (k1 t4 w)
theorem table_modulo_eq (t0 : Value) (w : World) (K : KV) : table_modulo t0 w K = fnW prog 10 [2] (match fn80.body with | some c => c | none => .skip) #[t0] w K := by kernel_rfl
theorem table_modulo_ok : fnOk prog 10 [2] (match fn80.body with | some c => c | none => .skip) = true := by kernel_rfl
theorem table_modulo_calls {t0 : Value} {w : World} {K : KV} (h : table_modulo t0 w K) : Cl prog 80 #[t0] w K :=
  Cl.mk (by kernel_rfl) (calls_of_F (fn := fn80) (nt := 10) (rs := [2]) mixed fnAt80 (by kernel_rfl) (by kernel_rfl) (by kernel_rfl) (Nat.le_of_ble_eq_true (by kernel_rfl)) table_modulo_ok (table_modulo_eq t0 w K) h)

/-- slices.ContainsFunc[[]int,int] -/
def slices_ContainsFunc_int_int (t0 t1 : Value) (w : World) (K : KV) : Prop :=
  Cl prog 103 #[t0, t1] w fun t7 w =>
  bi .geq .i64 t7 (Value.int IntKind.i64 0) w fun t8 w =>
  K t8 w
theorem slices_ContainsFunc_int_int_eq (t0 t1 : Value) (w : World) (K : KV) : slices_ContainsFunc_int_int t0 t1 w K = fnW prog 9 [4] (match fn81.body with | some c => c | none => .skip) #[t0, t1] w K := by kernel_rfl
theorem slices_ContainsFunc_int_int_ok : fnOk prog 9 [4] (match fn81.body with | some c => c | none => .skip) = true := by kernel_rfl
theorem slices_ContainsFunc_int_int_calls {t0 t1 : Value} {w : World} {K : KV} (h : slices_ContainsFunc_int_int t0 t1 w K) : Cl prog 81 #[t0, t1] w K :=
  Cl.mk (by kernel_rfl) (calls_of_F (fn := fn81) (nt := 9) (rs := [4]) mixed fnAt81 (by kernel_rfl) (by kernel_rfl) (by kernel_rfl) (Nat.le_of_ble_eq_true (by kernel_rfl)) slices_ContainsFunc_int_int_ok (slices_ContainsFunc_int_int_eq t0 t1 w K) h)

/-- paceline/config.Routes$1 -/
def config_Routes_1 (t0 t1 t2 : Value) (w : World) (K : KV) : Prop :=
  fld 0 t1 w fun t5 w =>
  ld1 t5 w fun t6 w =>
  ld1 t2 w fun t7 w =>
  Cl prog 83 #[t6, t7, t0] w fun t9 w =>
  K t9 w
theorem config_Routes_1_eq (t0 t1 t2 : Value) (w : World) (K : KV) : config_Routes_1 t0 t1 t2 w K = fnW prog 10 [4] (match fn82.body with | some c => c | none => .skip) #[t0, t1, t2] w K := by kernel_rfl
theorem config_Routes_1_ok : fnOk prog 10 [4] (match fn82.body with | some c => c | none => .skip) = true := by kernel_rfl
theorem config_Routes_1_calls {t0 t1 t2 : Value} {w : World} {K : KV} (h : config_Routes_1 t0 t1 t2 w K) : Cl prog 82 #[t0, t1, t2] w K :=
  Cl.mk (by kernel_rfl) (calls_of_F (fn := fn82) (nt := 10) (rs := [4]) mixed fnAt82 (by kernel_rfl) (by kernel_rfl) (by kernel_rfl) (Nat.le_of_ble_eq_true (by kernel_rfl)) config_Routes_1_ok (config_Routes_1_eq t0 t1 t2 w K) h)

/-- paceline/tree.IsA -/
def tree_IsA (t0 t1 t2 : Value) (w : World) (K : KV) : Prop :=
  al (Value.cells t2) 3 w fun t5 w =>
  al (zeroD prog 4) 4 w fun t6 w =>
  Cl prog 104 #[t0, t1] w fun t10 w =>
  rfWC prog t10 1 (fun l a w k =>
  bgn l w fun w =>
  ld1 t5 w fun t13 w =>
  bi .eql .i64 (a 0) t13 w fun t14 w =>
  iff' t14
  (stN 1 t6 (Value.bool true) w fun _ w =>
  edr l w fun w => k (.bool false) w)
  (edn l w fun w => k (.bool true) w)) w
  (fun D w =>
  stN 1 t6 (Value.bool false) w fun _ w =>
  rdef D w fun w =>
  ld1 t6 w fun r0 _ =>
  K r0 w)
  (fun D w =>
  rdef D w fun w =>
  ld1 t6 w fun r0 _ =>
  K r0 w)
theorem tree_IsA_eq (t0 t1 t2 : Value) (w : World) (K : KV) : tree_IsA t0 t1 t2 w K = fnRFCb prog 15 [(6, some 4)] fn83.body #[t0, t1, t2] w K := by kernel_rfl
theorem tree_IsA_ok : fnOkRFCb prog 15 [(6, some 4)] fn83.body = true := by kernel_rfl
theorem tree_IsA_calls {t0 t1 t2 : Value} {w : World} {K : KV} (h : tree_IsA t0 t1 t2 w K) : Cl prog 83 #[t0, t1, t2] w K :=
  Cl.mk (by kernel_rfl) (calls_of_fnRFCb (fn := fn83) (nt := 15) (rs := [(6, some 4)]) mixed fnAt83 (by kernel_rfl) (by kernel_rfl) (Nat.le_of_ble_eq_true (by kernel_rfl)) tree_IsA_ok (tree_IsA_eq t0 t1 t2 w K) h)

/-- paceline/pacelineref07.Sent -/
def pacelineref07_Sent (t0 t1 t2 t3 t4 : Value) (w : World) (K : KV) : Prop :=
  al (Value.cells t4) 63 w fun t9 w =>
  al (zeroD prog 37) 37 w fun t10 w =>
  bi .rem .i64 t3 (Value.int IntKind.i64 1000) w fun t13 w =>
  fld 2 t9 w fun t14 w =>
  ld1 t14 w fun t15 w =>
  bi .rem .i64 t15 (Value.int IntKind.i64 1000) w fun t16 w =>
  bi .add .i64 t13 t16 w fun t17 w =>
  bi .rem .i64 t17 (Value.int IntKind.i64 1000) w fun t18 w =>
  bi .add .i64 t18 (Value.int IntKind.i64 1000) w fun t19 w =>
  dr w fun w =>
  fld 1 t9 w fun t21 _ =>
  ld1 t21 w fun t22 _ =>
  fld 0 t9 w fun t27 _ =>
  ld1 t27 w fun t28 _ =>
  bi .rem .i64 t19 (Value.int IntKind.i64 1000) w fun t30 _ =>
  Cl prog 105 #[t2, t22] w fun t23 w =>
  (ld1 t27 w (fun v' w'' => v' = t28 ∧ w'' = w)) ∧ (bld (zeroD prog 35) #[(0, 1), (1, 1), (2, 1)] [(0, t23), (1, t0), (2, t1)] w fun t26 w =>
  (ld1 t27 w (fun v' w'' => v' = t28 ∧ w'' = w)) ∧ (bld (zeroD prog 37) #[(0, 3), (3, 1), (4, 1), (5, 1)] [(0, t26), (1, (Value.int IntKind.i64 (-1))), (2, t28), (3, t30)] w fun t31 w =>
  stN 6 t10 t31 w fun _ w =>
  ldN 6 t10 w fun r0 _ =>
  K r0 w))
theorem pacelineref07_Sent_eq (t0 t1 t2 t3 t4 : Value) (w : World) (K : KV) : pacelineref07_Sent t0 t1 t2 t3 t4 w K = fnWC prog 32 [(10, some 37)] (match fn84.body with | some c => c | none => .skip) #[t0, t1, t2, t3, t4] w K := by kernel_rfl
theorem pacelineref07_Sent_ok : fnOkC prog 32 [(10, some 37)] (match fn84.body with | some c => c | none => .skip) = true := by kernel_rfl
theorem pacelineref07_Sent_calls {t0 t1 t2 t3 t4 : Value} {w : World} {K : KV} (h : pacelineref07_Sent t0 t1 t2 t3 t4 w K) : Cl prog 84 #[t0, t1, t2, t3, t4] w K :=
  Cl.mk (by kernel_rfl) (calls_of_FC (fn := fn84) (nt := 32) (rs := [(10, some 37)]) mixed fnAt84 (by kernel_rfl) (by kernel_rfl) (by kernel_rfl) (Nat.le_of_ble_eq_true (by kernel_rfl)) pacelineref07_Sent_ok (pacelineref07_Sent_eq t0 t1 t2 t3 t4 w K) h)

/-- paceline/pacelineref08.Routes -/
def pacelineref08_Routes (t0 t1 t2 : Value) (w : World) (K : KV) : Prop :=
  al (Value.cells t0) 25 w fun t3 w =>
  fld 0 t3 w fun t12 w =>
  ld1 t12 w fun t13 w =>
  Cl prog 106 #[t13, t2] w fun t15 w =>
  bsl 3 1 0 #[] [] w fun t16 w =>
  lp [t16, (Value.int IntKind.i64 0)] w (b2 fun t8 t9 w g1 =>
  fld 1 t3 w fun t18 w =>
  ld1 t18 w fun t19 w =>
  lnS t19 w fun t20 w =>
  bi .lss .i64 t9 t20 w fun t21 w =>
  iff' t21
  (J1 (fun t8_1 w =>
  bi .add .i64 t9 (Value.int IntKind.i64 1) w fun t23 w =>
  g1 [t8_1, t23] w) fun k2 =>
  lp [(Value.bool false), (Value.int IntKind.i64 0)] w (b2 fun t10 t11 w g3 =>
  lnS t15 w fun t26 w =>
  bi .lss .i64 t11 t26 w fun t27 w =>
  iff' t27
  (dr w fun w =>
  gd t10 false (fun k => fld 1 t3 w k) w fun t32 _ =>
  gd t10 false (fun k => ld1 t32 w k) w fun t33 _ =>
  gd t10 false (fun k => k t9 w) w fun t34 _ =>
  gd t10 false (fun k => ixS 7 t33 t34 w k) w fun t35 _ =>
  gd t10 false (fun k => fld 5 t35 w k) w fun t36 _ =>
  gd t10 false (fun k => ld1 t36 w k) w fun t37 _ =>
  gd t10 false (fun k => k t15 w) w fun t38 _ =>
  gd t10 false (fun k => k t11 w) w fun t39 _ =>
  gd t10 false (fun k => ixS 1 t38 t39 w k) w fun t40 _ =>
  gd t10 false (fun k => ld1 t40 w k) w fun t41 _ =>
  gd t10 false (fun k => Cl prog 53 #[t37, t41] w k) w fun t42 w =>
  pk t10 (Value.bool true) t42 w fun t43 _ =>
  bi .add .i64 t11 (Value.int IntKind.i64 1) w fun t29 w =>
  g3 [t43, t29] w)
  (bi .neq .i64 t9 t1 w fun t46 w =>
  gd t46 true (fun k => k t10 w) w fun t48 w =>
  pk t46 t48 (Value.bool false) w fun t49 w =>
  iff' t49
  (bsl 3 1 1 (zeroD prog 3) [(0, t9)] w fun t52 w =>
  apS prog #[22, 22] 22 t8 t52 w fun t53 w =>
  k2 t53 w)
  (k2 t8 w))))
  (K t8 w))
theorem pacelineref08_Routes_eq (t0 t1 t2 : Value) (w : World) (K : KV) : pacelineref08_Routes t0 t1 t2 w K = fnW prog 55 [6] (match fn85.body with | some c => c | none => .skip) #[t0, t1, t2] w K := by kernel_rfl
theorem pacelineref08_Routes_ok : fnOk prog 55 [6] (match fn85.body with | some c => c | none => .skip) = true := by kernel_rfl
theorem pacelineref08_Routes_calls {t0 t1 t2 : Value} {w : World} {K : KV} (h : pacelineref08_Routes t0 t1 t2 w K) : Cl prog 85 #[t0, t1, t2] w K :=
  Cl.mk (by kernel_rfl) (calls_of_F (fn := fn85) (nt := 55) (rs := [6]) mixed fnAt85 (by kernel_rfl) (by kernel_rfl) (by kernel_rfl) (Nat.le_of_ble_eq_true (by kernel_rfl)) pacelineref08_Routes_ok (pacelineref08_Routes_eq t0 t1 t2 w K) h)

/-- cmp.isNaN[int] -/
def cmp_isNaN_int (t0 : Value) (w : World) (K : KV) : Prop :=
  bi .neq .i64 t0 t0 w fun t5 w =>
  K t5 w
theorem cmp_isNaN_int_eq (t0 : Value) (w : World) (K : KV) : cmp_isNaN_int t0 w K = fnW prog 6 [2] (match fn96.body with | some c => c | none => .skip) #[t0] w K := by kernel_rfl
theorem cmp_isNaN_int_ok : fnOk prog 6 [2] (match fn96.body with | some c => c | none => .skip) = true := by kernel_rfl
theorem cmp_isNaN_int_calls {t0 : Value} {w : World} {K : KV} (h : cmp_isNaN_int t0 w K) : Cl prog 96 #[t0] w K :=
  Cl.mk (by kernel_rfl) (calls_of_F (fn := fn96) (nt := 6) (rs := [2]) mixed fnAt96 (by kernel_rfl) (by kernel_rfl) (by kernel_rfl) (Nat.le_of_ble_eq_true (by kernel_rfl)) cmp_isNaN_int_ok (cmp_isNaN_int_eq t0 w K) h)

/-- slices.Index[[]int,int] -/
def slices_Index_int_int (t0 t1 : Value) (w : World) (K : KV) : Prop :=
  lnS t0 w fun t7 w =>
  lp [(Value.int IntKind.i64 0)] w (b1 fun t8 w g1 =>
  bi .lss .i64 t8 t7 w fun t9 w =>
  iff' t9
  (ixS 1 t0 t8 w fun t14 w =>
  ld1 t14 w fun t15 w =>
  bi .eql .i64 t1 t15 w fun t16 w =>
  iff' t16
  (K t8 w)
  (bi .add .i64 t8 (Value.int IntKind.i64 1) w fun t18 w =>
  g1 [t18] w))
  (K (Value.int IntKind.i64 (-1)) w))
theorem slices_Index_int_int_eq (t0 t1 : Value) (w : World) (K : KV) : slices_Index_int_int t0 t1 w K = fnW prog 19 [4] (match fn97.body with | some c => c | none => .skip) #[t0, t1] w K := by kernel_rfl
theorem slices_Index_int_int_ok : fnOk prog 19 [4] (match fn97.body with | some c => c | none => .skip) = true := by kernel_rfl
theorem slices_Index_int_int_calls {t0 t1 : Value} {w : World} {K : KV} (h : slices_Index_int_int t0 t1 w K) : Cl prog 97 #[t0, t1] w K :=
  Cl.mk (by kernel_rfl) (calls_of_F (fn := fn97) (nt := 19) (rs := [4]) mixed fnAt97 (by kernel_rfl) (by kernel_rfl) (by kernel_rfl) (Nat.le_of_ble_eq_true (by kernel_rfl)) slices_Index_int_int_ok (slices_Index_int_int_eq t0 t1 w K) h)

/-- paceline/table.Check$1 -/
def table_Check_1 (t0 : Value) (w : World) (K : KV) : Prop :=
  al (Value.cells t0) 63 w fun t1 w =>
  fld 0 t1 w fun t3 w =>
  ld1 t3 w fun t4 w =>
  Cl prog 99 #[t4, (Value.int IntKind.i64 16)] w fun t5 w =>
  bnot t5 w fun t6 w =>
  gd t6 false (fun k => fld 1 t1 w k) w fun t8 w =>
  gd t6 false (fun k => ld1 t8 w k) w fun t9 w =>
  gd t6 false (fun k => Cl prog 99 #[t9, (Value.int IntKind.i64 1048577)] w k) w fun t10 w =>
  gd t6 false (fun k => bnot t10 w k) w fun t11 w =>
  pk t6 (Value.bool true) t11 w fun t12 w =>
  gd t12 false (fun k => fld 2 t1 w k) w fun t14 w =>
  gd t12 false (fun k => ld1 t14 w k) w fun t15 w =>
  gd t12 false (fun k => Cl prog 99 #[t15, (Value.int IntKind.i64 1000)] w k) w fun t16 w =>
  gd t12 false (fun k => bnot t16 w k) w fun t17 w =>
  pk t12 (Value.bool true) t17 w fun t18 w =>
  K t18 w
theorem table_Check_1_eq (t0 : Value) (w : World) (K : KV) : table_Check_1 t0 w K = fnW prog 19 [2] (match fn98.body with | some c => c | none => .skip) #[t0] w K := by kernel_rfl
theorem table_Check_1_ok : fnOk prog 19 [2] (match fn98.body with | some c => c | none => .skip) = true := by kernel_rfl
theorem table_Check_1_calls {t0 : Value} {w : World} {K : KV} (h : table_Check_1 t0 w K) : Cl prog 98 #[t0] w K :=
  Cl.mk (by kernel_rfl) (calls_of_F (fn := fn98) (nt := 19) (rs := [2]) mixed fnAt98 (by kernel_rfl) (by kernel_rfl) (by kernel_rfl) (Nat.le_of_ble_eq_true (by kernel_rfl)) table_Check_1_ok (table_Check_1_eq t0 w K) h)

/-- paceline/table.below -/
def table_below (t0 t1 : Value) (w : World) (K : KV) : Prop :=
  cvI .u64 t0 w fun t6 w =>
  cvI .u64 t1 w fun t8 w =>
  bi .lss .u64 t6 t8 w fun t9 w =>
  K t9 w
theorem table_below_eq (t0 t1 : Value) (w : World) (K : KV) : table_below t0 t1 w K = fnW prog 10 [4] (match fn99.body with | some c => c | none => .skip) #[t0, t1] w K := by kernel_rfl
theorem table_below_ok : fnOk prog 10 [4] (match fn99.body with | some c => c | none => .skip) = true := by kernel_rfl
theorem table_below_calls {t0 t1 : Value} {w : World} {K : KV} (h : table_below t0 t1 w K) : Cl prog 99 #[t0, t1] w K :=
  Cl.mk (by kernel_rfl) (calls_of_F (fn := fn99) (nt := 10) (rs := [4]) mixed fnAt99 (by kernel_rfl) (by kernel_rfl) (by kernel_rfl) (Nat.le_of_ble_eq_true (by kernel_rfl)) table_below_ok (table_below_eq t0 t1 w K) h)

/-- slices.IndexFunc[[]paceline/api.Out,paceline/api.Out] -/
def slices_IndexFunc_api_Out_api_Out (t0 t1 : Value) (w : World) (K : KV) : Prop :=
  lnS t0 w fun t7 w =>
  lp [(Value.int IntKind.i64 0)] w (b1 fun t8 w g1 =>
  bi .lss .i64 t8 t7 w fun t9 w =>
  iff' t9
  (ixS 3 t0 t8 w fun t14 w =>
  ldN 3 t14 w fun t15 w =>
  clV prog t1 #[t15] w fun t16 w =>
  iff' t16
  (K t8 w)
  (bi .add .i64 t8 (Value.int IntKind.i64 1) w fun t18 w =>
  g1 [t18] w))
  (K (Value.int IntKind.i64 (-1)) w))
theorem slices_IndexFunc_api_Out_api_Out_eq (t0 t1 : Value) (w : World) (K : KV) : slices_IndexFunc_api_Out_api_Out t0 t1 w K = fnW prog 19 [4] (match fn100.body with | some c => c | none => .skip) #[t0, t1] w K := by kernel_rfl
theorem slices_IndexFunc_api_Out_api_Out_ok : fnOk prog 19 [4] (match fn100.body with | some c => c | none => .skip) = true := by kernel_rfl
theorem slices_IndexFunc_api_Out_api_Out_calls {t0 t1 : Value} {w : World} {K : KV} (h : slices_IndexFunc_api_Out_api_Out t0 t1 w K) : Cl prog 100 #[t0, t1] w K :=
  Cl.mk (by kernel_rfl) (calls_of_F (fn := fn100) (nt := 19) (rs := [4]) mixed fnAt100 (by kernel_rfl) (by kernel_rfl) (by kernel_rfl) (Nat.le_of_ble_eq_true (by kernel_rfl)) slices_IndexFunc_api_Out_api_Out_ok (slices_IndexFunc_api_Out_api_Out_eq t0 t1 w K) h)

/-- paceline/pacelineref07.in -/
def pacelineref07_in (t0 t1 : Value) (w : World) (K : KV) : Prop :=
  bi .geq .i64 t0 (Value.int IntKind.i64 0) w fun t6 w =>
  gd t6 true (fun k => k t0 w) w fun t8 w =>
  gd t6 true (fun k => k t1 w) w fun t9 w =>
  gd t6 true (fun k => bi .lss .i64 t8 t9 w k) w fun t10 w =>
  pk t6 t10 (Value.bool false) w fun t11 w =>
  K t11 w
theorem pacelineref07_in_eq (t0 t1 : Value) (w : World) (K : KV) : pacelineref07_in t0 t1 w K = fnW prog 12 [4] (match fn101.body with | some c => c | none => .skip) #[t0, t1] w K := by kernel_rfl
theorem pacelineref07_in_ok : fnOk prog 12 [4] (match fn101.body with | some c => c | none => .skip) = true := by kernel_rfl
theorem pacelineref07_in_calls {t0 t1 : Value} {w : World} {K : KV} (h : pacelineref07_in t0 t1 w K) : Cl prog 101 #[t0, t1] w K :=
  Cl.mk (by kernel_rfl) (calls_of_F (fn := fn101) (nt := 12) (rs := [4]) mixed fnAt101 (by kernel_rfl) (by kernel_rfl) (by kernel_rfl) (Nat.le_of_ble_eq_true (by kernel_rfl)) pacelineref07_in_ok (pacelineref07_in_eq t0 t1 w K) h)

/-- paceline/vtime.clamp -/
def vtime_clamp (t0 : Value) (w : World) (K : KV) : Prop :=
  bi .lss .i64 t0 (Value.int IntKind.i64 0) w fun t5 w =>
  iff' t5
  (K (Value.int IntKind.i64 0) w)
  (bi .gtr .i64 t0 (Value.int IntKind.i64 1099511627776) w fun t8 w =>
  iff' t8
  (K (Value.int IntKind.i64 1125899906842624) w)
  (K t0 w))
theorem vtime_clamp_eq (t0 : Value) (w : World) (K : KV) : vtime_clamp t0 w K = fnW prog 10 [2] (match fn102.body with | some c => c | none => .skip) #[t0] w K := by kernel_rfl
theorem vtime_clamp_ok : fnOk prog 10 [2] (match fn102.body with | some c => c | none => .skip) = true := by kernel_rfl
theorem vtime_clamp_calls {t0 : Value} {w : World} {K : KV} (h : vtime_clamp t0 w K) : Cl prog 102 #[t0] w K :=
  Cl.mk (by kernel_rfl) (calls_of_F (fn := fn102) (nt := 10) (rs := [2]) mixed fnAt102 (by kernel_rfl) (by kernel_rfl) (by kernel_rfl) (Nat.le_of_ble_eq_true (by kernel_rfl)) vtime_clamp_ok (vtime_clamp_eq t0 w K) h)

/-- slices.IndexFunc[[]int,int] -/
def slices_IndexFunc_int_int (t0 t1 : Value) (w : World) (K : KV) : Prop :=
  lnS t0 w fun t7 w =>
  lp [(Value.int IntKind.i64 0)] w (b1 fun t8 w g1 =>
  bi .lss .i64 t8 t7 w fun t9 w =>
  iff' t9
  (ixS 1 t0 t8 w fun t14 w =>
  ld1 t14 w fun t15 w =>
  clV prog t1 #[t15] w fun t16 w =>
  iff' t16
  (K t8 w)
  (bi .add .i64 t8 (Value.int IntKind.i64 1) w fun t18 w =>
  g1 [t18] w))
  (K (Value.int IntKind.i64 (-1)) w))
theorem slices_IndexFunc_int_int_eq (t0 t1 : Value) (w : World) (K : KV) : slices_IndexFunc_int_int t0 t1 w K = fnW prog 19 [4] (match fn103.body with | some c => c | none => .skip) #[t0, t1] w K := by kernel_rfl
theorem slices_IndexFunc_int_int_ok : fnOk prog 19 [4] (match fn103.body with | some c => c | none => .skip) = true := by kernel_rfl
theorem slices_IndexFunc_int_int_calls {t0 t1 : Value} {w : World} {K : KV} (h : slices_IndexFunc_int_int t0 t1 w K) : Cl prog 103 #[t0, t1] w K :=
  Cl.mk (by kernel_rfl) (calls_of_F (fn := fn103) (nt := 19) (rs := [4]) mixed fnAt103 (by kernel_rfl) (by kernel_rfl) (by kernel_rfl) (Nat.le_of_ble_eq_true (by kernel_rfl)) slices_IndexFunc_int_int_ok (slices_IndexFunc_int_int_eq t0 t1 w K) h)

/-- paceline/tree.up -/
def tree_up (t0 t1 : Value) (w : World) (K : KV) : Prop :=
  al (Value.cells t0) 22 w fun t2 w =>
  al (Value.cells t1) 3 w fun t3 w =>
  K (Value.func (Fn.func 112) #[] #[t3, t2]) w
theorem tree_up_eq (t0 t1 : Value) (w : World) (K : KV) : tree_up t0 t1 w K = fnW prog 6 [4] (match fn104.body with | some c => c | none => .skip) #[t0, t1] w K := by kernel_rfl
theorem tree_up_ok : fnOk prog 6 [4] (match fn104.body with | some c => c | none => .skip) = true := by kernel_rfl
theorem tree_up_calls {t0 t1 : Value} {w : World} {K : KV} (h : tree_up t0 t1 w K) : Cl prog 104 #[t0, t1] w K :=
  Cl.mk (by kernel_rfl) (calls_of_F (fn := fn104) (nt := 6) (rs := [4]) mixed fnAt104 (by kernel_rfl) (by kernel_rfl) (by kernel_rfl) (Nat.le_of_ble_eq_true (by kernel_rfl)) tree_up_ok (tree_up_eq t0 t1 w K) h)

/-- paceline/pacelineref01.Add -/
def pacelineref01_Add (t0 t1 : Value) (w : World) (K : KV) : Prop :=
  Cl prog 113 #[t0] w fun t6 w =>
  Cl prog 113 #[t1] w fun t8 w =>
  bi .eql .i64 t6 (Value.int IntKind.i64 1125899906842624) w fun t10 w =>
  gd t10 false (fun k => k t8 w) w fun t12 w =>
  gd t10 false (fun k => bi .eql .i64 t12 (Value.int IntKind.i64 1125899906842624) w k) w fun t13 w =>
  pk t10 (Value.bool true) t13 w fun t14 w =>
  iff' t14
  (K (Value.int IntKind.i64 1125899906842624) w)
  (bi .add .i64 t6 t8 w fun t17 w =>
  Cl prog 113 #[t17] w fun t18 w =>
  K t18 w)
theorem pacelineref01_Add_eq (t0 t1 : Value) (w : World) (K : KV) : pacelineref01_Add t0 t1 w K = fnW prog 19 [4] (match fn105.body with | some c => c | none => .skip) #[t0, t1] w K := by kernel_rfl
theorem pacelineref01_Add_ok : fnOk prog 19 [4] (match fn105.body with | some c => c | none => .skip) = true := by kernel_rfl
theorem pacelineref01_Add_calls {t0 t1 : Value} {w : World} {K : KV} (h : pacelineref01_Add t0 t1 w K) : Cl prog 105 #[t0, t1] w K :=
  Cl.mk (by kernel_rfl) (calls_of_F (fn := fn105) (nt := 19) (rs := [4]) mixed fnAt105 (by kernel_rfl) (by kernel_rfl) (by kernel_rfl) (Nat.le_of_ble_eq_true (by kernel_rfl)) pacelineref01_Add_ok (pacelineref01_Add_eq t0 t1 w K) h)

/-- paceline/pacelineref05.Above -/
def pacelineref05_Above (t0 t1 : Value) (w : World) (K : KV) : Prop :=
  bsl 3 1 0 #[] [] w fun t6 w =>
  Cl prog 28 #[t0] w fun t8 w =>
  bi .neq .i64 t8 (Value.int IntKind.i64 0) w fun t9 w =>
  gd t9 false (fun k => k t1 w) w fun t11 w =>
  gd t9 false (fun k => bi .lss .i64 t11 (Value.int IntKind.i64 0) w k) w fun t12 w =>
  pk t9 (Value.bool true) t12 w fun t13 w =>
  gd t13 false (fun k => k t1 w) w fun t15 w =>
  gd t13 false (fun k => k t0 w) w fun t16 w =>
  gd t13 false (fun k => lnS t16 w k) w fun t17 w =>
  gd t13 false (fun k => bi .geq .i64 t15 t17 w k) w fun t18 w =>
  pk t13 (Value.bool true) t18 w fun t19 w =>
  iff' t19
  (K t6 w)
  (lp [t1, t6] w (b2 fun t1_1 t5 w g1 =>
  bi .geq .i64 t1_1 (Value.int IntKind.i64 0) w fun t22 w =>
  iff' t22
  (bsl 3 1 1 (zeroD prog 3) [(0, t1_1)] w fun t25 w =>
  apS prog #[22, 22] 22 t5 t25 w fun t26 w =>
  ixS 1 t0 t1_1 w fun t29 w =>
  ld1 t29 w fun t30 w =>
  g1 [t30, t26] w)
  (K t5 w)))
theorem pacelineref05_Above_eq (t0 t1 : Value) (w : World) (K : KV) : pacelineref05_Above t0 t1 w K = fnW prog 32 [4] (match fn106.body with | some c => c | none => .skip) #[t0, t1] w K := by kernel_rfl
theorem pacelineref05_Above_ok : fnOk prog 32 [4] (match fn106.body with | some c => c | none => .skip) = true := by kernel_rfl
theorem pacelineref05_Above_calls {t0 t1 : Value} {w : World} {K : KV} (h : pacelineref05_Above t0 t1 w K) : Cl prog 106 #[t0, t1] w K :=
  Cl.mk (by kernel_rfl) (calls_of_F (fn := fn106) (nt := 32) (rs := [4]) mixed fnAt106 (by kernel_rfl) (by kernel_rfl) (by kernel_rfl) (Nat.le_of_ble_eq_true (by kernel_rfl)) pacelineref05_Above_ok (pacelineref05_Above_eq t0 t1 w K) h)

/-- paceline/tree.up$1 -/
def tree_up_1 (t0 t1 t2 : Value) (w : World) (K : KV) : Prop :=
  ld1 t1 w fun t4 w =>
  ld1 t2 w fun t5 w =>
  lnS t5 w fun t6 w =>
  bi .geq .i64 t4 t6 w fun t7 w =>
  gd t7 false (fun k => ld1 t2 w k) w fun t9 w =>
  gd t7 false (fun k => Cl prog 42 #[t9] w k) w fun t10 w =>
  gd t7 false (fun k => bi .neq .i64 t10 (Value.int IntKind.i64 0) w k) w fun t11 w =>
  pk t7 (Value.bool true) t11 w fun t12 w =>
  iff' t12
  (K (Value.tuple #[]) w)
  (lp [] w (b0 fun w g1 =>
  ld1 t1 w fun t13 w =>
  bi .geq .i64 t13 (Value.int IntKind.i64 0) w fun t14 w =>
  iff' t14
  (ld1 t1 w fun t20 w =>
  clV prog t0 #[t20] w fun t21 w =>
  bnot t21 w fun t22 w =>
  iff' t22
  (K (Value.tuple #[]) w)
  (ld1 t2 w fun t15 w =>
  ld1 t1 w fun t16 w =>
  ixS 1 t15 t16 w fun t17 w =>
  ld1 t17 w fun t18 w =>
  stN 1 t1 t18 w fun _ w =>
  g1 [] w))
  (K (Value.tuple #[]) w)))
theorem tree_up_1_eq (t0 t1 t2 : Value) (w : World) (K : KV) : tree_up_1 t0 t1 t2 w K = fnW prog 23 [] (match fn112.body with | some c => c | none => .skip) #[t0, t1, t2] w K := by kernel_rfl
theorem tree_up_1_ok : fnOk prog 23 [] (match fn112.body with | some c => c | none => .skip) = true := by kernel_rfl
theorem tree_up_1_calls {t0 t1 t2 : Value} {w : World} {K : KV} (h : tree_up_1 t0 t1 t2 w K) : Cl prog 112 #[t0, t1, t2] w K :=
  Cl.mk (by kernel_rfl) (calls_of_F (fn := fn112) (nt := 23) (rs := []) mixed fnAt112 (by kernel_rfl) (by kernel_rfl) (by kernel_rfl) (Nat.le_of_ble_eq_true (by kernel_rfl)) tree_up_1_ok (tree_up_1_eq t0 t1 t2 w K) h)

/-- paceline/pacelineref01.time -/
def pacelineref01_time (t0 : Value) (w : World) (K : KV) : Prop :=
  bi .lss .i64 t0 (Value.int IntKind.i64 0) w fun t4 w =>
  iff' t4
  (K (Value.int IntKind.i64 0) w)
  (bi .gtr .i64 t0 (Value.int IntKind.i64 1099511627776) w fun t6 w =>
  iff' t6
  (K (Value.int IntKind.i64 1125899906842624) w)
  (K t0 w))
theorem pacelineref01_time_eq (t0 : Value) (w : World) (K : KV) : pacelineref01_time t0 w K = fnW prog 8 [2] (match fn113.body with | some c => c | none => .skip) #[t0] w K := by kernel_rfl
theorem pacelineref01_time_ok : fnOk prog 8 [2] (match fn113.body with | some c => c | none => .skip) = true := by kernel_rfl
theorem pacelineref01_time_calls {t0 : Value} {w : World} {K : KV} (h : pacelineref01_time t0 w K) : Cl prog 113 #[t0] w K :=
  Cl.mk (by kernel_rfl) (calls_of_F (fn := fn113) (nt := 8) (rs := [2]) mixed fnAt113 (by kernel_rfl) (by kernel_rfl) (by kernel_rfl) (Nat.le_of_ble_eq_true (by kernel_rfl)) pacelineref01_time_ok (pacelineref01_time_eq t0 w K) h)

/-- (paceline/solo.waiting).Len -/
def solo_waiting_Len (t0 : Value) (w : World) (K : KV) : Prop :=
  lnS t0 w fun t4 w =>
  K t4 w
theorem solo_waiting_Len_eq (t0 : Value) (w : World) (K : KV) : solo_waiting_Len t0 w K = fnW prog 5 [2] (match fn132.body with | some c => c | none => .skip) #[t0] w K := by kernel_rfl
theorem solo_waiting_Len_ok : fnOk prog 5 [2] (match fn132.body with | some c => c | none => .skip) = true := by kernel_rfl
theorem solo_waiting_Len_calls {t0 : Value} {w : World} {K : KV} (h : solo_waiting_Len t0 w K) : Cl prog 132 #[t0] w K :=
  Cl.mk (by kernel_rfl) (calls_of_F (fn := fn132) (nt := 5) (rs := [2]) mixed fnAt132 (by kernel_rfl) (by kernel_rfl) (by kernel_rfl) (Nat.le_of_ble_eq_true (by kernel_rfl)) solo_waiting_Len_ok (solo_waiting_Len_eq t0 w K) h)

/-- (paceline/solo.waiting).Less -/
def solo_waiting_Less (t0 t1 t2 : Value) (w : World) (K : KV) : Prop :=
  dr w fun w =>
  ixS 6 t0 t1 w fun t9 _ =>
  ldN 6 t9 w fun t10 _ =>
  ixS 6 t0 t2 w fun t13 _ =>
  ldN 6 t13 w fun t14 _ =>
  Cl prog 39 #[t10, t14] w fun t15 w =>
  bi .lss .i64 t15 (Value.int IntKind.i64 0) w fun t16 _ =>
  K t16 w
theorem solo_waiting_Less_eq (t0 t1 t2 : Value) (w : World) (K : KV) : solo_waiting_Less t0 t1 t2 w K = fnW prog 17 [6] (match fn133.body with | some c => c | none => .skip) #[t0, t1, t2] w K := by kernel_rfl
theorem solo_waiting_Less_ok : fnOk prog 17 [6] (match fn133.body with | some c => c | none => .skip) = true := by kernel_rfl
theorem solo_waiting_Less_calls {t0 t1 t2 : Value} {w : World} {K : KV} (h : solo_waiting_Less t0 t1 t2 w K) : Cl prog 133 #[t0, t1, t2] w K :=
  Cl.mk (by kernel_rfl) (calls_of_F (fn := fn133) (nt := 17) (rs := [6]) mixed fnAt133 (by kernel_rfl) (by kernel_rfl) (by kernel_rfl) (Nat.le_of_ble_eq_true (by kernel_rfl)) solo_waiting_Less_ok (solo_waiting_Less_eq t0 t1 t2 w K) h)

end Go.Proofs.Ytfcnjbannejchaa
