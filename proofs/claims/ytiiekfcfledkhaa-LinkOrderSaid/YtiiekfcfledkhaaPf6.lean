/- Printed by prt.py: the Go functions of this seat as shallow predicate transformers. Conditions: none. -/
import Derived.Test.YtiiekfcfledkhaaEngO
import Derived.Test.YtiiekfcfledkhaaPfHead
import Derived.KernelRfl
namespace Go.Proofs.Ytiiekfcfledkhaa
open Go Go.E
/-- paceline/pacelineref11.New -/
def pacelineref11_New (t0 t1 : Value) (w : World) (K : KV) : Prop :=
  bi .lss .i64 t0 (Value.int IntKind.i64 1) w fun t7 w =>
  gd t7 false (fun k => k t0 w) w fun t9 w =>
  gd t7 false (fun k => bi .gtr .i64 t9 (Value.int IntKind.i64 8) w k) w fun t10 w =>
  pk t7 (Value.bool true) t10 w fun t11 w =>
  gd t11 false (fun k => k t1 w) w fun t13 w =>
  gd t11 false (fun k => bi .lss .i64 t13 (Value.int IntKind.i64 0) w k) w fun t14 w =>
  pk t11 (Value.bool true) t14 w fun t15 w =>
  gd t15 false (fun k => k t1 w) w fun t17 w =>
  gd t15 false (fun k => k t0 w) w fun t18 w =>
  gd t15 false (fun k => bi .geq .i64 t17 t18 w k) w fun t19 w =>
  pk t15 (Value.bool true) t19 w fun t20 w =>
  iff' t20
  (K (Value.tuple #[(Value.pointer none), (Value.int IntKind.i64 1)]) w)
  (mkS prog 65 t0 t0 w fun t22 w =>
  bld (zeroD prog 125) #[(0, 1), (1, 1), (2, 1)] [(0, t22), (1, t1)] w fun t24 w =>
  al (Value.cells t24) 125 w fun t25 w =>
  K (Value.tuple #[t25, (Value.int IntKind.i64 0)]) w)
theorem pacelineref11_New_eq (t0 t1 : Value) (w : World) (K : KV) : pacelineref11_New t0 t1 w K = fnW prog 26 [4, 5] (match fn39.body with | some c => c | none => .skip) #[t0, t1] w K := by kernel_rfl
theorem pacelineref11_New_ok : fnOk prog 26 [4, 5] (match fn39.body with | some c => c | none => .skip) = true := by kernel_rfl
theorem pacelineref11_New_calls {t0 t1 : Value} {w : World} {K : KV} (h : pacelineref11_New t0 t1 w K) : Cl prog 39 #[t0, t1] w K :=
  ⟨by kernel_rfl, calls_of_F (fn := fn39) (nt := 26) (rs := [4, 5]) mixed fnAt39 (by kernel_rfl) (by kernel_rfl) (by kernel_rfl) (Nat.le_of_ble_eq_true (by kernel_rfl)) pacelineref11_New_ok (pacelineref11_New_eq t0 t1 w K) h⟩

/-- (*paceline/pacelineref11.Clocks).Hear -/
def pacelineref11_Clocks_Hear (t0 t1 t2 : Value) (w : World) (K : KV) : Prop :=
  bi .lss .i64 t1 (Value.int IntKind.i64 0) w fun t8 w =>
  gd t8 false (fun k => k t1 w) w fun t10 w =>
  gd t8 false (fun k => k t0 w) w fun t11 w =>
  gd t8 false (fun k => nc t11 w k) w fun t12 w =>
  gd t8 false (fun k => fld 0 t12 w k) w fun t13 w =>
  gd t8 false (fun k => ld1 t13 w k) w fun t14 w =>
  gd t8 false (fun k => lnS t14 w k) w fun t15 w =>
  gd t8 false (fun k => bi .geq .i64 t10 t15 w k) w fun t16 w =>
  pk t8 (Value.bool true) t16 w fun t17 w =>
  gd t17 false (fun k => k t1 w) w fun t19 w =>
  gd t17 false (fun k => k t0 w) w fun t20 w =>
  gd t17 false (fun k => nc t20 w k) w fun t21 w =>
  gd t17 false (fun k => fld 1 t21 w k) w fun t22 w =>
  gd t17 false (fun k => ld1 t22 w k) w fun t23 w =>
  gd t17 false (fun k => bi .eql .i64 t19 t23 w k) w fun t24 w =>
  pk t17 (Value.bool true) t24 w fun t25 w =>
  gd t25 false (fun k => k t2 w) w fun t27 w =>
  gd t25 false (fun k => Cl prog 63 #[t27] w k) w fun t28 w =>
  gd t25 false (fun k => bnot t28 w k) w fun t29 w =>
  pk t25 (Value.bool true) t29 w fun t30 w =>
  iff' t30
  (K (Value.int IntKind.i64 1) w)
  (ncP t0 <|
  fld 0 t0 w fun t34 w =>
  ld1 t34 w fun t35 w =>
  ixS 1 t35 t1 w fun t37 w =>
  ld1 t37 w fun t38 w =>
  bi .lss .i64 t2 t38 w fun t39 w =>
  iff' t39
  (K (Value.int IntKind.i64 110) w)
  (ncP t0 <|
  fld 0 t0 w fun t42 w =>
  ld1 t42 w fun t43 w =>
  ixS 1 t43 t1 w fun t46 w =>
  stN 1 t46 t2 w fun _ w =>
  K (Value.int IntKind.i64 0) w))
theorem pacelineref11_Clocks_Hear_eq (t0 t1 t2 : Value) (w : World) (K : KV) : pacelineref11_Clocks_Hear t0 t1 t2 w K = fnW prog 47 [6] (match fn40.body with | some c => c | none => .skip) #[t0, t1, t2] w K := by kernel_rfl
theorem pacelineref11_Clocks_Hear_ok : fnOk prog 47 [6] (match fn40.body with | some c => c | none => .skip) = true := by kernel_rfl
theorem pacelineref11_Clocks_Hear_calls {t0 t1 t2 : Value} {w : World} {K : KV} (h : pacelineref11_Clocks_Hear t0 t1 t2 w K) : Cl prog 40 #[t0, t1, t2] w K :=
  ⟨by kernel_rfl, calls_of_F (fn := fn40) (nt := 47) (rs := [6]) mixed fnAt40 (by kernel_rfl) (by kernel_rfl) (by kernel_rfl) (Nat.le_of_ble_eq_true (by kernel_rfl)) pacelineref11_Clocks_Hear_ok (pacelineref11_Clocks_Hear_eq t0 t1 t2 w K) h⟩

/-- (*paceline/pacelineref11.Clocks).Tell -/
def pacelineref11_Clocks_Tell (t0 t1 t2 : Value) (w : World) (K : KV) : Prop :=
  Cl prog 43 #[t0] w fun t12 w =>
  bsl 3 1 2 (zeroD prog 3) [(0, t1), (1, t12)] w fun t13 w =>
  Cl prog 65 #[t13] w fun t15 w =>
  Cl prog 64 #[t15, t2] w fun t17 w =>
  ncP t0 <|
  fld 2 t0 w fun t21 w =>
  ld1 t21 w fun t22 w =>
  bi .leq .i64 t17 t22 w fun t23 w =>
  iff' t23
  (ncP t0 <|
  fld 2 t0 w fun t26 w =>
  ld1 t26 w fun t27 w =>
  K (Value.tuple #[t27, (Value.bool false)]) w)
  (ncP t0 <|
  fld 2 t0 w fun t31 w =>
  stN 1 t31 t17 w fun _ w =>
  K (Value.tuple #[t17, (Value.bool true)]) w)
theorem pacelineref11_Clocks_Tell_eq (t0 t1 t2 : Value) (w : World) (K : KV) : pacelineref11_Clocks_Tell t0 t1 t2 w K = fnW prog 33 [6, 7] (match fn41.body with | some c => c | none => .skip) #[t0, t1, t2] w K := by kernel_rfl
theorem pacelineref11_Clocks_Tell_ok : fnOk prog 33 [6, 7] (match fn41.body with | some c => c | none => .skip) = true := by kernel_rfl
theorem pacelineref11_Clocks_Tell_calls {t0 t1 t2 : Value} {w : World} {K : KV} (h : pacelineref11_Clocks_Tell t0 t1 t2 w K) : Cl prog 41 #[t0, t1, t2] w K :=
  ⟨by kernel_rfl, calls_of_F (fn := fn41) (nt := 33) (rs := [6, 7]) mixed fnAt41 (by kernel_rfl) (by kernel_rfl) (by kernel_rfl) (Nat.le_of_ble_eq_true (by kernel_rfl)) pacelineref11_Clocks_Tell_ok (pacelineref11_Clocks_Tell_eq t0 t1 t2 w K) h⟩

/-- (*paceline/pacelineref11.Clocks).At -/
def pacelineref11_Clocks_At (t0 t1 : Value) (w : World) (K : KV) : Prop :=
  bi .lss .i64 t1 (Value.int IntKind.i64 0) w fun t6 w =>
  gd t6 false (fun k => k t1 w) w fun t8 w =>
  gd t6 false (fun k => k t0 w) w fun t9 w =>
  gd t6 false (fun k => nc t9 w k) w fun t10 w =>
  gd t6 false (fun k => fld 0 t10 w k) w fun t11 w =>
  gd t6 false (fun k => ld1 t11 w k) w fun t12 w =>
  gd t6 false (fun k => lnS t12 w k) w fun t13 w =>
  gd t6 false (fun k => bi .geq .i64 t8 t13 w k) w fun t14 w =>
  pk t6 (Value.bool true) t14 w fun t15 w =>
  gd t15 false (fun k => k t1 w) w fun t17 w =>
  gd t15 false (fun k => k t0 w) w fun t18 w =>
  gd t15 false (fun k => nc t18 w k) w fun t19 w =>
  gd t15 false (fun k => fld 1 t19 w k) w fun t20 w =>
  gd t15 false (fun k => ld1 t20 w k) w fun t21 w =>
  gd t15 false (fun k => bi .eql .i64 t17 t21 w k) w fun t22 w =>
  pk t15 (Value.bool true) t22 w fun t23 w =>
  iff' t23
  (K (Value.int IntKind.i64 (-1)) w)
  (ncP t0 <|
  fld 0 t0 w fun t26 w =>
  ld1 t26 w fun t27 w =>
  ixS 1 t27 t1 w fun t29 w =>
  ld1 t29 w fun t30 w =>
  K t30 w)
theorem pacelineref11_Clocks_At_eq (t0 t1 : Value) (w : World) (K : KV) : pacelineref11_Clocks_At t0 t1 w K = fnW prog 31 [4] (match fn42.body with | some c => c | none => .skip) #[t0, t1] w K := by kernel_rfl
theorem pacelineref11_Clocks_At_ok : fnOk prog 31 [4] (match fn42.body with | some c => c | none => .skip) = true := by kernel_rfl
theorem pacelineref11_Clocks_At_calls {t0 t1 : Value} {w : World} {K : KV} (h : pacelineref11_Clocks_At t0 t1 w K) : Cl prog 42 #[t0, t1] w K :=
  ⟨by kernel_rfl, calls_of_F (fn := fn42) (nt := 31) (rs := [4]) mixed fnAt42 (by kernel_rfl) (by kernel_rfl) (by kernel_rfl) (Nat.le_of_ble_eq_true (by kernel_rfl)) pacelineref11_Clocks_At_ok (pacelineref11_Clocks_At_eq t0 t1 w K) h⟩

/-- (*paceline/pacelineref11.Clocks).Bound -/
def pacelineref11_Clocks_Bound (t0 : Value) (w : World) (K : KV) : Prop :=
  lp [(Value.int IntKind.i64 1125899906842624), (Value.int IntKind.i64 0)] w (b2 fun t3 t4 w g1 =>
  ncP t0 <|
  fld 0 t0 w fun t8 w =>
  ld1 t8 w fun t9 w =>
  lnS t9 w fun t10 w =>
  bi .lss .i64 t4 t10 w fun t11 w =>
  iff' t11
  (J1 (fun t3_1 w =>
  bi .add .i64 t4 (Value.int IntKind.i64 1) w fun t13 w =>
  g1 [t3_1, t13] w) fun k2 =>
  ncP t0 <|
  fld 1 t0 w fun t17 w =>
  ld1 t17 w fun t18 w =>
  bi .neq .i64 t4 t18 w fun t19 w =>
  iff' t19
  (ncP t0 <|
  fld 0 t0 w fun t23 w =>
  ld1 t23 w fun t24 w =>
  ixS 1 t24 t4 w fun t26 w =>
  ld1 t26 w fun t27 w =>
  mnI .i64 t3 t27 w fun t28 w =>
  k2 t28 w)
  (k2 t3 w))
  (K t3 w))
theorem pacelineref11_Clocks_Bound_eq (t0 : Value) (w : World) (K : KV) : pacelineref11_Clocks_Bound t0 w K = fnW prog 30 [2] (match fn43.body with | some c => c | none => .skip) #[t0] w K := by kernel_rfl
theorem pacelineref11_Clocks_Bound_ok : fnOk prog 30 [2] (match fn43.body with | some c => c | none => .skip) = true := by kernel_rfl
theorem pacelineref11_Clocks_Bound_calls {t0 : Value} {w : World} {K : KV} (h : pacelineref11_Clocks_Bound t0 w K) : Cl prog 43 #[t0] w K :=
  ⟨by kernel_rfl, calls_of_F (fn := fn43) (nt := 30) (rs := [2]) mixed fnAt43 (by kernel_rfl) (by kernel_rfl) (by kernel_rfl) (Nat.le_of_ble_eq_true (by kernel_rfl)) pacelineref11_Clocks_Bound_ok (pacelineref11_Clocks_Bound_eq t0 w K) h⟩

/-- (*paceline/pacelineref11.Clocks).Told -/
def pacelineref11_Clocks_Told (t0 : Value) (w : World) (K : KV) : Prop :=
  ncP t0 <|
  fld 2 t0 w fun t5 w =>
  ld1 t5 w fun t6 w =>
  K t6 w
theorem pacelineref11_Clocks_Told_eq (t0 : Value) (w : World) (K : KV) : pacelineref11_Clocks_Told t0 w K = fnW prog 7 [2] (match fn44.body with | some c => c | none => .skip) #[t0] w K := by kernel_rfl
theorem pacelineref11_Clocks_Told_ok : fnOk prog 7 [2] (match fn44.body with | some c => c | none => .skip) = true := by kernel_rfl
theorem pacelineref11_Clocks_Told_calls {t0 : Value} {w : World} {K : KV} (h : pacelineref11_Clocks_Told t0 w K) : Cl prog 44 #[t0] w K :=
  ⟨by kernel_rfl, calls_of_F (fn := fn44) (nt := 7) (rs := [2]) mixed fnAt44 (by kernel_rfl) (by kernel_rfl) (by kernel_rfl) (Nat.le_of_ble_eq_true (by kernel_rfl)) pacelineref11_Clocks_Told_ok (pacelineref11_Clocks_Told_eq t0 w K) h⟩

end Go.Proofs.Ytiiekfcfledkhaa
