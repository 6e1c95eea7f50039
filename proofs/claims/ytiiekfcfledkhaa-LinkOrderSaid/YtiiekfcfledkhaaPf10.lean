/- Printed by prt.py: the Go functions of this seat as shallow predicate transformers. Conditions: none. -/
import Derived.Test.YtiiekfcfledkhaaEngO
import Derived.Test.YtiiekfcfledkhaaPfHead
import Derived.KernelRfl
namespace Go.Proofs.Ytiiekfcfledkhaa
open Go Go.E
/-- paceline/pacelineref01.Valid -/
def pacelineref01_Valid (t0 : Value) (w : World) (K : KV) : Prop :=
  bi .geq .i64 t0 (Value.int IntKind.i64 0) w fun t4 w =>
  gd t4 true (fun k => k t0 w) w fun t6 w =>
  gd t4 true (fun k => bi .leq .i64 t6 (Value.int IntKind.i64 1099511627776) w k) w fun t7 w =>
  pk t4 t7 (Value.bool false) w fun t8 w =>
  gd t8 false (fun k => k t0 w) w fun t10 w =>
  gd t8 false (fun k => bi .eql .i64 t10 (Value.int IntKind.i64 1125899906842624) w k) w fun t11 w =>
  pk t8 (Value.bool true) t11 w fun t12 w =>
  K t12 w
theorem pacelineref01_Valid_eq (t0 : Value) (w : World) (K : KV) : pacelineref01_Valid t0 w K = fnW prog 13 [2] (match fn63.body with | some c => c | none => .skip) #[t0] w K := by kernel_rfl
theorem pacelineref01_Valid_ok : fnOk prog 13 [2] (match fn63.body with | some c => c | none => .skip) = true := by kernel_rfl
theorem pacelineref01_Valid_calls {t0 : Value} {w : World} {K : KV} (h : pacelineref01_Valid t0 w K) : Cl prog 63 #[t0] w K :=
  ⟨by kernel_rfl, calls_of_F (fn := fn63) (nt := 13) (rs := [2]) mixed fnAt63 (by kernel_rfl) (by kernel_rfl) (by kernel_rfl) (Nat.le_of_ble_eq_true (by kernel_rfl)) pacelineref01_Valid_ok (pacelineref01_Valid_eq t0 w K) h⟩

/-- paceline/pacelineref01.Add -/
def pacelineref01_Add (t0 t1 : Value) (w : World) (K : KV) : Prop :=
  Cl prog 70 #[t0] w fun t6 w =>
  Cl prog 70 #[t1] w fun t8 w =>
  bi .eql .i64 t6 (Value.int IntKind.i64 1125899906842624) w fun t10 w =>
  gd t10 false (fun k => k t8 w) w fun t12 w =>
  gd t10 false (fun k => bi .eql .i64 t12 (Value.int IntKind.i64 1125899906842624) w k) w fun t13 w =>
  pk t10 (Value.bool true) t13 w fun t14 w =>
  iff' t14
  (K (Value.int IntKind.i64 1125899906842624) w)
  (bi .add .i64 t6 t8 w fun t17 w =>
  Cl prog 70 #[t17] w fun t18 w =>
  K t18 w)
theorem pacelineref01_Add_eq (t0 t1 : Value) (w : World) (K : KV) : pacelineref01_Add t0 t1 w K = fnW prog 19 [4] (match fn64.body with | some c => c | none => .skip) #[t0, t1] w K := by kernel_rfl
theorem pacelineref01_Add_ok : fnOk prog 19 [4] (match fn64.body with | some c => c | none => .skip) = true := by kernel_rfl
theorem pacelineref01_Add_calls {t0 t1 : Value} {w : World} {K : KV} (h : pacelineref01_Add t0 t1 w K) : Cl prog 64 #[t0, t1] w K :=
  ⟨by kernel_rfl, calls_of_F (fn := fn64) (nt := 19) (rs := [4]) mixed fnAt64 (by kernel_rfl) (by kernel_rfl) (by kernel_rfl) (Nat.le_of_ble_eq_true (by kernel_rfl)) pacelineref01_Add_ok (pacelineref01_Add_eq t0 t1 w K) h⟩

/-- paceline/pacelineref01.Least -/
def pacelineref01_Least (t0 : Value) (w : World) (K : KV) : Prop :=
  lp [(Value.int IntKind.i64 1125899906842624), (Value.int IntKind.i64 0)] w (b2 fun t3 t4 w g1 =>
  lnS t0 w fun t7 w =>
  bi .lss .i64 t4 t7 w fun t8 w =>
  iff' t8
  (ixS 1 t0 t4 w fun t14 w =>
  ld1 t14 w fun t15 w =>
  Cl prog 70 #[t15] w fun t16 w =>
  mnI .i64 t3 t16 w fun t17 w =>
  bi .add .i64 t4 (Value.int IntKind.i64 1) w fun t10 w =>
  g1 [t17, t10] w)
  (K t3 w))
theorem pacelineref01_Least_eq (t0 : Value) (w : World) (K : KV) : pacelineref01_Least t0 w K = fnW prog 19 [2] (match fn65.body with | some c => c | none => .skip) #[t0] w K := by kernel_rfl
theorem pacelineref01_Least_ok : fnOk prog 19 [2] (match fn65.body with | some c => c | none => .skip) = true := by kernel_rfl
theorem pacelineref01_Least_calls {t0 : Value} {w : World} {K : KV} (h : pacelineref01_Least t0 w K) : Cl prog 65 #[t0] w K :=
  ⟨by kernel_rfl, calls_of_F (fn := fn65) (nt := 19) (rs := [2]) mixed fnAt65 (by kernel_rfl) (by kernel_rfl) (by kernel_rfl) (Nat.le_of_ble_eq_true (by kernel_rfl)) pacelineref01_Least_ok (pacelineref01_Least_eq t0 w K) h⟩

/-- (*paceline/gate.Gate).Drop$1 -/
def gate_Gate_Drop_1 (t0 t1 : Value) (w : World) (K : KV) : Prop :=
  al (Value.cells t0) 96 w fun t2 w =>
  fld 0 t2 w fun t4 w =>
  ldN 3 t4 w fun t5 w =>
  ldN 3 t1 w fun t6 w =>
  Cl prog 67 #[t5, t6] w fun t7 w =>
  bi .geq .i64 t7 (Value.int IntKind.i64 0) w fun t8 w =>
  K t8 w
theorem gate_Gate_Drop_1_eq (t0 t1 : Value) (w : World) (K : KV) : gate_Gate_Drop_1 t0 t1 w K = fnW prog 9 [3] (match fn66.body with | some c => c | none => .skip) #[t0, t1] w K := by kernel_rfl
theorem gate_Gate_Drop_1_ok : fnOk prog 9 [3] (match fn66.body with | some c => c | none => .skip) = true := by kernel_rfl
theorem gate_Gate_Drop_1_calls {t0 t1 : Value} {w : World} {K : KV} (h : gate_Gate_Drop_1 t0 t1 w K) : Cl prog 66 #[t0, t1] w K :=
  ⟨by kernel_rfl, calls_of_F (fn := fn66) (nt := 9) (rs := [3]) mixed fnAt66 (by kernel_rfl) (by kernel_rfl) (by kernel_rfl) (Nat.le_of_ble_eq_true (by kernel_rfl)) gate_Gate_Drop_1_ok (gate_Gate_Drop_1_eq t0 t1 w K) h⟩

/-- paceline/vtime.Cmp -/
def vtime_Cmp (t0 t1 : Value) (w : World) (K : KV) : Prop :=
  al (Value.cells t0) 24 w fun t2 w =>
  al (Value.cells t1) 24 w fun t3 w =>
  dr w fun w =>
  fld 0 t2 w fun t5 _ =>
  ld1 t5 w fun t6 _ =>
  fld 0 t3 w fun t7 _ =>
  ld1 t7 w fun t8 _ =>
  fld 1 t2 w fun t10 _ =>
  ld1 t10 w fun t11 _ =>
  fld 1 t3 w fun t12 _ =>
  ld1 t12 w fun t13 _ =>
  fld 2 t2 w fun t15 _ =>
  ld1 t15 w fun t16 _ =>
  fld 2 t3 w fun t17 _ =>
  ld1 t17 w fun t18 _ =>
  Cl prog 72 #[t6, t8] w fun t9 w =>
  (ld1 t17 w (fun v' w'' => v' = t18 ∧ w'' = w)) ∧ ((ld1 t15 w (fun v' w'' => v' = t16 ∧ w'' = w)) ∧ ((ld1 t12 w (fun v' w'' => v' = t13 ∧ w'' = w)) ∧ ((ld1 t10 w (fun v' w'' => v' = t11 ∧ w'' = w)) ∧ (Cl prog 72 #[t11, t13] w fun t14 w =>
  (ld1 t17 w (fun v' w'' => v' = t18 ∧ w'' = w)) ∧ ((ld1 t15 w (fun v' w'' => v' = t16 ∧ w'' = w)) ∧ (Cl prog 72 #[t16, t18] w fun t19 w =>
  bsl 3 1 3 (zeroD prog 3) [(0, t9), (1, t14), (2, t19)] w fun t20 w =>
  Cl prog 71 #[t20] w fun t21 w =>
  K t21 w))))))
theorem vtime_Cmp_eq (t0 t1 : Value) (w : World) (K : KV) : vtime_Cmp t0 t1 w K = fnW prog 22 [4] (match fn67.body with | some c => c | none => .skip) #[t0, t1] w K := by kernel_rfl
theorem vtime_Cmp_ok : fnOk prog 22 [4] (match fn67.body with | some c => c | none => .skip) = true := by kernel_rfl
theorem vtime_Cmp_calls {t0 t1 : Value} {w : World} {K : KV} (h : vtime_Cmp t0 t1 w K) : Cl prog 67 #[t0, t1] w K :=
  ⟨by kernel_rfl, calls_of_F (fn := fn67) (nt := 22) (rs := [4]) mixed fnAt67 (by kernel_rfl) (by kernel_rfl) (by kernel_rfl) (Nat.le_of_ble_eq_true (by kernel_rfl)) vtime_Cmp_ok (vtime_Cmp_eq t0 t1 w K) h⟩

/-- paceline/vtime.clamp -/
def vtime_clamp (t0 : Value) (w : World) (K : KV) : Prop :=
  bi .lss .i64 t0 (Value.int IntKind.i64 0) w fun t5 w =>
  iff' t5
  (K (Value.int IntKind.i64 0) w)
  (bi .gtr .i64 t0 (Value.int IntKind.i64 1099511627776) w fun t8 w =>
  iff' t8
  (K (Value.int IntKind.i64 1125899906842624) w)
  (K t0 w))
theorem vtime_clamp_eq (t0 : Value) (w : World) (K : KV) : vtime_clamp t0 w K = fnW prog 10 [2] (match fn69.body with | some c => c | none => .skip) #[t0] w K := by kernel_rfl
theorem vtime_clamp_ok : fnOk prog 10 [2] (match fn69.body with | some c => c | none => .skip) = true := by kernel_rfl
theorem vtime_clamp_calls {t0 : Value} {w : World} {K : KV} (h : vtime_clamp t0 w K) : Cl prog 69 #[t0] w K :=
  ⟨by kernel_rfl, calls_of_F (fn := fn69) (nt := 10) (rs := [2]) mixed fnAt69 (by kernel_rfl) (by kernel_rfl) (by kernel_rfl) (Nat.le_of_ble_eq_true (by kernel_rfl)) vtime_clamp_ok (vtime_clamp_eq t0 w K) h⟩

end Go.Proofs.Ytiiekfcfledkhaa
