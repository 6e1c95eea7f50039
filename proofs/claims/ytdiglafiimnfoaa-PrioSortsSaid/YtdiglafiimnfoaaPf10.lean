/- Printed by prt.py: the Go functions of this seat as shallow predicate transformers. Conditions: none. -/
import Derived.Test.YtdiglafiimnfoaaEngO
import Derived.Test.YtdiglafiimnfoaaPfHead
import Derived.KernelRfl
namespace Go.Proofs.Ytdiglafiimnfoaa
open Go Go.E
set_option linter.unusedVariables false
set_option maxRecDepth 100000
/-- paceline/pacelinelaw14.same -/
def pacelinelaw14_same (t0 t1 : Value) (w : World) (K : KV) : Prop :=
  lnS t0 w fun t7 w =>
  lnS t1 w fun t9 w =>
  bi .neq .i64 t7 t9 w fun t10 w =>
  iff' t10
  (K (Value.bool false) w)
  (lp [(Value.int IntKind.i64 0)] w (b1 fun t5 w g1 =>
  lnS t0 w fun t13 w =>
  bi .lss .i64 t5 t13 w fun t14 w =>
  iff' t14
  (dr w fun w =>
  ixS 6 t0 t5 w fun t19 _ =>
  ldN 6 t19 w fun t20 _ =>
  ixS 6 t1 t5 w fun t23 _ =>
  ldN 6 t23 w fun t24 _ =>
  bO prog .neq 63 (Operand.tmp 20) (Operand.tmp 24) t20 t24 w fun t25 w =>
  iff' t25
  (K (Value.bool false) w)
  (bi .add .i64 t5 (Value.int IntKind.i64 1) w fun t16 w =>
  g1 [t16] w))
  (K (Value.bool true) w)))
theorem pacelinelaw14_same_eq (t0 t1 : Value) (w : World) (K : KV) : pacelinelaw14_same t0 t1 w K = fnW prog 26 [4] (match fn66.body with | some c => c | none => .skip) #[t0, t1] w K := by kernel_rfl
theorem pacelinelaw14_same_ok : fnOk prog 26 [4] (match fn66.body with | some c => c | none => .skip) = true := by kernel_rfl
theorem pacelinelaw14_same_calls {t0 t1 : Value} {w : World} {K : KV} (h : pacelinelaw14_same t0 t1 w K) : Cl prog 66 #[t0, t1] w K :=
  ⟨by kernel_rfl, calls_of_F (fn := fn66) (nt := 26) (rs := [4]) mixed fnAt66 (by kernel_rfl) (by kernel_rfl) (by kernel_rfl) (Nat.le_of_ble_eq_true (by kernel_rfl)) pacelinelaw14_same_ok (pacelinelaw14_same_eq t0 t1 w K) h⟩

/-- (*paceline/gate.Gate).Drop -/
def gate_Gate_Drop (t0 t1 : Value) (w : World) (K : KV) : Prop :=
  al (Value.cells t1) 61 w fun t3 w =>
  Cl prog 95 #[t0, (Value.func (Fn.func 101) #[] #[t3])] w fun t7 w =>
  Cl prog 100 #[t7] w fun t8 w =>
  K t8 w
theorem gate_Gate_Drop_eq (t0 t1 : Value) (w : World) (K : KV) : gate_Gate_Drop t0 t1 w K = fnW prog 9 [4] (match fn67.body with | some c => c | none => .skip) #[t0, t1] w K := by kernel_rfl
theorem gate_Gate_Drop_ok : fnOk prog 9 [4] (match fn67.body with | some c => c | none => .skip) = true := by kernel_rfl
theorem gate_Gate_Drop_calls {t0 t1 : Value} {w : World} {K : KV} (h : gate_Gate_Drop t0 t1 w K) : Cl prog 67 #[t0, t1] w K :=
  ⟨by kernel_rfl, calls_of_F (fn := fn67) (nt := 9) (rs := [4]) mixed fnAt67 (by kernel_rfl) (by kernel_rfl) (by kernel_rfl) (Nat.le_of_ble_eq_true (by kernel_rfl)) gate_Gate_Drop_ok (gate_Gate_Drop_eq t0 t1 w K) h⟩

/-- (*paceline/gate.Gate).Retract -/
def gate_Gate_Retract (t0 t1 : Value) (w : World) (K : KV) : Prop :=
  al (Value.cells t1) 61 w fun t3 w =>
  Cl prog 95 #[t0, (Value.func (Fn.func 102) #[] #[t3])] w fun t9 w =>
  lnS t9 w fun t10 w =>
  bi .eql .i64 t10 (Value.int IntKind.i64 0) w fun t12 w =>
  iff' t12
  (K (Value.tuple #[(Value.int IntKind.i64 0), (Value.int IntKind.i64 209)]) w)
  (K (Value.tuple #[t10, (Value.int IntKind.i64 0)]) w)
theorem gate_Gate_Retract_eq (t0 t1 : Value) (w : World) (K : KV) : gate_Gate_Retract t0 t1 w K = fnW prog 14 [4, 5] (match fn68.body with | some c => c | none => .skip) #[t0, t1] w K := by kernel_rfl
theorem gate_Gate_Retract_ok : fnOk prog 14 [4, 5] (match fn68.body with | some c => c | none => .skip) = true := by kernel_rfl
theorem gate_Gate_Retract_calls {t0 t1 : Value} {w : World} {K : KV} (h : gate_Gate_Retract t0 t1 w K) : Cl prog 68 #[t0, t1] w K :=
  ⟨by kernel_rfl, calls_of_F (fn := fn68) (nt := 14) (rs := [4, 5]) mixed fnAt68 (by kernel_rfl) (by kernel_rfl) (by kernel_rfl) (Nat.le_of_ble_eq_true (by kernel_rfl)) gate_Gate_Retract_ok (gate_Gate_Retract_eq t0 t1 w K) h⟩

/-- paceline/pacelineref14.New -/
def pacelineref14_New (w : World) (K : KV) : Prop :=
  bld (zeroD prog 112) #[(0, 1), (1, 1)] [] w fun t1 w =>
  al (Value.cells t1) 112 w fun t2 w =>
  K t2 w
theorem pacelineref14_New_eq (w : World) (K : KV) : pacelineref14_New w K = fnW prog 3 [0] (match fn69.body with | some c => c | none => .skip) #[] w K := by kernel_rfl
theorem pacelineref14_New_ok : fnOk prog 3 [0] (match fn69.body with | some c => c | none => .skip) = true := by kernel_rfl
theorem pacelineref14_New_calls {w : World} {K : KV} (h : pacelineref14_New w K) : Cl prog 69 #[] w K :=
  ⟨by kernel_rfl, calls_of_F (fn := fn69) (nt := 3) (rs := [0]) mixed fnAt69 (by kernel_rfl) (by kernel_rfl) (by kernel_rfl) (Nat.le_of_ble_eq_true (by kernel_rfl)) pacelineref14_New_ok (pacelineref14_New_eq w K) h⟩

/-- (*paceline/pacelineref14.Gate).Hold -/
def pacelineref14_Gate_Hold (t0 t1 t2 : Value) (w : World) (K : KV) : Prop :=
  al (Value.cells t1) 61 w fun t4 w =>
  al (Value.cells t2) 63 w fun t5 w =>
  dr w fun w =>
  fld 0 t4 w fun t8 _ =>
  ld1 t8 w fun t9 _ =>
  ncP t0 <|
  fld 0 t0 w fun t12 _ =>
  ld1 t12 w fun t13 _ =>
  bi .lss .i64 t9 t13 w fun t14 _ =>
  iff' t14
  (K (Value.int IntKind.i64 110) w)
  (ncP t0 <|
  fld 1 t0 w fun t17 w =>
  ld1 t17 w fun t18 w =>
  lnS t18 w fun t19 w =>
  bi .geq .i64 t19 (Value.int IntKind.i64 256) w fun t20 w =>
  iff' t20
  (K (Value.int IntKind.i64 2) w)
  (bsl 170 9 0 #[] [] w fun t21 w =>
  ncP t0 <|
  fld 1 t0 w fun t25 w =>
  ld1 t25 w fun t26 w =>
  apS prog #[110, 110] 110 t21 t26 w fun t27 w =>
  ldN 3 t4 w fun t30 w =>
  ldN 6 t5 w fun t31 w =>
  bld (zeroD prog 170) #[(0, 3), (3, 6)] [(0, t30), (1, t31)] w fun t32 w =>
  bsl 170 9 1 (zeroD prog 170) [(0, t32)] w fun t33 w =>
  apS prog #[110, 110] 110 t27 t33 w fun t34 w =>
  ncP t0 <|
  fld 1 t0 w fun t36 w =>
  stN 1 t36 t34 w fun _ w =>
  K (Value.int IntKind.i64 0) w))
theorem pacelineref14_Gate_Hold_eq (t0 t1 t2 : Value) (w : World) (K : KV) : pacelineref14_Gate_Hold t0 t1 t2 w K = fnW prog 37 [6] (match fn70.body with | some c => c | none => .skip) #[t0, t1, t2] w K := by kernel_rfl
theorem pacelineref14_Gate_Hold_ok : fnOk prog 37 [6] (match fn70.body with | some c => c | none => .skip) = true := by kernel_rfl
theorem pacelineref14_Gate_Hold_calls {t0 t1 t2 : Value} {w : World} {K : KV} (h : pacelineref14_Gate_Hold t0 t1 t2 w K) : Cl prog 70 #[t0, t1, t2] w K :=
  ⟨by kernel_rfl, calls_of_F (fn := fn70) (nt := 37) (rs := [6]) mixed fnAt70 (by kernel_rfl) (by kernel_rfl) (by kernel_rfl) (Nat.le_of_ble_eq_true (by kernel_rfl)) pacelineref14_Gate_Hold_ok (pacelineref14_Gate_Hold_eq t0 t1 t2 w K) h⟩

/-- (*paceline/pacelineref14.Gate).Drop -/
def pacelineref14_Gate_Drop (t0 t1 : Value) (w : World) (K : KV) : Prop :=
  al (Value.cells t1) 61 w fun t3 w =>
  bsl 63 6 0 #[] [] w fun t8 w =>
  bsl 170 9 0 #[] [] w fun t9 w =>
  lp [t8, t9, (Value.int IntKind.i64 0)] w (b3 fun t5 t6 t7 w g1 =>
  ncP t0 <|
  fld 1 t0 w fun t13 w =>
  ld1 t13 w fun t14 w =>
  lnS t14 w fun t15 w =>
  bi .lss .i64 t7 t15 w fun t16 w =>
  iff' t16
  (J2 (fun t5_1 t6_1 w =>
  bi .add .i64 t7 (Value.int IntKind.i64 1) w fun t18 w =>
  g1 [t5_1, t6_1, t18] w) fun k2 =>
  dr w fun w =>
  ncP t0 <|
  fld 1 t0 w fun t21 _ =>
  ld1 t21 w fun t22 _ =>
  ixS 9 t22 t7 w fun t24 _ =>
  fld 0 t24 w fun t25 _ =>
  ldN 3 t25 w fun t26 _ =>
  ldN 3 t3 w fun t27 _ =>
  Cl prog 55 #[t26, t27] w fun t28 w =>
  bi .lss .i64 t28 (Value.int IntKind.i64 0) w fun t29 _ =>
  iff' t29
  (ncP t0 <|
  fld 1 t0 w fun t33 w =>
  ld1 t33 w fun t34 w =>
  ixS 9 t34 t7 w fun t36 w =>
  ldN 9 t36 w fun t37 w =>
  bsl 170 9 1 (zeroD prog 170) [(0, t37)] w fun t38 w =>
  apS prog #[110, 110] 110 t6 t38 w fun t39 w =>
  k2 t5 t39 w)
  (ncP t0 <|
  fld 1 t0 w fun t43 w =>
  ld1 t43 w fun t44 w =>
  ixS 9 t44 t7 w fun t46 w =>
  fld 3 t46 w fun t47 w =>
  ldN 6 t47 w fun t48 w =>
  bsl 63 6 1 (zeroD prog 63) [(0, t48)] w fun t49 w =>
  apS prog #[78, 78] 78 t5 t49 w fun t50 w =>
  k2 t50 t6 w))
  (ncP t0 <|
  fld 1 t0 w fun t54 w =>
  stN 1 t54 t6 w fun _ w =>
  K t5 w))
theorem pacelineref14_Gate_Drop_eq (t0 t1 : Value) (w : World) (K : KV) : pacelineref14_Gate_Drop t0 t1 w K = fnW prog 56 [4] (match fn71.body with | some c => c | none => .skip) #[t0, t1] w K := by kernel_rfl
theorem pacelineref14_Gate_Drop_ok : fnOk prog 56 [4] (match fn71.body with | some c => c | none => .skip) = true := by kernel_rfl
theorem pacelineref14_Gate_Drop_calls {t0 t1 : Value} {w : World} {K : KV} (h : pacelineref14_Gate_Drop t0 t1 w K) : Cl prog 71 #[t0, t1] w K :=
  ⟨by kernel_rfl, calls_of_F (fn := fn71) (nt := 56) (rs := [4]) mixed fnAt71 (by kernel_rfl) (by kernel_rfl) (by kernel_rfl) (Nat.le_of_ble_eq_true (by kernel_rfl)) pacelineref14_Gate_Drop_ok (pacelineref14_Gate_Drop_eq t0 t1 w K) h⟩

end Go.Proofs.Ytdiglafiimnfoaa
