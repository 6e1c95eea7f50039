/- Printed by prt.py: the Go functions of this seat as shallow predicate transformers. Conditions: none. -/
import Derived.Test.YtiiekfcfledkhaaEngO
import Derived.Test.YtiiekfcfledkhaaPfHead
import Derived.KernelRfl
namespace Go.Proofs.Ytiiekfcfledkhaa
open Go Go.E
/-- paceline/gate.New -/
def gate_New (w : World) (K : KV) : Prop :=
  bld (zeroD prog 94) #[(0, 1), (1, 1)] [] w fun t1 w =>
  al (Value.cells t1) 94 w fun t2 w =>
  K t2 w
theorem gate_New_eq (w : World) (K : KV) : gate_New w K = fnW prog 3 [0] (match fn15.body with | some c => c | none => .skip) #[] w K := by kernel_rfl
theorem gate_New_ok : fnOk prog 3 [0] (match fn15.body with | some c => c | none => .skip) = true := by kernel_rfl
theorem gate_New_calls {w : World} {K : KV} (h : gate_New w K) : Cl prog 15 #[] w K :=
  ⟨by kernel_rfl, calls_of_F (fn := fn15) (nt := 3) (rs := [0]) mixed fnAt15 (by kernel_rfl) (by kernel_rfl) (by kernel_rfl) (Nat.le_of_ble_eq_true (by kernel_rfl)) gate_New_ok (gate_New_eq w K) h⟩

/-- (*paceline/gate.Gate).Hold -/
def gate_Gate_Hold (t0 t1 t2 : Value) (w : World) (K : KV) : Prop :=
  al (Value.cells t1) 24 w fun t4 w =>
  al (Value.cells t2) 28 w fun t5 w =>
  dr w fun w =>
  fld 0 t4 w fun t8 _ =>
  ld1 t8 w fun t9 _ =>
  ncP t0 <|
  fld 0 t0 w fun t12 _ =>
  ld1 t12 w fun t13 _ =>
  bi .lss .i64 t9 t13 w fun t14 _ =>
  iff' t14
  (K (Value.int IntKind.i64 110) w)
  (ncP t0 <|
  fld 1 t0 w fun t18 w =>
  ld1 t18 w fun t19 w =>
  lnS t19 w fun t20 w =>
  bi .geq .i64 t20 (Value.int IntKind.i64 256) w fun t21 w =>
  iff' t21
  (K (Value.int IntKind.i64 2) w)
  (dr w fun w =>
  ncP t0 <|
  fld 1 t0 w fun t25 _ =>
  ld1 t25 w fun t26 _ =>
  ldN 3 t4 w fun t27 _ =>
  ldN 6 t5 w fun t28 _ =>
  bld (zeroD prog 96) #[(0, 3), (3, 6)] [(0, t27), (1, t28)] w fun t29 w =>
  (ld1 t25 w (fun v' w'' => v' = t26 ∧ w'' = w)) ∧ (bsl 96 9 1 (zeroD prog 96) [(0, t29)] w fun t30 w =>
  (ld1 t25 w (fun v' w'' => v' = t26 ∧ w'' = w)) ∧ (apS prog #[92, 92] 92 t26 t30 w fun t31 w =>
  ncP t0 <|
  fld 1 t0 w fun t33 _ =>
  stN 1 t33 t31 w fun _ w =>
  K (Value.int IntKind.i64 0) w))))
theorem gate_Gate_Hold_eq (t0 t1 t2 : Value) (w : World) (K : KV) : gate_Gate_Hold t0 t1 t2 w K = fnW prog 34 [6] (match fn16.body with | some c => c | none => .skip) #[t0, t1, t2] w K := by kernel_rfl
theorem gate_Gate_Hold_ok : fnOk prog 34 [6] (match fn16.body with | some c => c | none => .skip) = true := by kernel_rfl
theorem gate_Gate_Hold_calls {t0 t1 t2 : Value} {w : World} {K : KV} (h : gate_Gate_Hold t0 t1 t2 w K) : Cl prog 16 #[t0, t1, t2] w K :=
  ⟨by kernel_rfl, calls_of_F (fn := fn16) (nt := 34) (rs := [6]) mixed fnAt16 (by kernel_rfl) (by kernel_rfl) (by kernel_rfl) (Nat.le_of_ble_eq_true (by kernel_rfl)) gate_Gate_Hold_ok (gate_Gate_Hold_eq t0 t1 t2 w K) h⟩

/-- (*paceline/gate.Gate).Held -/
def gate_Gate_Held (t0 : Value) (w : World) (K : KV) : Prop :=
  ncP t0 <|
  fld 1 t0 w fun t5 w =>
  ld1 t5 w fun t6 w =>
  Cl prog 50 #[t6] w fun t7 w =>
  K t7 w
theorem gate_Gate_Held_eq (t0 : Value) (w : World) (K : KV) : gate_Gate_Held t0 w K = fnW prog 8 [2] (match fn17.body with | some c => c | none => .skip) #[t0] w K := by kernel_rfl
theorem gate_Gate_Held_ok : fnOk prog 8 [2] (match fn17.body with | some c => c | none => .skip) = true := by kernel_rfl
theorem gate_Gate_Held_calls {t0 : Value} {w : World} {K : KV} (h : gate_Gate_Held t0 w K) : Cl prog 17 #[t0] w K :=
  ⟨by kernel_rfl, calls_of_F (fn := fn17) (nt := 8) (rs := [2]) mixed fnAt17 (by kernel_rfl) (by kernel_rfl) (by kernel_rfl) (Nat.le_of_ble_eq_true (by kernel_rfl)) gate_Gate_Held_ok (gate_Gate_Held_eq t0 w K) h⟩

/-- (*paceline/gate.Gate).Retract -/
def gate_Gate_Retract (t0 t1 : Value) (w : World) (K : KV) : Prop :=
  al (Value.cells t1) 24 w fun t3 w =>
  Cl prog 51 #[t0, (Value.func (Fn.func 52) #[] #[t3])] w fun t9 w =>
  lnS t9 w fun t10 w =>
  bi .eql .i64 t10 (Value.int IntKind.i64 0) w fun t12 w =>
  iff' t12
  (K (Value.tuple #[(Value.int IntKind.i64 0), (Value.int IntKind.i64 209)]) w)
  (K (Value.tuple #[t10, (Value.int IntKind.i64 0)]) w)
theorem gate_Gate_Retract_eq (t0 t1 : Value) (w : World) (K : KV) : gate_Gate_Retract t0 t1 w K = fnW prog 14 [4, 5] (match fn18.body with | some c => c | none => .skip) #[t0, t1] w K := by kernel_rfl
theorem gate_Gate_Retract_ok : fnOk prog 14 [4, 5] (match fn18.body with | some c => c | none => .skip) = true := by kernel_rfl
theorem gate_Gate_Retract_calls {t0 t1 : Value} {w : World} {K : KV} (h : gate_Gate_Retract t0 t1 w K) : Cl prog 18 #[t0, t1] w K :=
  ⟨by kernel_rfl, calls_of_F (fn := fn18) (nt := 14) (rs := [4, 5]) mixed fnAt18 (by kernel_rfl) (by kernel_rfl) (by kernel_rfl) (Nat.le_of_ble_eq_true (by kernel_rfl)) gate_Gate_Retract_ok (gate_Gate_Retract_eq t0 t1 w K) h⟩

/-- paceline/pacelinelaw14.same -/
def pacelinelaw14_same (t0 t1 : Value) (w : World) (K : KV) : Prop :=
  lnS t0 w fun t7 w =>
  lnS t1 w fun t9 w =>
  bi .neq .i64 t7 t9 w fun t10 w =>
  iff' t10
  (K (Value.bool false) w)
  (lp [(Value.int IntKind.i64 0)] w (b1 fun t5 w g1 =>
  lnS t0 w fun t13 w =>
  bi .lss .i64 t5 t13 w fun t14 w =>
  iff' t14
  (dr w fun w =>
  ixS 6 t0 t5 w fun t19 _ =>
  ldN 6 t19 w fun t20 _ =>
  ixS 6 t1 t5 w fun t23 _ =>
  ldN 6 t23 w fun t24 _ =>
  bO prog .neq 28 (Operand.tmp 20) (Operand.tmp 24) t20 t24 w fun t25 w =>
  iff' t25
  (K (Value.bool false) w)
  (bi .add .i64 t5 (Value.int IntKind.i64 1) w fun t16 w =>
  g1 [t16] w))
  (K (Value.bool true) w)))
theorem pacelinelaw14_same_eq (t0 t1 : Value) (w : World) (K : KV) : pacelinelaw14_same t0 t1 w K = fnW prog 26 [4] (match fn19.body with | some c => c | none => .skip) #[t0, t1] w K := by kernel_rfl
theorem pacelinelaw14_same_ok : fnOk prog 26 [4] (match fn19.body with | some c => c | none => .skip) = true := by kernel_rfl
theorem pacelinelaw14_same_calls {t0 t1 : Value} {w : World} {K : KV} (h : pacelinelaw14_same t0 t1 w K) : Cl prog 19 #[t0, t1] w K :=
  ⟨by kernel_rfl, calls_of_F (fn := fn19) (nt := 26) (rs := [4]) mixed fnAt19 (by kernel_rfl) (by kernel_rfl) (by kernel_rfl) (Nat.le_of_ble_eq_true (by kernel_rfl)) pacelinelaw14_same_ok (pacelinelaw14_same_eq t0 t1 w K) h⟩

/-- paceline/clock.New -/
def clock_New (t0 t1 : Value) (w : World) (K : KV) : Prop :=
  bi .lss .i64 t0 (Value.int IntKind.i64 1) w fun t9 w =>
  gd t9 false (fun k => k t0 w) w fun t11 w =>
  gd t9 false (fun k => bi .gtr .i64 t11 (Value.int IntKind.i64 8) w k) w fun t12 w =>
  pk t9 (Value.bool true) t12 w fun t13 w =>
  gd t13 false (fun k => k t1 w) w fun t15 w =>
  gd t13 false (fun k => bi .lss .i64 t15 (Value.int IntKind.i64 0) w k) w fun t16 w =>
  pk t13 (Value.bool true) t16 w fun t17 w =>
  gd t17 false (fun k => k t1 w) w fun t19 w =>
  gd t17 false (fun k => k t0 w) w fun t20 w =>
  gd t17 false (fun k => bi .geq .i64 t19 t20 w k) w fun t21 w =>
  pk t17 (Value.bool true) t21 w fun t22 w =>
  iff' t22
  (K (Value.tuple #[(Value.pointer none), (Value.int IntKind.i64 1)]) w)
  (mkMap w fun t23 w =>
  bld (zeroD prog 102) #[(0, 1), (1, 1)] [(0, t23)] w fun t24 w =>
  al (Value.cells t24) 102 w fun t25 w =>
  lp [(Value.int IntKind.i64 0)] w (b1 fun t27 w g1 =>
  bi .lss .i64 t27 t0 w fun t28 w =>
  iff' t28
  (J0 (fun w =>
  bi .add .i64 t27 (Value.int IntKind.i64 1) w fun t38 w =>
  g1 [t38] w) fun k2 =>
  bi .neq .i64 t27 t1 w fun t32 w =>
  iff' t32
  (ncP t25 <|
  fld 0 t25 w fun t35 w =>
  ld1 t35 w fun t36 w =>
  upM prog 100 t36 t27 (Value.int IntKind.i64 0) w fun _ w =>
  k2 w)
  (k2 w))
  (K (Value.tuple #[t25, (Value.int IntKind.i64 0)]) w)))
theorem clock_New_eq (t0 t1 : Value) (w : World) (K : KV) : clock_New t0 t1 w K = fnW prog 40 [4, 5] (match fn20.body with | some c => c | none => .skip) #[t0, t1] w K := by kernel_rfl
theorem clock_New_ok : fnOk prog 40 [4, 5] (match fn20.body with | some c => c | none => .skip) = true := by kernel_rfl
theorem clock_New_calls {t0 t1 : Value} {w : World} {K : KV} (h : clock_New t0 t1 w K) : Cl prog 20 #[t0, t1] w K :=
  ⟨by kernel_rfl, calls_of_F (fn := fn20) (nt := 40) (rs := [4, 5]) mixed fnAt20 (by kernel_rfl) (by kernel_rfl) (by kernel_rfl) (Nat.le_of_ble_eq_true (by kernel_rfl)) clock_New_ok (clock_New_eq t0 t1 w K) h⟩

end Go.Proofs.Ytiiekfcfledkhaa
