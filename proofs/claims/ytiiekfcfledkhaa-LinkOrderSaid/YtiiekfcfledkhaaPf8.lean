/- Printed by prt.py: the Go functions of this seat as shallow predicate transformers. Conditions: none. -/
import Derived.Test.YtiiekfcfledkhaaEngO
import Derived.Test.YtiiekfcfledkhaaPfHead
import Derived.KernelRfl
namespace Go.Proofs.Ytiiekfcfledkhaa
open Go Go.E
/-- (*paceline/gate.Gate).part -/
def gate_Gate_part (t0 t1 : Value) (w : World) (K : KV) : Prop :=
  ncP t0 <|
  fld 1 t0 w fun t11 w =>
  ld1 t11 w fun t12 w =>
  lnS t12 w fun t13 w =>
  lp [(Value.slice none 0 0), (Value.slice none 0 0), (Value.int IntKind.i64 0)] w (b3 fun t5 t6 t14 w g1 =>
  bi .lss .i64 t14 t13 w fun t15 w =>
  iff' t15
  (J2 (fun t5_1 t6_1 w =>
  bi .add .i64 t14 (Value.int IntKind.i64 1) w fun t29 w =>
  g1 [t5_1, t6_1, t29] w) fun k2 =>
  ixS 9 t12 t14 w fun t16 w =>
  ldN 9 t16 w fun t17 w =>
  al (zeroD prog 96) 96 w fun t8 w =>
  stN 9 t8 t17 w fun _ w =>
  ldN 9 t8 w fun t19 w =>
  clV prog t1 #[t19] w fun t20 w =>
  iff' t20
  (ldN 9 t8 w fun t22 w =>
  bsl 96 9 1 (zeroD prog 96) [(0, t22)] w fun t23 w =>
  apS prog #[92, 92] 92 t5 t23 w fun t24 w =>
  k2 t24 t6 w)
  (ldN 9 t8 w fun t26 w =>
  bsl 96 9 1 (zeroD prog 96) [(0, t26)] w fun t27 w =>
  apS prog #[92, 92] 92 t6 t27 w fun t28 w =>
  k2 t5 t28 w))
  (ncP t0 <|
  fld 1 t0 w fun t33 w =>
  stN 1 t33 t6 w fun _ w =>
  K t5 w))
theorem gate_Gate_part_eq (t0 t1 : Value) (w : World) (K : KV) : gate_Gate_part t0 t1 w K = fnW prog 35 [4] (match fn51.body with | some c => c | none => .skip) #[t0, t1] w K := by kernel_rfl
theorem gate_Gate_part_ok : fnOk prog 35 [4] (match fn51.body with | some c => c | none => .skip) = true := by kernel_rfl
theorem gate_Gate_part_calls {t0 t1 : Value} {w : World} {K : KV} (h : gate_Gate_part t0 t1 w K) : Cl prog 51 #[t0, t1] w K :=
  ⟨by kernel_rfl, calls_of_F (fn := fn51) (nt := 35) (rs := [4]) mixed fnAt51 (by kernel_rfl) (by kernel_rfl) (by kernel_rfl) (Nat.le_of_ble_eq_true (by kernel_rfl)) gate_Gate_part_ok (gate_Gate_part_eq t0 t1 w K) h⟩

/-- (*paceline/gate.Gate).Retract$1 -/
def gate_Gate_Retract_1 (t0 t1 : Value) (w : World) (K : KV) : Prop :=
  al (Value.cells t0) 96 w fun t2 w =>
  fld 3 t2 w fun t4 w =>
  fld 0 t4 w fun t5 w =>
  ldN 3 t5 w fun t6 w =>
  ldN 3 t1 w fun t7 w =>
  bO prog .eql 24 (Operand.tmp 6) (Operand.tmp 7) t6 t7 w fun t8 w =>
  K t8 w
theorem gate_Gate_Retract_1_eq (t0 t1 : Value) (w : World) (K : KV) : gate_Gate_Retract_1 t0 t1 w K = fnW prog 9 [3] (match fn52.body with | some c => c | none => .skip) #[t0, t1] w K := by kernel_rfl
theorem gate_Gate_Retract_1_ok : fnOk prog 9 [3] (match fn52.body with | some c => c | none => .skip) = true := by kernel_rfl
theorem gate_Gate_Retract_1_calls {t0 t1 : Value} {w : World} {K : KV} (h : gate_Gate_Retract_1 t0 t1 w K) : Cl prog 52 #[t0, t1] w K :=
  ⟨by kernel_rfl, calls_of_F (fn := fn52) (nt := 9) (rs := [3]) mixed fnAt52 (by kernel_rfl) (by kernel_rfl) (by kernel_rfl) (Nat.le_of_ble_eq_true (by kernel_rfl)) gate_Gate_Retract_1_ok (gate_Gate_Retract_1_eq t0 t1 w K) h⟩

/-- paceline/vtime.Valid -/
def vtime_Valid (t0 : Value) (w : World) (K : KV) : Prop :=
  bi .eql .i64 t0 (Value.int IntKind.i64 1125899906842624) w fun t4 w =>
  gd t4 false (fun k => k t0 w) w fun t6 w =>
  gd t4 false (fun k => cvI .u64 t6 w k) w fun t7 w =>
  gd t4 false (fun k => bi .leq .u64 t7 (Value.int IntKind.u64 1099511627776) w k) w fun t8 w =>
  pk t4 (Value.bool true) t8 w fun t9 w =>
  K t9 w
theorem vtime_Valid_eq (t0 : Value) (w : World) (K : KV) : vtime_Valid t0 w K = fnW prog 10 [2] (match fn53.body with | some c => c | none => .skip) #[t0] w K := by kernel_rfl
theorem vtime_Valid_ok : fnOk prog 10 [2] (match fn53.body with | some c => c | none => .skip) = true := by kernel_rfl
theorem vtime_Valid_calls {t0 : Value} {w : World} {K : KV} (h : vtime_Valid t0 w K) : Cl prog 53 #[t0] w K :=
  ⟨by kernel_rfl, calls_of_F (fn := fn53) (nt := 10) (rs := [2]) mixed fnAt53 (by kernel_rfl) (by kernel_rfl) (by kernel_rfl) (Nat.le_of_ble_eq_true (by kernel_rfl)) vtime_Valid_ok (vtime_Valid_eq t0 w K) h⟩

/-- (*paceline/clock.Clocks).Bound$1 -/
def clock_Clocks_Bound_1 (t0 t1 : Value) (w : World) (K : KV) : Prop :=
  ld1 t1 w fun t3 w =>
  mnI .i64 t3 t0 w fun t5 w =>
  stN 1 t1 t5 w fun _ w =>
  K (Value.tuple #[]) w
theorem clock_Clocks_Bound_1_eq (t0 t1 : Value) (w : World) (K : KV) : clock_Clocks_Bound_1 t0 t1 w K = fnW prog 6 [] (match fn54.body with | some c => c | none => .skip) #[t0, t1] w K := by kernel_rfl
theorem clock_Clocks_Bound_1_ok : fnOk prog 6 [] (match fn54.body with | some c => c | none => .skip) = true := by kernel_rfl
theorem clock_Clocks_Bound_1_calls {t0 t1 : Value} {w : World} {K : KV} (h : clock_Clocks_Bound_1 t0 t1 w K) : Cl prog 54 #[t0, t1] w K :=
  ⟨by kernel_rfl, calls_of_F (fn := fn54) (nt := 6) (rs := []) mixed fnAt54 (by kernel_rfl) (by kernel_rfl) (by kernel_rfl) (Nat.le_of_ble_eq_true (by kernel_rfl)) clock_Clocks_Bound_1_ok (clock_Clocks_Bound_1_eq t0 t1 w K) h⟩

/-- (*paceline/link.Net).of -/
def link_Net_of (t0 t1 t2 : Value) (w : World) (K : KV) : Prop :=
  bi .lss .i64 t1 (Value.int IntKind.i64 0) w fun t8 w =>
  gd t8 false (fun k => k t2 w) w fun t10 w =>
  gd t8 false (fun k => bi .lss .i64 t10 (Value.int IntKind.i64 0) w k) w fun t11 w =>
  pk t8 (Value.bool true) t11 w fun t12 w =>
  gd t12 false (fun k => k t1 w) w fun t14 w =>
  gd t12 false (fun k => k t0 w) w fun t15 w =>
  gd t12 false (fun k => nc t15 w k) w fun t16 w =>
  gd t12 false (fun k => fld 0 t16 w k) w fun t17 w =>
  gd t12 false (fun k => ld1 t17 w k) w fun t18 w =>
  gd t12 false (fun k => bi .geq .i64 t14 t18 w k) w fun t19 w =>
  pk t12 (Value.bool true) t19 w fun t20 w =>
  gd t20 false (fun k => k t2 w) w fun t22 w =>
  gd t20 false (fun k => k t0 w) w fun t23 w =>
  gd t20 false (fun k => nc t23 w k) w fun t24 w =>
  gd t20 false (fun k => fld 0 t24 w k) w fun t25 w =>
  gd t20 false (fun k => ld1 t25 w k) w fun t26 w =>
  gd t20 false (fun k => bi .geq .i64 t22 t26 w k) w fun t27 w =>
  pk t20 (Value.bool true) t27 w fun t28 w =>
  gd t28 false (fun k => k t1 w) w fun t30 w =>
  gd t28 false (fun k => k t2 w) w fun t31 w =>
  gd t28 false (fun k => bi .eql .i64 t30 t31 w k) w fun t32 w =>
  pk t28 (Value.bool true) t32 w fun t33 w =>
  iff' t33
  (K (Value.pointer none) w)
  (ncP t0 <|
  fld 2 t0 w fun t38 w =>
  ixA 8 1040 t38 t1 w fun t39 w =>
  ixA 8 130 t39 t2 w fun t40 w =>
  K t40 w)
theorem link_Net_of_eq (t0 t1 t2 : Value) (w : World) (K : KV) : link_Net_of t0 t1 t2 w K = fnW prog 41 [6] (match fn55.body with | some c => c | none => .skip) #[t0, t1, t2] w K := by kernel_rfl
theorem link_Net_of_ok : fnOk prog 41 [6] (match fn55.body with | some c => c | none => .skip) = true := by kernel_rfl
theorem link_Net_of_calls {t0 t1 t2 : Value} {w : World} {K : KV} (h : link_Net_of t0 t1 t2 w K) : Cl prog 55 #[t0, t1, t2] w K :=
  ⟨by kernel_rfl, calls_of_F (fn := fn55) (nt := 41) (rs := [6]) mixed fnAt55 (by kernel_rfl) (by kernel_rfl) (by kernel_rfl) (Nat.le_of_ble_eq_true (by kernel_rfl)) link_Net_of_ok (link_Net_of_eq t0 t1 t2 w K) h⟩

/-- (*paceline/link.Net).First -/
def link_Net_First (t0 t1 t2 : Value) (w : World) (K : KV) : Prop :=
  al (zeroD prog 55) 55 w fun t6 w =>
  Cl prog 55 #[t0, t1, t2] w fun t12 w =>
  bn .eql t12 w fun t14 w =>
  gd t14 false (fun k => k t12 w) w fun t16 w =>
  gd t14 false (fun k => nc t16 w k) w fun t17 w =>
  gd t14 false (fun k => fld 129 t17 w k) w fun t18 w =>
  gd t14 false (fun k => ld1 t18 w k) w fun t19 w =>
  gd t14 false (fun k => bi .eql .i64 t19 (Value.int IntKind.i64 0) w k) w fun t20 w =>
  pk t14 (Value.bool true) t20 w fun t21 w =>
  iff' t21
  (bld (zeroD prog 55) #[(0, 1), (1, 6), (7, 1)] [] w fun t22 w =>
  stN 8 t6 t22 w fun _ w =>
  ldN 8 t6 w fun r0 _ =>
  K (Value.tuple #[r0, (Value.bool false)]) w)
  (dr w fun w =>
  ncP t12 <|
  fld 128 t12 w fun t26 _ =>
  ld1 t26 w fun t27 _ =>
  ncP t12 <|
  fld 0 t12 w fun t29 _ =>
  ixA 16 8 t29 t27 w fun t30 _ =>
  ldN 8 t30 w fun t31 _ =>
  stN 8 t6 t31 w fun _ w =>
  ldN 8 t6 w fun r0 _ =>
  K (Value.tuple #[r0, (Value.bool true)]) w)
theorem link_Net_First_eq (t0 t1 t2 : Value) (w : World) (K : KV) : link_Net_First t0 t1 t2 w K = fnWC prog 32 [(6, some 55), (7, none)] (match fn56.body with | some c => c | none => .skip) #[t0, t1, t2] w K := by kernel_rfl
theorem link_Net_First_ok : fnOkC prog 32 [(6, some 55), (7, none)] (match fn56.body with | some c => c | none => .skip) = true := by kernel_rfl
theorem link_Net_First_calls {t0 t1 t2 : Value} {w : World} {K : KV} (h : link_Net_First t0 t1 t2 w K) : Cl prog 56 #[t0, t1, t2] w K :=
  ⟨by kernel_rfl, calls_of_FC (fn := fn56) (nt := 32) (rs := [(6, some 55), (7, none)]) mixed fnAt56 (by kernel_rfl) (by kernel_rfl) (by kernel_rfl) (Nat.le_of_ble_eq_true (by kernel_rfl)) link_Net_First_ok (link_Net_First_eq t0 t1 t2 w K) h⟩

end Go.Proofs.Ytiiekfcfledkhaa
