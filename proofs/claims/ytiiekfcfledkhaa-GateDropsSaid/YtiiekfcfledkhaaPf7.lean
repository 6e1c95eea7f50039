/- Printed by prt.py: the Go functions of this seat as shallow predicate transformers. Conditions: none. -/
import Derived.Test.YtiiekfcfledkhaaEngD
import Derived.Test.YtiiekfcfledkhaaPfHead
import Derived.KernelRfl
namespace Go.Proofs.Ytiiekfcfledkhaa
open Go Go.E
/-- paceline/prio.New -/
def prio_New (t0 : Value) (w : World) (K : KV) : Prop :=
  mnI .i64 t0 (Value.int IntKind.i64 64) w fun t4 w =>
  mxI .i64 (Value.int IntKind.i64 0) t4 w fun t5 w =>
  mkMap w fun t6 w =>
  bld (zeroD prog 129) #[(0, 1), (1, 1), (2, 1)] [(0, t5), (2, t6)] w fun t7 w =>
  al (Value.cells t7) 129 w fun t8 w =>
  K t8 w
theorem prio_New_eq (t0 : Value) (w : World) (K : KV) : prio_New t0 w K = fnW prog 9 [2] (match fn46.body with | some c => c | none => .skip) #[t0] w K := by kernel_rfl
theorem prio_New_ok : fnOk prog 9 [2] (match fn46.body with | some c => c | none => .skip) = true := by kernel_rfl
theorem prio_New_calls {t0 : Value} {w : World} {K : KV} (h : prio_New t0 w K) : Cl prog 46 #[t0] w K :=
  ⟨by kernel_rfl, calls_of_F (fn := fn46) (nt := 9) (rs := [2]) mixed fnAt46 (by kernel_rfl) (by kernel_rfl) (by kernel_rfl) (Nat.le_of_ble_eq_true (by kernel_rfl)) prio_New_ok (prio_New_eq t0 w K) h⟩

/-- (*paceline/prio.Queue).Push -/
def prio_Queue_Push (t0 t1 : Value) (w : World) (K : KV) : Prop :=
  al (Value.cells t1) 28 w fun t3 w =>
  dr w fun w =>
  ncP t0 <|
  fld 2 t0 w fun t10 _ =>
  ld1 t10 w fun t11 _ =>
  fld 0 t3 w fun t12 _ =>
  ldN 3 t12 w fun t13 _ =>
  lkM prog 127 t11 t13 true w fun t14 w =>
  xt 0 t14 w fun _ _ =>
  xt 1 t14 w fun t16 _ =>
  iff' t16
  (K (Value.int IntKind.i64 3) w)
  (dr w fun w =>
  ncP t0 <|
  fld 1 t0 w fun t20 _ =>
  ld1 t20 w fun t21 _ =>
  lnS t21 w fun t22 _ =>
  ncP t0 <|
  fld 0 t0 w fun t25 _ =>
  ld1 t25 w fun t26 _ =>
  bi .geq .i64 t22 t26 w fun t27 _ =>
  iff' t27
  (K (Value.int IntKind.i64 2) w)
  (bld (zeroD prog 132) #[(0, 1)] [(0, t0)] w fun t29 w =>
  ldN 6 t3 w fun t31 w =>
  Cl prog 68 #[(Value.iface 132 t29), (Value.iface 28 t31)] w fun _ w =>
  K (Value.int IntKind.i64 0) w))
theorem prio_Queue_Push_eq (t0 t1 : Value) (w : World) (K : KV) : prio_Queue_Push t0 t1 w K = fnW prog 34 [4] (match fn47.body with | some c => c | none => .skip) #[t0, t1] w K := by kernel_rfl
theorem prio_Queue_Push_ok : fnOk prog 34 [4] (match fn47.body with | some c => c | none => .skip) = true := by kernel_rfl
theorem prio_Queue_Push_calls {t0 t1 : Value} {w : World} {K : KV} (h : prio_Queue_Push t0 t1 w K) : Cl prog 47 #[t0, t1] w K :=
  ⟨by kernel_rfl, calls_of_F (fn := fn47) (nt := 34) (rs := [4]) mixed fnAt47 (by kernel_rfl) (by kernel_rfl) (by kernel_rfl) (Nat.le_of_ble_eq_true (by kernel_rfl)) prio_Queue_Push_ok (prio_Queue_Push_eq t0 t1 w K) h⟩

/-- (*paceline/prio.Queue).Len -/
def prio_Queue_Len (t0 : Value) (w : World) (K : KV) : Prop :=
  ncP t0 <|
  fld 1 t0 w fun t5 w =>
  ld1 t5 w fun t6 w =>
  lnS t6 w fun t7 w =>
  K t7 w
theorem prio_Queue_Len_eq (t0 : Value) (w : World) (K : KV) : prio_Queue_Len t0 w K = fnW prog 8 [2] (match fn48.body with | some c => c | none => .skip) #[t0] w K := by kernel_rfl
theorem prio_Queue_Len_ok : fnOk prog 8 [2] (match fn48.body with | some c => c | none => .skip) = true := by kernel_rfl
theorem prio_Queue_Len_calls {t0 : Value} {w : World} {K : KV} (h : prio_Queue_Len t0 w K) : Cl prog 48 #[t0] w K :=
  ⟨by kernel_rfl, calls_of_F (fn := fn48) (nt := 8) (rs := [2]) mixed fnAt48 (by kernel_rfl) (by kernel_rfl) (by kernel_rfl) (Nat.le_of_ble_eq_true (by kernel_rfl)) prio_Queue_Len_ok (prio_Queue_Len_eq t0 w K) h⟩

/-- paceline/gate.messages -/
def gate_messages (t0 : Value) (w : World) (K : KV) : Prop :=
  lnS t0 w fun t7 w =>
  lp [(Value.slice none 0 0), (Value.int IntKind.i64 0)] w (b2 fun t3 t8 w g1 =>
  bi .lss .i64 t8 t7 w fun t9 w =>
  iff' t9
  (ixS 9 t0 t8 w fun t10 w =>
  ldN 9 t10 w fun t11 w =>
  al (zeroD prog 96) 96 w fun t5 w =>
  stN 9 t5 t11 w fun _ w =>
  fld 3 t5 w fun t13 w =>
  ldN 6 t13 w fun t14 w =>
  bsl 28 6 1 (zeroD prog 28) [(0, t14)] w fun t15 w =>
  apS prog #[33, 33] 33 t3 t15 w fun t16 w =>
  bi .add .i64 t8 (Value.int IntKind.i64 1) w fun t17 w =>
  g1 [t16, t17] w)
  (K t3 w))
theorem gate_messages_eq (t0 : Value) (w : World) (K : KV) : gate_messages t0 w K = fnW prog 19 [2] (match fn50.body with | some c => c | none => .skip) #[t0] w K := by kernel_rfl
theorem gate_messages_ok : fnOk prog 19 [2] (match fn50.body with | some c => c | none => .skip) = true := by kernel_rfl
theorem gate_messages_calls {t0 : Value} {w : World} {K : KV} (h : gate_messages t0 w K) : Cl prog 50 #[t0] w K :=
  ⟨by kernel_rfl, calls_of_F (fn := fn50) (nt := 19) (rs := [2]) mixed fnAt50 (by kernel_rfl) (by kernel_rfl) (by kernel_rfl) (Nat.le_of_ble_eq_true (by kernel_rfl)) gate_messages_ok (gate_messages_eq t0 w K) h⟩

/-- (*paceline/gate.Gate).part -/
def gate_Gate_part (t0 t1 : Value) (w : World) (K : KV) : Prop :=
  ncP t0 <|
  fld 1 t0 w fun t11 w =>
  ld1 t11 w fun t12 w =>
  lnS t12 w fun t13 w =>
  lp [(Value.slice none 0 0), (Value.slice none 0 0), (Value.int IntKind.i64 0)] w (b3 fun t5 t6 t14 w g1 =>
  bi .lss .i64 t14 t13 w fun t15 w =>
  iff' t15
  (J2 (fun t5_1 t6_1 w =>
  bi .add .i64 t14 (Value.int IntKind.i64 1) w fun t29 w =>
  g1 [t5_1, t6_1, t29] w) fun k2 =>
  ixS 9 t12 t14 w fun t16 w =>
  ldN 9 t16 w fun t17 w =>
  al (zeroD prog 96) 96 w fun t8 w =>
  stN 9 t8 t17 w fun _ w =>
  ldN 9 t8 w fun t19 w =>
  clV prog t1 #[t19] w fun t20 w =>
  iff' t20
  (ldN 9 t8 w fun t22 w =>
  bsl 96 9 1 (zeroD prog 96) [(0, t22)] w fun t23 w =>
  apS prog #[92, 92] 92 t5 t23 w fun t24 w =>
  k2 t24 t6 w)
  (ldN 9 t8 w fun t26 w =>
  bsl 96 9 1 (zeroD prog 96) [(0, t26)] w fun t27 w =>
  apS prog #[92, 92] 92 t6 t27 w fun t28 w =>
  k2 t5 t28 w))
  (ncP t0 <|
  fld 1 t0 w fun t33 w =>
  stN 1 t33 t6 w fun _ w =>
  K t5 w))
theorem gate_Gate_part_eq (t0 t1 : Value) (w : World) (K : KV) : gate_Gate_part t0 t1 w K = fnW prog 35 [4] (match fn51.body with | some c => c | none => .skip) #[t0, t1] w K := by kernel_rfl
theorem gate_Gate_part_ok : fnOk prog 35 [4] (match fn51.body with | some c => c | none => .skip) = true := by kernel_rfl
theorem gate_Gate_part_calls {t0 t1 : Value} {w : World} {K : KV} (h : gate_Gate_part t0 t1 w K) : Cl prog 51 #[t0, t1] w K :=
  ⟨by kernel_rfl, calls_of_F (fn := fn51) (nt := 35) (rs := [4]) mixed fnAt51 (by kernel_rfl) (by kernel_rfl) (by kernel_rfl) (Nat.le_of_ble_eq_true (by kernel_rfl)) gate_Gate_part_ok (gate_Gate_part_eq t0 t1 w K) h⟩

/-- (*paceline/gate.Gate).Retract$1 -/
def gate_Gate_Retract_1 (t0 t1 : Value) (w : World) (K : KV) : Prop :=
  al (Value.cells t0) 96 w fun t2 w =>
  fld 3 t2 w fun t4 w =>
  fld 0 t4 w fun t5 w =>
  ldN 3 t5 w fun t6 w =>
  ldN 3 t1 w fun t7 w =>
  bO prog .eql 24 (Operand.tmp 6) (Operand.tmp 7) t6 t7 w fun t8 w =>
  K t8 w
theorem gate_Gate_Retract_1_eq (t0 t1 : Value) (w : World) (K : KV) : gate_Gate_Retract_1 t0 t1 w K = fnW prog 9 [3] (match fn52.body with | some c => c | none => .skip) #[t0, t1] w K := by kernel_rfl
theorem gate_Gate_Retract_1_ok : fnOk prog 9 [3] (match fn52.body with | some c => c | none => .skip) = true := by kernel_rfl
theorem gate_Gate_Retract_1_calls {t0 t1 : Value} {w : World} {K : KV} (h : gate_Gate_Retract_1 t0 t1 w K) : Cl prog 52 #[t0, t1] w K :=
  ⟨by kernel_rfl, calls_of_F (fn := fn52) (nt := 9) (rs := [3]) mixed fnAt52 (by kernel_rfl) (by kernel_rfl) (by kernel_rfl) (Nat.le_of_ble_eq_true (by kernel_rfl)) gate_Gate_Retract_1_ok (gate_Gate_Retract_1_eq t0 t1 w K) h⟩

end Go.Proofs.Ytiiekfcfledkhaa
