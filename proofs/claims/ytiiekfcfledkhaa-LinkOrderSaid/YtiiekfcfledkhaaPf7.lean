/- Printed by prt.py: the Go functions of this seat as shallow predicate transformers. Conditions: none. -/
import Derived.Test.YtiiekfcfledkhaaEngO
import Derived.Test.YtiiekfcfledkhaaPfHead
import Derived.KernelRfl
namespace Go.Proofs.Ytiiekfcfledkhaa
open Go Go.E
/-- (*paceline/gate.Gate).Drop -/
def gate_Gate_Drop (t0 t1 : Value) (w : World) (K : KV) : Prop :=
  al (Value.cells t1) 24 w fun t3 w =>
  Cl prog 51 #[t0, (Value.func (Fn.func 66) #[] #[t3])] w fun t7 w =>
  Cl prog 50 #[t7] w fun t8 w =>
  K t8 w
theorem gate_Gate_Drop_eq (t0 t1 : Value) (w : World) (K : KV) : gate_Gate_Drop t0 t1 w K = fnW prog 9 [4] (match fn45.body with | some c => c | none => .skip) #[t0, t1] w K := by kernel_rfl
theorem gate_Gate_Drop_ok : fnOk prog 9 [4] (match fn45.body with | some c => c | none => .skip) = true := by kernel_rfl
theorem gate_Gate_Drop_calls {t0 t1 : Value} {w : World} {K : KV} (h : gate_Gate_Drop t0 t1 w K) : Cl prog 45 #[t0, t1] w K :=
  ⟨by kernel_rfl, calls_of_F (fn := fn45) (nt := 9) (rs := [4]) mixed fnAt45 (by kernel_rfl) (by kernel_rfl) (by kernel_rfl) (Nat.le_of_ble_eq_true (by kernel_rfl)) gate_Gate_Drop_ok (gate_Gate_Drop_eq t0 t1 w K) h⟩

/-- paceline/prio.New -/
def prio_New (t0 : Value) (w : World) (K : KV) : Prop :=
  mnI .i64 t0 (Value.int IntKind.i64 64) w fun t4 w =>
  mxI .i64 (Value.int IntKind.i64 0) t4 w fun t5 w =>
  mkMap w fun t6 w =>
  bld (zeroD prog 129) #[(0, 1), (1, 1), (2, 1)] [(0, t5), (2, t6)] w fun t7 w =>
  al (Value.cells t7) 129 w fun t8 w =>
  K t8 w
theorem prio_New_eq (t0 : Value) (w : World) (K : KV) : prio_New t0 w K = fnW prog 9 [2] (match fn46.body with | some c => c | none => .skip) #[t0] w K := by kernel_rfl
theorem prio_New_ok : fnOk prog 9 [2] (match fn46.body with | some c => c | none => .skip) = true := by kernel_rfl
theorem prio_New_calls {t0 : Value} {w : World} {K : KV} (h : prio_New t0 w K) : Cl prog 46 #[t0] w K :=
  ⟨by kernel_rfl, calls_of_F (fn := fn46) (nt := 9) (rs := [2]) mixed fnAt46 (by kernel_rfl) (by kernel_rfl) (by kernel_rfl) (Nat.le_of_ble_eq_true (by kernel_rfl)) prio_New_ok (prio_New_eq t0 w K) h⟩

/-- (*paceline/prio.Queue).Push -/
def prio_Queue_Push (t0 t1 : Value) (w : World) (K : KV) : Prop :=
  al (Value.cells t1) 28 w fun t3 w =>
  dr w fun w =>
  ncP t0 <|
  fld 2 t0 w fun t10 _ =>
  ld1 t10 w fun t11 _ =>
  fld 0 t3 w fun t12 _ =>
  ldN 3 t12 w fun t13 _ =>
  lkM prog 127 t11 t13 true w fun t14 w =>
  xt 0 t14 w fun _ _ =>
  xt 1 t14 w fun t16 _ =>
  iff' t16
  (K (Value.int IntKind.i64 3) w)
  (dr w fun w =>
  ncP t0 <|
  fld 1 t0 w fun t20 _ =>
  ld1 t20 w fun t21 _ =>
  lnS t21 w fun t22 _ =>
  ncP t0 <|
  fld 0 t0 w fun t25 _ =>
  ld1 t25 w fun t26 _ =>
  bi .geq .i64 t22 t26 w fun t27 _ =>
  iff' t27
  (K (Value.int IntKind.i64 2) w)
  (bld (zeroD prog 132) #[(0, 1)] [(0, t0)] w fun t29 w =>
  ldN 6 t3 w fun t31 w =>
  Cl prog 68 #[(Value.iface 132 t29), (Value.iface 28 t31)] w fun _ w =>
  K (Value.int IntKind.i64 0) w))
theorem prio_Queue_Push_eq (t0 t1 : Value) (w : World) (K : KV) : prio_Queue_Push t0 t1 w K = fnW prog 34 [4] (match fn47.body with | some c => c | none => .skip) #[t0, t1] w K := by kernel_rfl
theorem prio_Queue_Push_ok : fnOk prog 34 [4] (match fn47.body with | some c => c | none => .skip) = true := by kernel_rfl
theorem prio_Queue_Push_calls {t0 t1 : Value} {w : World} {K : KV} (h : prio_Queue_Push t0 t1 w K) : Cl prog 47 #[t0, t1] w K :=
  ⟨by kernel_rfl, calls_of_F (fn := fn47) (nt := 34) (rs := [4]) mixed fnAt47 (by kernel_rfl) (by kernel_rfl) (by kernel_rfl) (Nat.le_of_ble_eq_true (by kernel_rfl)) prio_Queue_Push_ok (prio_Queue_Push_eq t0 t1 w K) h⟩

/-- (*paceline/prio.Queue).Len -/
def prio_Queue_Len (t0 : Value) (w : World) (K : KV) : Prop :=
  ncP t0 <|
  fld 1 t0 w fun t5 w =>
  ld1 t5 w fun t6 w =>
  lnS t6 w fun t7 w =>
  K t7 w
theorem prio_Queue_Len_eq (t0 : Value) (w : World) (K : KV) : prio_Queue_Len t0 w K = fnW prog 8 [2] (match fn48.body with | some c => c | none => .skip) #[t0] w K := by kernel_rfl
theorem prio_Queue_Len_ok : fnOk prog 8 [2] (match fn48.body with | some c => c | none => .skip) = true := by kernel_rfl
theorem prio_Queue_Len_calls {t0 : Value} {w : World} {K : KV} (h : prio_Queue_Len t0 w K) : Cl prog 48 #[t0] w K :=
  ⟨by kernel_rfl, calls_of_F (fn := fn48) (nt := 8) (rs := [2]) mixed fnAt48 (by kernel_rfl) (by kernel_rfl) (by kernel_rfl) (Nat.le_of_ble_eq_true (by kernel_rfl)) prio_Queue_Len_ok (prio_Queue_Len_eq t0 w K) h⟩

/-- (*paceline/prio.Queue).First -/
def prio_Queue_First (t0 : Value) (w : World) (K : KV) : Prop :=
  al (zeroD prog 28) 28 w fun t2 w =>
  ncP t0 <|
  fld 1 t0 w fun t6 w =>
  ld1 t6 w fun t7 w =>
  lnS t7 w fun t8 w =>
  bi .eql .i64 t8 (Value.int IntKind.i64 0) w fun t9 w =>
  iff' t9
  (bld (zeroD prog 28) #[(0, 3), (3, 1), (4, 1), (5, 1)] [] w fun t10 w =>
  stN 6 t2 t10 w fun _ w =>
  ldN 6 t2 w fun r0 _ =>
  K (Value.tuple #[r0, (Value.bool false)]) w)
  (ncP t0 <|
  fld 1 t0 w fun t13 w =>
  ld1 t13 w fun t14 w =>
  ixS 6 t14 (Value.int IntKind.i64 0) w fun t15 w =>
  ldN 6 t15 w fun t16 w =>
  stN 6 t2 t16 w fun _ w =>
  ldN 6 t2 w fun r0 _ =>
  K (Value.tuple #[r0, (Value.bool true)]) w)
theorem prio_Queue_First_eq (t0 : Value) (w : World) (K : KV) : prio_Queue_First t0 w K = fnWC prog 17 [(2, some 28), (3, none)] (match fn49.body with | some c => c | none => .skip) #[t0] w K := by kernel_rfl
theorem prio_Queue_First_ok : fnOkC prog 17 [(2, some 28), (3, none)] (match fn49.body with | some c => c | none => .skip) = true := by kernel_rfl
theorem prio_Queue_First_calls {t0 : Value} {w : World} {K : KV} (h : prio_Queue_First t0 w K) : Cl prog 49 #[t0] w K :=
  ⟨by kernel_rfl, calls_of_FC (fn := fn49) (nt := 17) (rs := [(2, some 28), (3, none)]) mixed fnAt49 (by kernel_rfl) (by kernel_rfl) (by kernel_rfl) (Nat.le_of_ble_eq_true (by kernel_rfl)) prio_Queue_First_ok (prio_Queue_First_eq t0 w K) h⟩

/-- paceline/gate.messages -/
def gate_messages (t0 : Value) (w : World) (K : KV) : Prop :=
  lnS t0 w fun t7 w =>
  lp [(Value.slice none 0 0), (Value.int IntKind.i64 0)] w (b2 fun t3 t8 w g1 =>
  bi .lss .i64 t8 t7 w fun t9 w =>
  iff' t9
  (ixS 9 t0 t8 w fun t10 w =>
  ldN 9 t10 w fun t11 w =>
  al (zeroD prog 96) 96 w fun t5 w =>
  stN 9 t5 t11 w fun _ w =>
  fld 3 t5 w fun t13 w =>
  ldN 6 t13 w fun t14 w =>
  bsl 28 6 1 (zeroD prog 28) [(0, t14)] w fun t15 w =>
  apS prog #[33, 33] 33 t3 t15 w fun t16 w =>
  bi .add .i64 t8 (Value.int IntKind.i64 1) w fun t17 w =>
  g1 [t16, t17] w)
  (K t3 w))
theorem gate_messages_eq (t0 : Value) (w : World) (K : KV) : gate_messages t0 w K = fnW prog 19 [2] (match fn50.body with | some c => c | none => .skip) #[t0] w K := by kernel_rfl
theorem gate_messages_ok : fnOk prog 19 [2] (match fn50.body with | some c => c | none => .skip) = true := by kernel_rfl
theorem gate_messages_calls {t0 : Value} {w : World} {K : KV} (h : gate_messages t0 w K) : Cl prog 50 #[t0] w K :=
  ⟨by kernel_rfl, calls_of_F (fn := fn50) (nt := 19) (rs := [2]) mixed fnAt50 (by kernel_rfl) (by kernel_rfl) (by kernel_rfl) (Nat.le_of_ble_eq_true (by kernel_rfl)) gate_messages_ok (gate_messages_eq t0 w K) h⟩

end Go.Proofs.Ytiiekfcfledkhaa
