/- Printed by prt.py: the Go functions of this seat as shallow predicate transformers. Conditions: none. -/
import Derived.Test.YtdiglafiimnfoaaEngO
import Derived.Test.YtdiglafiimnfoaaPfHead
import Derived.KernelRfl
namespace Go.Proofs.Ytdiglafiimnfoaa
open Go Go.E
set_option linter.unusedVariables false
set_option maxRecDepth 100000
/-- slices.SortStableFunc[[]paceline/gate.kept,paceline/gate.kept] -/
def slices_SortStableFunc_gate_kept_gate_kept (t0 t1 : Value) (w : World) (K : KV) : Prop :=
  lnS t0 w fun t6 w =>
  Cl prog 112 #[t0, t6, t1] w fun _ w =>
  K (Value.tuple #[]) w
theorem slices_SortStableFunc_gate_kept_gate_kept_eq (t0 t1 : Value) (w : World) (K : KV) : slices_SortStableFunc_gate_kept_gate_kept t0 t1 w K = fnW prog 9 [] (match fn97.body with | some c => c | none => .skip) #[t0, t1] w K := by kernel_rfl
theorem slices_SortStableFunc_gate_kept_gate_kept_ok : fnOk prog 9 [] (match fn97.body with | some c => c | none => .skip) = true := by kernel_rfl
theorem slices_SortStableFunc_gate_kept_gate_kept_calls {t0 t1 : Value} {w : World} {K : KV} (h : slices_SortStableFunc_gate_kept_gate_kept t0 t1 w K) : Cl prog 97 #[t0, t1] w K :=
  ⟨by kernel_rfl, calls_of_F (fn := fn97) (nt := 9) (rs := []) mixed fnAt97 (by kernel_rfl) (by kernel_rfl) (by kernel_rfl) (Nat.le_of_ble_eq_true (by kernel_rfl)) slices_SortStableFunc_gate_kept_gate_kept_ok (slices_SortStableFunc_gate_kept_gate_kept_eq t0 t1 w K) h⟩

/-- (*paceline/gate.Gate).Open$2 -/
def gate_Gate_Open_2 (t0 t1 : Value) (w : World) (K : KV) : Prop :=
  al (Value.cells t0) 163 w fun t2 w =>
  al (Value.cells t1) 163 w fun t3 w =>
  fld 0 t2 w fun t5 w =>
  ldN 3 t5 w fun t6 w =>
  fld 0 t3 w fun t7 w =>
  ldN 3 t7 w fun t8 w =>
  Cl prog 99 #[t6, t8] w fun t9 w =>
  K t9 w
theorem gate_Gate_Open_2_eq (t0 t1 : Value) (w : World) (K : KV) : gate_Gate_Open_2 t0 t1 w K = fnW prog 10 [4] (match fn98.body with | some c => c | none => .skip) #[t0, t1] w K := by kernel_rfl
theorem gate_Gate_Open_2_ok : fnOk prog 10 [4] (match fn98.body with | some c => c | none => .skip) = true := by kernel_rfl
theorem gate_Gate_Open_2_calls {t0 t1 : Value} {w : World} {K : KV} (h : gate_Gate_Open_2 t0 t1 w K) : Cl prog 98 #[t0, t1] w K :=
  ⟨by kernel_rfl, calls_of_F (fn := fn98) (nt := 10) (rs := [4]) mixed fnAt98 (by kernel_rfl) (by kernel_rfl) (by kernel_rfl) (Nat.le_of_ble_eq_true (by kernel_rfl)) gate_Gate_Open_2_ok (gate_Gate_Open_2_eq t0 t1 w K) h⟩

/-- paceline/vtime.Cmp -/
def vtime_Cmp (t0 t1 : Value) (w : World) (K : KV) : Prop :=
  al (Value.cells t0) 61 w fun t2 w =>
  al (Value.cells t1) 61 w fun t3 w =>
  dr w fun w =>
  fld 0 t2 w fun t5 _ =>
  ld1 t5 w fun t6 _ =>
  fld 0 t3 w fun t7 _ =>
  ld1 t7 w fun t8 _ =>
  fld 1 t2 w fun t10 _ =>
  ld1 t10 w fun t11 _ =>
  fld 1 t3 w fun t12 _ =>
  ld1 t12 w fun t13 _ =>
  fld 2 t2 w fun t15 _ =>
  ld1 t15 w fun t16 _ =>
  fld 2 t3 w fun t17 _ =>
  ld1 t17 w fun t18 _ =>
  Cl prog 114 #[t6, t8] w fun t9 w =>
  (ld1 t17 w (fun v' w'' => v' = t18 ∧ w'' = w)) ∧ ((ld1 t15 w (fun v' w'' => v' = t16 ∧ w'' = w)) ∧ ((ld1 t12 w (fun v' w'' => v' = t13 ∧ w'' = w)) ∧ ((ld1 t10 w (fun v' w'' => v' = t11 ∧ w'' = w)) ∧ (Cl prog 114 #[t11, t13] w fun t14 w =>
  (ld1 t17 w (fun v' w'' => v' = t18 ∧ w'' = w)) ∧ ((ld1 t15 w (fun v' w'' => v' = t16 ∧ w'' = w)) ∧ (Cl prog 114 #[t16, t18] w fun t19 w =>
  bsl 3 1 3 (zeroD prog 3) [(0, t9), (1, t14), (2, t19)] w fun t20 w =>
  Cl prog 113 #[t20] w fun t21 w =>
  K t21 w))))))
theorem vtime_Cmp_eq (t0 t1 : Value) (w : World) (K : KV) : vtime_Cmp t0 t1 w K = fnW prog 22 [4] (match fn99.body with | some c => c | none => .skip) #[t0, t1] w K := by kernel_rfl
theorem vtime_Cmp_ok : fnOk prog 22 [4] (match fn99.body with | some c => c | none => .skip) = true := by kernel_rfl
theorem vtime_Cmp_calls {t0 t1 : Value} {w : World} {K : KV} (h : vtime_Cmp t0 t1 w K) : Cl prog 99 #[t0, t1] w K :=
  ⟨by kernel_rfl, calls_of_F (fn := fn99) (nt := 22) (rs := [4]) mixed fnAt99 (by kernel_rfl) (by kernel_rfl) (by kernel_rfl) (Nat.le_of_ble_eq_true (by kernel_rfl)) vtime_Cmp_ok (vtime_Cmp_eq t0 t1 w K) h⟩

/-- paceline/gate.messages -/
def gate_messages (t0 : Value) (w : World) (K : KV) : Prop :=
  lnS t0 w fun t7 w =>
  lp [(Value.slice none 0 0), (Value.int IntKind.i64 0)] w (b2 fun t3 t8 w g1 =>
  bi .lss .i64 t8 t7 w fun t9 w =>
  iff' t9
  (ixS 9 t0 t8 w fun t10 w =>
  ldN 9 t10 w fun t11 w =>
  al (zeroD prog 163) 163 w fun t5 w =>
  stN 9 t5 t11 w fun _ w =>
  fld 3 t5 w fun t13 w =>
  ldN 6 t13 w fun t14 w =>
  bsl 63 6 1 (zeroD prog 63) [(0, t14)] w fun t15 w =>
  apS prog #[78, 78] 78 t3 t15 w fun t16 w =>
  bi .add .i64 t8 (Value.int IntKind.i64 1) w fun t17 w =>
  g1 [t16, t17] w)
  (K t3 w))
theorem gate_messages_eq (t0 : Value) (w : World) (K : KV) : gate_messages t0 w K = fnW prog 19 [2] (match fn100.body with | some c => c | none => .skip) #[t0] w K := by kernel_rfl
theorem gate_messages_ok : fnOk prog 19 [2] (match fn100.body with | some c => c | none => .skip) = true := by kernel_rfl
theorem gate_messages_calls {t0 : Value} {w : World} {K : KV} (h : gate_messages t0 w K) : Cl prog 100 #[t0] w K :=
  ⟨by kernel_rfl, calls_of_F (fn := fn100) (nt := 19) (rs := [2]) mixed fnAt100 (by kernel_rfl) (by kernel_rfl) (by kernel_rfl) (Nat.le_of_ble_eq_true (by kernel_rfl)) gate_messages_ok (gate_messages_eq t0 w K) h⟩

/-- (*paceline/gate.Gate).Drop$1 -/
def gate_Gate_Drop_1 (t0 t1 : Value) (w : World) (K : KV) : Prop :=
  al (Value.cells t0) 163 w fun t2 w =>
  fld 0 t2 w fun t4 w =>
  ldN 3 t4 w fun t5 w =>
  ldN 3 t1 w fun t6 w =>
  Cl prog 99 #[t5, t6] w fun t7 w =>
  bi .geq .i64 t7 (Value.int IntKind.i64 0) w fun t8 w =>
  K t8 w
theorem gate_Gate_Drop_1_eq (t0 t1 : Value) (w : World) (K : KV) : gate_Gate_Drop_1 t0 t1 w K = fnW prog 9 [3] (match fn101.body with | some c => c | none => .skip) #[t0, t1] w K := by kernel_rfl
theorem gate_Gate_Drop_1_ok : fnOk prog 9 [3] (match fn101.body with | some c => c | none => .skip) = true := by kernel_rfl
theorem gate_Gate_Drop_1_calls {t0 t1 : Value} {w : World} {K : KV} (h : gate_Gate_Drop_1 t0 t1 w K) : Cl prog 101 #[t0, t1] w K :=
  ⟨by kernel_rfl, calls_of_F (fn := fn101) (nt := 9) (rs := [3]) mixed fnAt101 (by kernel_rfl) (by kernel_rfl) (by kernel_rfl) (Nat.le_of_ble_eq_true (by kernel_rfl)) gate_Gate_Drop_1_ok (gate_Gate_Drop_1_eq t0 t1 w K) h⟩

/-- (*paceline/gate.Gate).Retract$1 -/
def gate_Gate_Retract_1 (t0 t1 : Value) (w : World) (K : KV) : Prop :=
  al (Value.cells t0) 163 w fun t2 w =>
  fld 3 t2 w fun t4 w =>
  fld 0 t4 w fun t5 w =>
  ldN 3 t5 w fun t6 w =>
  ldN 3 t1 w fun t7 w =>
  bO prog .eql 61 (Operand.tmp 6) (Operand.tmp 7) t6 t7 w fun t8 w =>
  K t8 w
theorem gate_Gate_Retract_1_eq (t0 t1 : Value) (w : World) (K : KV) : gate_Gate_Retract_1 t0 t1 w K = fnW prog 9 [3] (match fn102.body with | some c => c | none => .skip) #[t0, t1] w K := by kernel_rfl
theorem gate_Gate_Retract_1_ok : fnOk prog 9 [3] (match fn102.body with | some c => c | none => .skip) = true := by kernel_rfl
theorem gate_Gate_Retract_1_calls {t0 t1 : Value} {w : World} {K : KV} (h : gate_Gate_Retract_1 t0 t1 w K) : Cl prog 102 #[t0, t1] w K :=
  ⟨by kernel_rfl, calls_of_F (fn := fn102) (nt := 9) (rs := [3]) mixed fnAt102 (by kernel_rfl) (by kernel_rfl) (by kernel_rfl) (Nat.le_of_ble_eq_true (by kernel_rfl)) gate_Gate_Retract_1_ok (gate_Gate_Retract_1_eq t0 t1 w K) h⟩

end Go.Proofs.Ytdiglafiimnfoaa
