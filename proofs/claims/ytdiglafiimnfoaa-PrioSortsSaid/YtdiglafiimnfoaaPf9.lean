/- Printed by prt.py: the Go functions of this seat as shallow predicate transformers. Conditions: none. -/
import Derived.Test.YtdiglafiimnfoaaEngO
import Derived.Test.YtdiglafiimnfoaaPfHead
import Derived.KernelRfl
namespace Go.Proofs.Ytdiglafiimnfoaa
open Go Go.E
set_option linter.unusedVariables false
set_option maxRecDepth 100000
/-- (*paceline/calendar.Queue).Len -/
def calendar_Queue_Len (t0 : Value) (w : World) (K : KV) : Prop :=
  ncP t0 <|
  fld 2 t0 w fun t5 w =>
  ld1 t5 w fun t6 w =>
  K t6 w
theorem calendar_Queue_Len_eq (t0 : Value) (w : World) (K : KV) : calendar_Queue_Len t0 w K = fnW prog 7 [2] (match fn60.body with | some c => c | none => .skip) #[t0] w K := by kernel_rfl
theorem calendar_Queue_Len_ok : fnOk prog 7 [2] (match fn60.body with | some c => c | none => .skip) = true := by kernel_rfl
theorem calendar_Queue_Len_calls {t0 : Value} {w : World} {K : KV} (h : calendar_Queue_Len t0 w K) : Cl prog 60 #[t0] w K :=
  ⟨by kernel_rfl, calls_of_F (fn := fn60) (nt := 7) (rs := [2]) mixed fnAt60 (by kernel_rfl) (by kernel_rfl) (by kernel_rfl) (Nat.le_of_ble_eq_true (by kernel_rfl)) calendar_Queue_Len_ok (calendar_Queue_Len_eq t0 w K) h⟩

/-- paceline/gate.New -/
def gate_New (w : World) (K : KV) : Prop :=
  bld (zeroD prog 161) #[(0, 1), (1, 1)] [] w fun t1 w =>
  al (Value.cells t1) 161 w fun t2 w =>
  K t2 w
theorem gate_New_eq (w : World) (K : KV) : gate_New w K = fnW prog 3 [0] (match fn61.body with | some c => c | none => .skip) #[] w K := by kernel_rfl
theorem gate_New_ok : fnOk prog 3 [0] (match fn61.body with | some c => c | none => .skip) = true := by kernel_rfl
theorem gate_New_calls {w : World} {K : KV} (h : gate_New w K) : Cl prog 61 #[] w K :=
  ⟨by kernel_rfl, calls_of_F (fn := fn61) (nt := 3) (rs := [0]) mixed fnAt61 (by kernel_rfl) (by kernel_rfl) (by kernel_rfl) (Nat.le_of_ble_eq_true (by kernel_rfl)) gate_New_ok (gate_New_eq w K) h⟩

/-- (*paceline/gate.Gate).Hold -/
def gate_Gate_Hold (t0 t1 t2 : Value) (w : World) (K : KV) : Prop :=
  al (Value.cells t1) 61 w fun t4 w =>
  al (Value.cells t2) 63 w fun t5 w =>
  dr w fun w =>
  fld 0 t4 w fun t8 _ =>
  ld1 t8 w fun t9 _ =>
  ncP t0 <|
  fld 0 t0 w fun t12 _ =>
  ld1 t12 w fun t13 _ =>
  bi .lss .i64 t9 t13 w fun t14 _ =>
  iff' t14
  (K (Value.int IntKind.i64 110) w)
  (ncP t0 <|
  fld 1 t0 w fun t18 w =>
  ld1 t18 w fun t19 w =>
  lnS t19 w fun t20 w =>
  bi .geq .i64 t20 (Value.int IntKind.i64 256) w fun t21 w =>
  iff' t21
  (K (Value.int IntKind.i64 2) w)
  (dr w fun w =>
  ncP t0 <|
  fld 1 t0 w fun t25 _ =>
  ld1 t25 w fun t26 _ =>
  ldN 3 t4 w fun t27 _ =>
  ldN 6 t5 w fun t28 _ =>
  bld (zeroD prog 163) #[(0, 3), (3, 6)] [(0, t27), (1, t28)] w fun t29 w =>
  (ld1 t25 w (fun v' w'' => v' = t26 ∧ w'' = w)) ∧ (bsl 163 9 1 (zeroD prog 163) [(0, t29)] w fun t30 w =>
  (ld1 t25 w (fun v' w'' => v' = t26 ∧ w'' = w)) ∧ (apS prog #[159, 159] 159 t26 t30 w fun t31 w =>
  ncP t0 <|
  fld 1 t0 w fun t33 _ =>
  stN 1 t33 t31 w fun _ w =>
  K (Value.int IntKind.i64 0) w))))
theorem gate_Gate_Hold_eq (t0 t1 t2 : Value) (w : World) (K : KV) : gate_Gate_Hold t0 t1 t2 w K = fnW prog 34 [6] (match fn62.body with | some c => c | none => .skip) #[t0, t1, t2] w K := by kernel_rfl
theorem gate_Gate_Hold_ok : fnOk prog 34 [6] (match fn62.body with | some c => c | none => .skip) = true := by kernel_rfl
theorem gate_Gate_Hold_calls {t0 t1 t2 : Value} {w : World} {K : KV} (h : gate_Gate_Hold t0 t1 t2 w K) : Cl prog 62 #[t0, t1, t2] w K :=
  ⟨by kernel_rfl, calls_of_F (fn := fn62) (nt := 34) (rs := [6]) mixed fnAt62 (by kernel_rfl) (by kernel_rfl) (by kernel_rfl) (Nat.le_of_ble_eq_true (by kernel_rfl)) gate_Gate_Hold_ok (gate_Gate_Hold_eq t0 t1 t2 w K) h⟩

/-- (*paceline/gate.Gate).Open -/
def gate_Gate_Open (t0 t1 : Value) (w : World) (K : KV) : Prop :=
  al (Value.cells t1) 3 w fun t3 w =>
  Cl prog 95 #[t0, (Value.func (Fn.func 96) #[] #[t3])] w fun t8 w =>
  Cl prog 97 #[t8, (Value.func (.func 98) #[] #[])] w fun _ w =>
  dr w fun w =>
  ncP t0 <|
  fld 0 t0 w fun t14 _ =>
  ld1 t14 w fun t15 _ =>
  ld1 t3 w fun t16 _ =>
  mxI .i64 t15 t16 w fun t17 w =>
  ncP t0 <|
  fld 0 t0 w fun t19 _ =>
  stN 1 t19 t17 w fun _ w =>
  Cl prog 100 #[t8] w fun t21 w =>
  K t21 w
theorem gate_Gate_Open_eq (t0 t1 : Value) (w : World) (K : KV) : gate_Gate_Open t0 t1 w K = fnW prog 22 [4] (match fn63.body with | some c => c | none => .skip) #[t0, t1] w K := by kernel_rfl
theorem gate_Gate_Open_ok : fnOk prog 22 [4] (match fn63.body with | some c => c | none => .skip) = true := by kernel_rfl
theorem gate_Gate_Open_calls {t0 t1 : Value} {w : World} {K : KV} (h : gate_Gate_Open t0 t1 w K) : Cl prog 63 #[t0, t1] w K :=
  ⟨by kernel_rfl, calls_of_F (fn := fn63) (nt := 22) (rs := [4]) mixed fnAt63 (by kernel_rfl) (by kernel_rfl) (by kernel_rfl) (Nat.le_of_ble_eq_true (by kernel_rfl)) gate_Gate_Open_ok (gate_Gate_Open_eq t0 t1 w K) h⟩

/-- (*paceline/gate.Gate).Held -/
def gate_Gate_Held (t0 : Value) (w : World) (K : KV) : Prop :=
  ncP t0 <|
  fld 1 t0 w fun t5 w =>
  ld1 t5 w fun t6 w =>
  Cl prog 100 #[t6] w fun t7 w =>
  K t7 w
theorem gate_Gate_Held_eq (t0 : Value) (w : World) (K : KV) : gate_Gate_Held t0 w K = fnW prog 8 [2] (match fn64.body with | some c => c | none => .skip) #[t0] w K := by kernel_rfl
theorem gate_Gate_Held_ok : fnOk prog 8 [2] (match fn64.body with | some c => c | none => .skip) = true := by kernel_rfl
theorem gate_Gate_Held_calls {t0 : Value} {w : World} {K : KV} (h : gate_Gate_Held t0 w K) : Cl prog 64 #[t0] w K :=
  ⟨by kernel_rfl, calls_of_F (fn := fn64) (nt := 8) (rs := [2]) mixed fnAt64 (by kernel_rfl) (by kernel_rfl) (by kernel_rfl) (Nat.le_of_ble_eq_true (by kernel_rfl)) gate_Gate_Held_ok (gate_Gate_Held_eq t0 w K) h⟩

/-- (*paceline/gate.Gate).Floor -/
def gate_Gate_Floor (t0 : Value) (w : World) (K : KV) : Prop :=
  ncP t0 <|
  fld 0 t0 w fun t5 w =>
  ld1 t5 w fun t6 w =>
  K t6 w
theorem gate_Gate_Floor_eq (t0 : Value) (w : World) (K : KV) : gate_Gate_Floor t0 w K = fnW prog 7 [2] (match fn65.body with | some c => c | none => .skip) #[t0] w K := by kernel_rfl
theorem gate_Gate_Floor_ok : fnOk prog 7 [2] (match fn65.body with | some c => c | none => .skip) = true := by kernel_rfl
theorem gate_Gate_Floor_calls {t0 : Value} {w : World} {K : KV} (h : gate_Gate_Floor t0 w K) : Cl prog 65 #[t0] w K :=
  ⟨by kernel_rfl, calls_of_F (fn := fn65) (nt := 7) (rs := [2]) mixed fnAt65 (by kernel_rfl) (by kernel_rfl) (by kernel_rfl) (Nat.le_of_ble_eq_true (by kernel_rfl)) gate_Gate_Floor_ok (gate_Gate_Floor_eq t0 w K) h⟩

end Go.Proofs.Ytdiglafiimnfoaa
