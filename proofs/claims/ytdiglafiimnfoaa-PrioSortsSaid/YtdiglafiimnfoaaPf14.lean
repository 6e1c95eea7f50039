/- Printed by prt.py: the Go functions of this seat as shallow predicate transformers. Conditions: none. -/
import Derived.Test.YtdiglafiimnfoaaEngO
import Derived.Test.YtdiglafiimnfoaaPfHead
import Derived.KernelRfl
namespace Go.Proofs.Ytdiglafiimnfoaa
open Go Go.E
set_option linter.unusedVariables false
set_option maxRecDepth 100000
/-- paceline/pacelineref03.Insert -/
def pacelineref03_Insert (t0 t1 : Value) (w : World) (K : KV) : Prop :=
  al (Value.cells t1) 63 w fun t3 w =>
  bsl 63 6 0 #[] [] w fun t8 w =>
  lp [t8, (Value.bool false), (Value.int IntKind.i64 0)] w (b3 fun t5 t6 t7 w g1 =>
  lnS t0 w fun t11 w =>
  bi .lss .i64 t7 t11 w fun t12 w =>
  iff' t12
  (dr w fun w =>
  bnot t6 w fun t16 _ =>
  gd t16 true (fun k => fld 0 t3 w k) w fun t18 _ =>
  gd t16 true (fun k => ldN 3 t18 w k) w fun t19 _ =>
  gd t16 true (fun k => k t0 w) w fun t20 _ =>
  gd t16 true (fun k => k t7 w) w fun t21 _ =>
  gd t16 true (fun k => ixS 6 t20 t21 w k) w fun t22 _ =>
  gd t16 true (fun k => fld 0 t22 w k) w fun t23 _ =>
  gd t16 true (fun k => ldN 3 t23 w k) w fun t24 _ =>
  gd t16 true (fun k => Cl prog 55 #[t19, t24] w k) w fun t25 w =>
  gd t16 true (fun k => bi .lss .i64 t25 (Value.int IntKind.i64 0) w k) w fun t26 _ =>
  pk t16 t26 (Value.bool false) w fun t27 _ =>
  J2 (fun t5_1 t6_1 w =>
  ixS 6 t0 t7 w fun t35 w =>
  ldN 6 t35 w fun t36 w =>
  bsl 63 6 1 (zeroD prog 63) [(0, t36)] w fun t37 w =>
  apS prog #[78, 78] 78 t5_1 t37 w fun t38 w =>
  bi .add .i64 t7 (Value.int IntKind.i64 1) w fun t14 w =>
  g1 [t38, t6_1, t14] w) fun k2 =>
  iff' t27
  (ldN 6 t3 w fun t29 w =>
  bsl 63 6 1 (zeroD prog 63) [(0, t29)] w fun t30 w =>
  apS prog #[78, 78] 78 t5 t30 w fun t31 w =>
  k2 t31 (Value.bool true) w)
  (k2 t5 t6 w))
  (bnot t6 w fun t40 w =>
  J1 (fun t5_2 w =>
  K t5_2 w) fun k3 =>
  iff' t40
  (ldN 6 t3 w fun t42 w =>
  bsl 63 6 1 (zeroD prog 63) [(0, t42)] w fun t43 w =>
  apS prog #[78, 78] 78 t5 t43 w fun t44 w =>
  k3 t44 w)
  (k3 t5 w)))
theorem pacelineref03_Insert_eq (t0 t1 : Value) (w : World) (K : KV) : pacelineref03_Insert t0 t1 w K = fnW prog 46 [4] (match fn90.body with | some c => c | none => .skip) #[t0, t1] w K := by kernel_rfl
theorem pacelineref03_Insert_ok : fnOk prog 46 [4] (match fn90.body with | some c => c | none => .skip) = true := by kernel_rfl
theorem pacelineref03_Insert_calls {t0 t1 : Value} {w : World} {K : KV} (h : pacelineref03_Insert t0 t1 w K) : Cl prog 90 #[t0, t1] w K :=
  ⟨by kernel_rfl, calls_of_F (fn := fn90) (nt := 46) (rs := [4]) mixed fnAt90 (by kernel_rfl) (by kernel_rfl) (by kernel_rfl) (Nat.le_of_ble_eq_true (by kernel_rfl)) pacelineref03_Insert_ok (pacelineref03_Insert_eq t0 t1 w K) h⟩

/-- container/heap.Pop -/
def heap_Pop (t0 : Value) (w : World) (K : KV) : Prop :=
  clI prog t0 "Len" #[] w fun t5 w =>
  bi .sub .i64 t5 (Value.int IntKind.i64 1) w fun t6 w =>
  clI prog t0 "Swap" #[(Value.int IntKind.i64 0), t6] w fun _ w =>
  Cl prog 107 #[t0, (Value.int IntKind.i64 0), t6] w fun _ w =>
  clI prog t0 "Pop" #[] w fun t14 w =>
  K t14 w
theorem heap_Pop_eq (t0 : Value) (w : World) (K : KV) : heap_Pop t0 w K = fnW prog 15 [2] (match fn91.body with | some c => c | none => .skip) #[t0] w K := by kernel_rfl
theorem heap_Pop_ok : fnOk prog 15 [2] (match fn91.body with | some c => c | none => .skip) = true := by kernel_rfl
theorem heap_Pop_calls {t0 : Value} {w : World} {K : KV} (h : heap_Pop t0 w K) : Cl prog 91 #[t0] w K :=
  ⟨by kernel_rfl, calls_of_F (fn := fn91) (nt := 15) (rs := [2]) mixed fnAt91 (by kernel_rfl) (by kernel_rfl) (by kernel_rfl) (Nat.le_of_ble_eq_true (by kernel_rfl)) heap_Pop_ok (heap_Pop_eq t0 w K) h⟩

/-- (*paceline/calendar.Queue).of -/
def calendar_Queue_of (t0 t1 : Value) (w : World) (K : KV) : Prop :=
  dr w fun w =>
  ncP t0 <|
  fld 1 t0 w fun t9 _ =>
  ld1 t9 w fun t10 _ =>
  bi .quo .i64 t1 t10 w fun t11 _ =>
  bi .rem .i64 t11 (Value.int IntKind.i64 8) w fun t12 _ =>
  ncP t0 <|
  fld 3 t0 w fun t14 _ =>
  ixA 8 1 t14 t12 w fun t15 _ =>
  K t15 w
theorem calendar_Queue_of_eq (t0 t1 : Value) (w : World) (K : KV) : calendar_Queue_of t0 t1 w K = fnW prog 16 [4] (match fn92.body with | some c => c | none => .skip) #[t0, t1] w K := by kernel_rfl
theorem calendar_Queue_of_ok : fnOk prog 16 [4] (match fn92.body with | some c => c | none => .skip) = true := by kernel_rfl
theorem calendar_Queue_of_calls {t0 t1 : Value} {w : World} {K : KV} (h : calendar_Queue_of t0 t1 w K) : Cl prog 92 #[t0, t1] w K :=
  ⟨by kernel_rfl, calls_of_F (fn := fn92) (nt := 16) (rs := [4]) mixed fnAt92 (by kernel_rfl) (by kernel_rfl) (by kernel_rfl) (Nat.le_of_ble_eq_true (by kernel_rfl)) calendar_Queue_of_ok (calendar_Queue_of_eq t0 t1 w K) h⟩

/-- paceline/calendar.place -/
def calendar_place (t0 t1 : Value) (w : World) (K : KV) : Prop :=
  al (Value.cells t1) 61 w fun t3 w =>
  ldN 3 t3 w fun t7 w =>
  Cl prog 108 #[t0, t7, (Value.func (.func 109) #[] #[])] w fun t8 w =>
  xt 0 t8 w fun t9 w =>
  xt 1 t8 w fun t10 w =>
  K (Value.tuple #[t9, t10]) w
theorem calendar_place_eq (t0 t1 : Value) (w : World) (K : KV) : calendar_place t0 t1 w K = fnW prog 11 [4, 5] (match fn93.body with | some c => c | none => .skip) #[t0, t1] w K := by kernel_rfl
theorem calendar_place_ok : fnOk prog 11 [4, 5] (match fn93.body with | some c => c | none => .skip) = true := by kernel_rfl
theorem calendar_place_calls {t0 t1 : Value} {w : World} {K : KV} (h : calendar_place t0 t1 w K) : Cl prog 93 #[t0, t1] w K :=
  ⟨by kernel_rfl, calls_of_F (fn := fn93) (nt := 11) (rs := [4, 5]) mixed fnAt93 (by kernel_rfl) (by kernel_rfl) (by kernel_rfl) (Nat.le_of_ble_eq_true (by kernel_rfl)) calendar_place_ok (calendar_place_eq t0 t1 w K) h⟩

/-- (*paceline/gate.Gate).part -/
def gate_Gate_part (t0 t1 : Value) (w : World) (K : KV) : Prop :=
  ncP t0 <|
  fld 1 t0 w fun t11 w =>
  ld1 t11 w fun t12 w =>
  lnS t12 w fun t13 w =>
  lp [(Value.slice none 0 0), (Value.slice none 0 0), (Value.int IntKind.i64 0)] w (b3 fun t5 t6 t14 w g1 =>
  bi .lss .i64 t14 t13 w fun t15 w =>
  iff' t15
  (J2 (fun t5_1 t6_1 w =>
  bi .add .i64 t14 (Value.int IntKind.i64 1) w fun t29 w =>
  g1 [t5_1, t6_1, t29] w) fun k2 =>
  ixS 9 t12 t14 w fun t16 w =>
  ldN 9 t16 w fun t17 w =>
  al (zeroD prog 163) 163 w fun t8 w =>
  stN 9 t8 t17 w fun _ w =>
  ldN 9 t8 w fun t19 w =>
  clV prog t1 #[t19] w fun t20 w =>
  iff' t20
  (ldN 9 t8 w fun t22 w =>
  bsl 163 9 1 (zeroD prog 163) [(0, t22)] w fun t23 w =>
  apS prog #[159, 159] 159 t5 t23 w fun t24 w =>
  k2 t24 t6 w)
  (ldN 9 t8 w fun t26 w =>
  bsl 163 9 1 (zeroD prog 163) [(0, t26)] w fun t27 w =>
  apS prog #[159, 159] 159 t6 t27 w fun t28 w =>
  k2 t5 t28 w))
  (ncP t0 <|
  fld 1 t0 w fun t33 w =>
  stN 1 t33 t6 w fun _ w =>
  K t5 w))
theorem gate_Gate_part_eq (t0 t1 : Value) (w : World) (K : KV) : gate_Gate_part t0 t1 w K = fnW prog 35 [4] (match fn95.body with | some c => c | none => .skip) #[t0, t1] w K := by kernel_rfl
theorem gate_Gate_part_ok : fnOk prog 35 [4] (match fn95.body with | some c => c | none => .skip) = true := by kernel_rfl
theorem gate_Gate_part_calls {t0 t1 : Value} {w : World} {K : KV} (h : gate_Gate_part t0 t1 w K) : Cl prog 95 #[t0, t1] w K :=
  ⟨by kernel_rfl, calls_of_F (fn := fn95) (nt := 35) (rs := [4]) mixed fnAt95 (by kernel_rfl) (by kernel_rfl) (by kernel_rfl) (Nat.le_of_ble_eq_true (by kernel_rfl)) gate_Gate_part_ok (gate_Gate_part_eq t0 t1 w K) h⟩

/-- (*paceline/gate.Gate).Open$1 -/
def gate_Gate_Open_1 (t0 t1 : Value) (w : World) (K : KV) : Prop :=
  al (Value.cells t0) 163 w fun t2 w =>
  fld 0 t2 w fun t4 w =>
  fld 0 t4 w fun t5 w =>
  ld1 t5 w fun t6 w =>
  ld1 t1 w fun t7 w =>
  bi .lss .i64 t6 t7 w fun t8 w =>
  K t8 w
theorem gate_Gate_Open_1_eq (t0 t1 : Value) (w : World) (K : KV) : gate_Gate_Open_1 t0 t1 w K = fnW prog 9 [3] (match fn96.body with | some c => c | none => .skip) #[t0, t1] w K := by kernel_rfl
theorem gate_Gate_Open_1_ok : fnOk prog 9 [3] (match fn96.body with | some c => c | none => .skip) = true := by kernel_rfl
theorem gate_Gate_Open_1_calls {t0 t1 : Value} {w : World} {K : KV} (h : gate_Gate_Open_1 t0 t1 w K) : Cl prog 96 #[t0, t1] w K :=
  ⟨by kernel_rfl, calls_of_F (fn := fn96) (nt := 9) (rs := [3]) mixed fnAt96 (by kernel_rfl) (by kernel_rfl) (by kernel_rfl) (Nat.le_of_ble_eq_true (by kernel_rfl)) gate_Gate_Open_1_ok (gate_Gate_Open_1_eq t0 t1 w K) h⟩

end Go.Proofs.Ytdiglafiimnfoaa
