/- Printed by prt.py: the Go functions of this seat as shallow predicate transformers. Conditions: none. -/
import Derived.Test.YtdiglafiimnfoaaEngO
import Derived.Test.YtdiglafiimnfoaaPfHead
import Derived.KernelRfl
namespace Go.Proofs.Ytdiglafiimnfoaa
open Go Go.E
set_option linter.unusedVariables false
set_option maxRecDepth 100000
/-- paceline/calendar.place$1 -/
def calendar_place_1 (t0 t1 : Value) (w : World) (K : KV) : Prop :=
  al (Value.cells t0) 63 w fun t2 w =>
  al (Value.cells t1) 61 w fun t3 w =>
  fld 0 t2 w fun t5 w =>
  ldN 3 t5 w fun t6 w =>
  ldN 3 t3 w fun t7 w =>
  Cl prog 99 #[t6, t7] w fun t8 w =>
  K t8 w
theorem calendar_place_1_eq (t0 t1 : Value) (w : World) (K : KV) : calendar_place_1 t0 t1 w K = fnW prog 9 [4] (match fn109.body with | some c => c | none => .skip) #[t0, t1] w K := by kernel_rfl
theorem calendar_place_1_ok : fnOk prog 9 [4] (match fn109.body with | some c => c | none => .skip) = true := by kernel_rfl
theorem calendar_place_1_calls {t0 t1 : Value} {w : World} {K : KV} (h : calendar_place_1 t0 t1 w K) : Cl prog 109 #[t0, t1] w K :=
  ⟨by kernel_rfl, calls_of_F (fn := fn109) (nt := 9) (rs := [4]) mixed fnAt109 (by kernel_rfl) (by kernel_rfl) (by kernel_rfl) (Nat.le_of_ble_eq_true (by kernel_rfl)) calendar_place_1_ok (calendar_place_1_eq t0 t1 w K) h⟩

/-- slices.rotateRight[paceline/api.Msg] -/
def slices_rotateRight_api_Msg (t0 t1 : Value) (w : World) (K : KV) : Prop :=
  lnS t0 w fun t6 w =>
  bi .sub .i64 t6 t1 w fun t8 w =>
  Cl prog 115 #[t0, t8] w fun _ w =>
  K (Value.tuple #[]) w
theorem slices_rotateRight_api_Msg_eq (t0 t1 : Value) (w : World) (K : KV) : slices_rotateRight_api_Msg t0 t1 w K = fnW prog 10 [] (match fn111.body with | some c => c | none => .skip) #[t0, t1] w K := by kernel_rfl
theorem slices_rotateRight_api_Msg_ok : fnOk prog 10 [] (match fn111.body with | some c => c | none => .skip) = true := by kernel_rfl
theorem slices_rotateRight_api_Msg_calls {t0 t1 : Value} {w : World} {K : KV} (h : slices_rotateRight_api_Msg t0 t1 w K) : Cl prog 111 #[t0, t1] w K :=
  ⟨by kernel_rfl, calls_of_F (fn := fn111) (nt := 10) (rs := []) mixed fnAt111 (by kernel_rfl) (by kernel_rfl) (by kernel_rfl) (Nat.le_of_ble_eq_true (by kernel_rfl)) slices_rotateRight_api_Msg_ok (slices_rotateRight_api_Msg_eq t0 t1 w K) h⟩

/-- slices.stableCmpFunc[paceline/gate.kept] -/
def slices_stableCmpFunc_gate_kept (t0 t1 t2 : Value) (w : World) (K : KV) : Prop :=
  lp [(Value.int IntKind.i64 0), (Value.int IntKind.i64 20)] w (b2 fun t7 t8 w g1 =>
  bi .leq .i64 t8 t1 w fun t13 w =>
  iff' t13
  (Cl prog 116 #[t0, t7, t8, t2] w fun _ w =>
  bi .add .i64 t8 (Value.int IntKind.i64 20) w fun t22 w =>
  g1 [t8, t22] w)
  (Cl prog 116 #[t0, t7, t1, t2] w fun _ w =>
  lp [(Value.int IntKind.i64 20)] w (b1 fun t6 w g2 =>
  bi .lss .i64 t6 t1 w fun t30 w =>
  iff' t30
  (bi .mul .i64 (Value.int IntKind.i64 2) t6 w fun t32 w =>
  lp [(Value.int IntKind.i64 0), t32] w (b2 fun t7_1 t8_1 w g3 =>
  bi .leq .i64 t8_1 t1 w fun t35 w =>
  iff' t35
  (bi .add .i64 t7_1 t6 w fun t40 w =>
  Cl prog 117 #[t0, t7_1, t40, t8_1, t2] w fun _ w =>
  bi .mul .i64 (Value.int IntKind.i64 2) t6 w fun t47 w =>
  bi .add .i64 t8_1 t47 w fun t48 w =>
  g3 [t8_1, t48] w)
  (bi .add .i64 t7_1 t6 w fun t51 w =>
  bi .lss .i64 t51 t1 w fun t54 w =>
  J0 (fun w =>
  bi .mul .i64 t6 (Value.int IntKind.i64 2) w fun t62 w =>
  g2 [t62] w) fun k4 =>
  iff' t54
  (Cl prog 117 #[t0, t7_1, t51, t1, t2] w fun _ w =>
  k4 w)
  (k4 w))))
  (K (Value.tuple #[]) w))))
theorem slices_stableCmpFunc_gate_kept_eq (t0 t1 t2 : Value) (w : World) (K : KV) : slices_stableCmpFunc_gate_kept t0 t1 t2 w K = fnW prog 63 [] (match fn112.body with | some c => c | none => .skip) #[t0, t1, t2] w K := by kernel_rfl
theorem slices_stableCmpFunc_gate_kept_ok : fnOk prog 63 [] (match fn112.body with | some c => c | none => .skip) = true := by kernel_rfl
theorem slices_stableCmpFunc_gate_kept_calls {t0 t1 t2 : Value} {w : World} {K : KV} (h : slices_stableCmpFunc_gate_kept t0 t1 t2 w K) : Cl prog 112 #[t0, t1, t2] w K :=
  ⟨by kernel_rfl, calls_of_F (fn := fn112) (nt := 63) (rs := []) mixed fnAt112 (by kernel_rfl) (by kernel_rfl) (by kernel_rfl) (Nat.le_of_ble_eq_true (by kernel_rfl)) slices_stableCmpFunc_gate_kept_ok (slices_stableCmpFunc_gate_kept_eq t0 t1 t2 w K) h⟩

/-- cmp.Or[int] -/
def cmp_Or_int (t0 : Value) (w : World) (K : KV) : Prop :=
  lnS t0 w fun t7 w =>
  lp [(Value.int IntKind.i64 0)] w (b1 fun t8 w g1 =>
  bi .lss .i64 t8 t7 w fun t9 w =>
  iff' t9
  (ixS 1 t0 t8 w fun t10 w =>
  ld1 t10 w fun t11 w =>
  bi .neq .i64 t11 (Value.int IntKind.i64 0) w fun t14 w =>
  iff' t14
  (K t11 w)
  (bi .add .i64 t8 (Value.int IntKind.i64 1) w fun t16 w =>
  g1 [t16] w))
  (K (Value.int IntKind.i64 0) w))
theorem cmp_Or_int_eq (t0 : Value) (w : World) (K : KV) : cmp_Or_int t0 w K = fnW prog 18 [2] (match fn113.body with | some c => c | none => .skip) #[t0] w K := by kernel_rfl
theorem cmp_Or_int_ok : fnOk prog 18 [2] (match fn113.body with | some c => c | none => .skip) = true := by kernel_rfl
theorem cmp_Or_int_calls {t0 : Value} {w : World} {K : KV} (h : cmp_Or_int t0 w K) : Cl prog 113 #[t0] w K :=
  ⟨by kernel_rfl, calls_of_F (fn := fn113) (nt := 18) (rs := [2]) mixed fnAt113 (by kernel_rfl) (by kernel_rfl) (by kernel_rfl) (Nat.le_of_ble_eq_true (by kernel_rfl)) cmp_Or_int_ok (cmp_Or_int_eq t0 w K) h⟩

/-- cmp.Compare[int] -/
def cmp_Compare_int (t0 t1 : Value) (w : World) (K : KV) : Prop :=
  Cl prog 118 #[t0] w fun t8 w =>
  Cl prog 118 #[t1] w fun t10 w =>
  iff' t8
  (iff' t10
  (K (Value.int IntKind.i64 0) w)
  (K (Value.int IntKind.i64 (-1)) w))
  (iff' t10
  (K (Value.int IntKind.i64 1) w)
  (bi .lss .i64 t0 t1 w fun t16 w =>
  iff' t16
  (K (Value.int IntKind.i64 (-1)) w)
  (bi .gtr .i64 t0 t1 w fun t19 w =>
  iff' t19
  (K (Value.int IntKind.i64 1) w)
  (K (Value.int IntKind.i64 0) w))))
theorem cmp_Compare_int_eq (t0 t1 : Value) (w : World) (K : KV) : cmp_Compare_int t0 t1 w K = fnW prog 20 [4] (match fn114.body with | some c => c | none => .skip) #[t0, t1] w K := by kernel_rfl
theorem cmp_Compare_int_ok : fnOk prog 20 [4] (match fn114.body with | some c => c | none => .skip) = true := by kernel_rfl
theorem cmp_Compare_int_calls {t0 t1 : Value} {w : World} {K : KV} (h : cmp_Compare_int t0 t1 w K) : Cl prog 114 #[t0, t1] w K :=
  ⟨by kernel_rfl, calls_of_F (fn := fn114) (nt := 20) (rs := [4]) mixed fnAt114 (by kernel_rfl) (by kernel_rfl) (by kernel_rfl) (Nat.le_of_ble_eq_true (by kernel_rfl)) cmp_Compare_int_ok (cmp_Compare_int_eq t0 t1 w K) h⟩

/-- slices.rotateLeft[paceline/api.Msg] -/
def slices_rotateLeft_api_Msg (t0 t1 : Value) (w : World) (K : KV) : Prop :=
  slc 6 t0 none (some t1) w fun t6 w =>
  Cl prog 119 #[t6] w fun _ w =>
  slc 6 t0 (some t1) none w fun t10 w =>
  Cl prog 119 #[t10] w fun _ w =>
  Cl prog 119 #[t0] w fun _ w =>
  K (Value.tuple #[]) w
theorem slices_rotateLeft_api_Msg_eq (t0 t1 : Value) (w : World) (K : KV) : slices_rotateLeft_api_Msg t0 t1 w K = fnW prog 14 [] (match fn115.body with | some c => c | none => .skip) #[t0, t1] w K := by kernel_rfl
theorem slices_rotateLeft_api_Msg_ok : fnOk prog 14 [] (match fn115.body with | some c => c | none => .skip) = true := by kernel_rfl
theorem slices_rotateLeft_api_Msg_calls {t0 t1 : Value} {w : World} {K : KV} (h : slices_rotateLeft_api_Msg t0 t1 w K) : Cl prog 115 #[t0, t1] w K :=
  ⟨by kernel_rfl, calls_of_F (fn := fn115) (nt := 14) (rs := []) mixed fnAt115 (by kernel_rfl) (by kernel_rfl) (by kernel_rfl) (Nat.le_of_ble_eq_true (by kernel_rfl)) slices_rotateLeft_api_Msg_ok (slices_rotateLeft_api_Msg_eq t0 t1 w K) h⟩

end Go.Proofs.Ytdiglafiimnfoaa
