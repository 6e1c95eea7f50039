/- Printed by prt.py: the Go functions of this seat as shallow predicate transformers. Conditions: none. -/
import Derived.Test.YtlmakkjbcmhaeaaEngO
import Derived.Test.YtlmakkjbcmhaeaaPfHead
import Derived.KernelRfl
namespace Go.Proofs.Ytlmakkjbcmhaeaa
open Go Go.E
set_option linter.unusedVariables false
set_option maxRecDepth 100000
/-- paceline/vtime.Valid -/
def vtime_Valid (t0 : Value) (w : World) (K : KV) : Prop :=
  bi .eql .i64 t0 (Value.int IntKind.i64 1125899906842624) w fun t4 w =>
  gd t4 false (fun k => k t0 w) w fun t6 w =>
  gd t4 false (fun k => cvI .u64 t6 w k) w fun t7 w =>
  gd t4 false (fun k => bi .leq .u64 t7 (Value.int IntKind.u64 1099511627776) w k) w fun t8 w =>
  pk t4 (Value.bool true) t8 w fun t9 w =>
  K t9 w
theorem vtime_Valid_eq (t0 : Value) (w : World) (K : KV) : vtime_Valid t0 w K = fnW prog 10 [2] (match fn33.body with | some c => c | none => .skip) #[t0] w K := by kernel_rfl
theorem vtime_Valid_ok : fnOk prog 10 [2] (match fn33.body with | some c => c | none => .skip) = true := by kernel_rfl
theorem vtime_Valid_calls {t0 : Value} {w : World} {K : KV} (h : vtime_Valid t0 w K) : Cl prog 33 #[t0] w K :=
  Cl.mk (by kernel_rfl) (calls_of_F (fn := fn33) (nt := 10) (rs := [2]) mixed fnAt33 (by kernel_rfl) (by kernel_rfl) (by kernel_rfl) (Nat.le_of_ble_eq_true (by kernel_rfl)) vtime_Valid_ok (vtime_Valid_eq t0 w K) h)

/-- (*paceline/calendar.Queue).of -/
def calendar_Queue_of (t0 t1 : Value) (w : World) (K : KV) : Prop :=
  dr w fun w =>
  ncP t0 <|
  fld 1 t0 w fun t9 _ =>
  ld1 t9 w fun t10 _ =>
  bi .quo .i64 t1 t10 w fun t11 _ =>
  bi .rem .i64 t11 (Value.int IntKind.i64 8) w fun t12 _ =>
  ncP t0 <|
  fld 3 t0 w fun t14 _ =>
  ixA 8 1 t14 t12 w fun t15 _ =>
  K t15 w
theorem calendar_Queue_of_eq (t0 t1 : Value) (w : World) (K : KV) : calendar_Queue_of t0 t1 w K = fnW prog 16 [4] (match fn34.body with | some c => c | none => .skip) #[t0, t1] w K := by kernel_rfl
theorem calendar_Queue_of_ok : fnOk prog 16 [4] (match fn34.body with | some c => c | none => .skip) = true := by kernel_rfl
theorem calendar_Queue_of_calls {t0 t1 : Value} {w : World} {K : KV} (h : calendar_Queue_of t0 t1 w K) : Cl prog 34 #[t0, t1] w K :=
  Cl.mk (by kernel_rfl) (calls_of_F (fn := fn34) (nt := 16) (rs := [4]) mixed fnAt34 (by kernel_rfl) (by kernel_rfl) (by kernel_rfl) (Nat.le_of_ble_eq_true (by kernel_rfl)) calendar_Queue_of_ok (calendar_Queue_of_eq t0 t1 w K) h)

/-- paceline/calendar.place -/
def calendar_place (t0 t1 : Value) (w : World) (K : KV) : Prop :=
  al (Value.cells t1) 30 w fun t3 w =>
  ldN 3 t3 w fun t7 w =>
  Cl prog 52 #[t0, t7, (Value.func (.func 53) #[] #[])] w fun t8 w =>
  xt 0 t8 w fun t9 w =>
  xt 1 t8 w fun t10 w =>
  K (Value.tuple #[t9, t10]) w
theorem calendar_place_eq (t0 t1 : Value) (w : World) (K : KV) : calendar_place t0 t1 w K = fnW prog 11 [4, 5] (match fn35.body with | some c => c | none => .skip) #[t0, t1] w K := by kernel_rfl
theorem calendar_place_ok : fnOk prog 11 [4, 5] (match fn35.body with | some c => c | none => .skip) = true := by kernel_rfl
theorem calendar_place_calls {t0 t1 : Value} {w : World} {K : KV} (h : calendar_place t0 t1 w K) : Cl prog 35 #[t0, t1] w K :=
  Cl.mk (by kernel_rfl) (calls_of_F (fn := fn35) (nt := 11) (rs := [4, 5]) mixed fnAt35 (by kernel_rfl) (by kernel_rfl) (by kernel_rfl) (Nat.le_of_ble_eq_true (by kernel_rfl)) calendar_place_ok (calendar_place_eq t0 t1 w K) h)

/-- slices.Insert[[]paceline/api.Msg,paceline/api.Msg] -/
def slices_Insert_api_Msg_api_Msg (t0 t1 t2 : Value) (w : World) (K : KV) : Prop :=
  slc 6 t0 (some t1) none w fun _ w =>
  lnS t2 w fun t14 w =>
  bi .eql .i64 t14 (Value.int IntKind.i64 0) w fun t16 w =>
  iff' t16
  (K t0 w)
  (lnS t0 w fun t19 w =>
  bi .eql .i64 t1 t19 w fun t22 w =>
  iff' t22
  (apS prog #[36, 36] 36 t0 t2 w fun t25 w =>
  K t25 w)
  (bi .add .i64 t19 t14 w fun t28 w =>
  cpB prog #[36] 3 t0 w fun t30 w =>
  bi .gtr .i64 t28 t30 w fun t31 w =>
  iff' t31
  (slc 6 t0 none (some t1) w fun t34 w =>
  bi .add .i64 t19 t14 w fun t37 w =>
  bi .sub .i64 t37 t1 w fun t39 w =>
  apS prog #[36, 3] 36 t34 t39 w fun t40 w =>
  slc 6 t40 (some t1) none w fun t43 w =>
  cpS prog #[36, 36] 3 t43 t2 w fun _ w =>
  dr w fun w =>
  bi .add .i64 t1 t14 w fun t49 _ =>
  slc 6 t40 (some t49) none w fun t50 _ =>
  slc 6 t0 (some t1) none w fun t53 _ =>
  cpS prog #[36, 36] 3 t50 t53 w fun _ w =>
  K t40 w)
  (bi .add .i64 t19 t14 w fun t59 w =>
  slc 6 t0 none (some t59) w fun t60 w =>
  bi .add .i64 t1 t14 w fun t65 w =>
  slc 6 t60 (some t65) none w fun t66 w =>
  Cl prog 54 #[t2, t66] w fun t67 w =>
  bnot t67 w fun t68 w =>
  iff' t68
  (dr w fun w =>
  bi .add .i64 t1 t14 w fun t72 _ =>
  slc 6 t60 (some t72) none w fun t73 _ =>
  slc 6 t60 (some t1) none w fun t76 _ =>
  cpS prog #[36, 36] 3 t73 t76 w fun _ w =>
  slc 6 t60 (some t1) none w fun t80 w =>
  cpS prog #[36, 36] 3 t80 t2 w fun _ w =>
  K t60 w)
  (slc 6 t60 (some t19) none w fun t86 w =>
  cpS prog #[36, 36] 3 t86 t2 w fun _ w =>
  slc 6 t60 (some t1) none w fun t91 w =>
  Cl prog 55 #[t91, t14] w fun _ w =>
  K t60 w))))
theorem slices_Insert_api_Msg_api_Msg_eq (t0 t1 t2 : Value) (w : World) (K : KV) : slices_Insert_api_Msg_api_Msg t0 t1 t2 w K = fnW prog 95 [6] (match fn36.body with | some c => c | none => .skip) #[t0, t1, t2] w K := by kernel_rfl
theorem slices_Insert_api_Msg_api_Msg_ok : fnOk prog 95 [6] (match fn36.body with | some c => c | none => .skip) = true := by kernel_rfl
theorem slices_Insert_api_Msg_api_Msg_calls {t0 t1 t2 : Value} {w : World} {K : KV} (h : slices_Insert_api_Msg_api_Msg t0 t1 t2 w K) : Cl prog 36 #[t0, t1, t2] w K :=
  Cl.mk (by kernel_rfl) (calls_of_F (fn := fn36) (nt := 95) (rs := [6]) mixed fnAt36 (by kernel_rfl) (by kernel_rfl) (by kernel_rfl) (Nat.le_of_ble_eq_true (by kernel_rfl)) slices_Insert_api_Msg_api_Msg_ok (slices_Insert_api_Msg_api_Msg_eq t0 t1 t2 w K) h)

/-- paceline/pacelineref03.New -/
def pacelineref03_New (t0 : Value) (w : World) (K : KV) : Prop :=
  mnI .i64 t0 (Value.int IntKind.i64 64) w fun t4 w =>
  mxI .i64 (Value.int IntKind.i64 0) t4 w fun t5 w =>
  bld (zeroD prog 69) #[(0, 1), (1, 1)] [(0, t5)] w fun t6 w =>
  al (Value.cells t6) 69 w fun t7 w =>
  K t7 w
theorem pacelineref03_New_eq (t0 : Value) (w : World) (K : KV) : pacelineref03_New t0 w K = fnW prog 8 [2] (match fn37.body with | some c => c | none => .skip) #[t0] w K := by kernel_rfl
theorem pacelineref03_New_ok : fnOk prog 8 [2] (match fn37.body with | some c => c | none => .skip) = true := by kernel_rfl
theorem pacelineref03_New_calls {t0 : Value} {w : World} {K : KV} (h : pacelineref03_New t0 w K) : Cl prog 37 #[t0] w K :=
  Cl.mk (by kernel_rfl) (calls_of_F (fn := fn37) (nt := 8) (rs := [2]) mixed fnAt37 (by kernel_rfl) (by kernel_rfl) (by kernel_rfl) (Nat.le_of_ble_eq_true (by kernel_rfl)) pacelineref03_New_ok (pacelineref03_New_eq t0 w K) h)

/-- paceline/pacelineref01.Valid -/
def pacelineref01_Valid (t0 : Value) (w : World) (K : KV) : Prop :=
  bi .geq .i64 t0 (Value.int IntKind.i64 0) w fun t4 w =>
  gd t4 true (fun k => k t0 w) w fun t6 w =>
  gd t4 true (fun k => bi .leq .i64 t6 (Value.int IntKind.i64 1099511627776) w k) w fun t7 w =>
  pk t4 t7 (Value.bool false) w fun t8 w =>
  gd t8 false (fun k => k t0 w) w fun t10 w =>
  gd t8 false (fun k => bi .eql .i64 t10 (Value.int IntKind.i64 1125899906842624) w k) w fun t11 w =>
  pk t8 (Value.bool true) t11 w fun t12 w =>
  K t12 w
theorem pacelineref01_Valid_eq (t0 : Value) (w : World) (K : KV) : pacelineref01_Valid t0 w K = fnW prog 13 [2] (match fn38.body with | some c => c | none => .skip) #[t0] w K := by kernel_rfl
theorem pacelineref01_Valid_ok : fnOk prog 13 [2] (match fn38.body with | some c => c | none => .skip) = true := by kernel_rfl
theorem pacelineref01_Valid_calls {t0 : Value} {w : World} {K : KV} (h : pacelineref01_Valid t0 w K) : Cl prog 38 #[t0] w K :=
  Cl.mk (by kernel_rfl) (calls_of_F (fn := fn38) (nt := 13) (rs := [2]) mixed fnAt38 (by kernel_rfl) (by kernel_rfl) (by kernel_rfl) (Nat.le_of_ble_eq_true (by kernel_rfl)) pacelineref01_Valid_ok (pacelineref01_Valid_eq t0 w K) h)

end Go.Proofs.Ytlmakkjbcmhaeaa
