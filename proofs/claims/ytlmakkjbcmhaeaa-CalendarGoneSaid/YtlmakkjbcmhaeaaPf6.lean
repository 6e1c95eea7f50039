/- Printed by prt.py: the Go functions of this seat as shallow predicate transformers. Conditions: none. -/
import Derived.Test.YtlmakkjbcmhaeaaEngO
import Derived.Test.YtlmakkjbcmhaeaaPfHead
import Derived.KernelRfl
namespace Go.Proofs.Ytlmakkjbcmhaeaa
open Go Go.E
set_option linter.unusedVariables false
set_option maxRecDepth 100000
/-- (*paceline/pacelineref03.Queue).Push -/
def pacelineref03_Queue_Push (t0 t1 : Value) (w : World) (K : KV) : Prop :=
  al (Value.cells t1) 32 w fun t3 w =>
  fld 0 t3 w fun t6 w =>
  ldN 3 t6 w fun t7 w =>
  Cl prog 41 #[t0, t7] w fun t8 w =>
  bi .geq .i64 t8 (Value.int IntKind.i64 0) w fun t9 w =>
  iff' t9
  (K (Value.int IntKind.i64 3) w)
  (dr w fun w =>
  ncP t0 <|
  fld 1 t0 w fun t12 _ =>
  ld1 t12 w fun t13 _ =>
  lnS t13 w fun t14 _ =>
  ncP t0 <|
  fld 0 t0 w fun t17 _ =>
  ld1 t17 w fun t18 _ =>
  bi .geq .i64 t14 t18 w fun t19 _ =>
  iff' t19
  (K (Value.int IntKind.i64 2) w)
  (dr w fun w =>
  ncP t0 <|
  fld 1 t0 w fun t23 _ =>
  ld1 t23 w fun t24 _ =>
  ldN 6 t3 w fun t25 _ =>
  Cl prog 56 #[t24, t25] w fun t26 w =>
  ncP t0 <|
  fld 1 t0 w fun t28 _ =>
  stN 1 t28 t26 w fun _ w =>
  K (Value.int IntKind.i64 0) w))
theorem pacelineref03_Queue_Push_eq (t0 t1 : Value) (w : World) (K : KV) : pacelineref03_Queue_Push t0 t1 w K = fnW prog 29 [4] (match fn39.body with | some c => c | none => .skip) #[t0, t1] w K := by kernel_rfl
theorem pacelineref03_Queue_Push_ok : fnOk prog 29 [4] (match fn39.body with | some c => c | none => .skip) = true := by kernel_rfl
theorem pacelineref03_Queue_Push_calls {t0 t1 : Value} {w : World} {K : KV} (h : pacelineref03_Queue_Push t0 t1 w K) : Cl prog 39 #[t0, t1] w K :=
  Cl.mk (by kernel_rfl) (calls_of_F (fn := fn39) (nt := 29) (rs := [4]) mixed fnAt39 (by kernel_rfl) (by kernel_rfl) (by kernel_rfl) (Nat.le_of_ble_eq_true (by kernel_rfl)) pacelineref03_Queue_Push_ok (pacelineref03_Queue_Push_eq t0 t1 w K) h)

/-- slices.Delete[[]paceline/api.Msg,paceline/api.Msg] -/
def slices_Delete_api_Msg_api_Msg (t0 t1 t2 : Value) (w : World) (K : KV) : Prop :=
  lnS t0 w fun t12 w =>
  slX prog 36 t0 (some t1) (some t2) (some t12) w fun _ w =>
  bi .eql .i64 t1 t2 w fun t16 w =>
  iff' t16
  (K t0 w)
  (lnS t0 w fun t19 w =>
  dr w fun w =>
  slc 6 t0 none (some t1) w fun t22 _ =>
  slc 6 t0 (some t2) none w fun t25 _ =>
  apS prog #[36, 36] 36 t22 t25 w fun t26 w =>
  lnS t26 w fun t29 w =>
  slc 6 t26 (some t29) (some t19) w fun t31 w =>
  clB prog #[36] 0 t31 w fun _ w =>
  K t26 w)
theorem slices_Delete_api_Msg_api_Msg_eq (t0 t1 t2 : Value) (w : World) (K : KV) : slices_Delete_api_Msg_api_Msg t0 t1 t2 w K = fnW prog 33 [6] (match fn40.body with | some c => c | none => .skip) #[t0, t1, t2] w K := by kernel_rfl
theorem slices_Delete_api_Msg_api_Msg_ok : fnOk prog 33 [6] (match fn40.body with | some c => c | none => .skip) = true := by kernel_rfl
theorem slices_Delete_api_Msg_api_Msg_calls {t0 t1 t2 : Value} {w : World} {K : KV} (h : slices_Delete_api_Msg_api_Msg t0 t1 t2 w K) : Cl prog 40 #[t0, t1, t2] w K :=
  Cl.mk (by kernel_rfl) (calls_of_F (fn := fn40) (nt := 33) (rs := [6]) mixed fnAt40 (by kernel_rfl) (by kernel_rfl) (by kernel_rfl) (Nat.le_of_ble_eq_true (by kernel_rfl)) slices_Delete_api_Msg_api_Msg_ok (slices_Delete_api_Msg_api_Msg_eq t0 t1 t2 w K) h)

/-- (*paceline/pacelineref03.Queue).find -/
def pacelineref03_Queue_find (t0 t1 : Value) (w : World) (K : KV) : Prop :=
  al (Value.cells t1) 30 w fun t3 w =>
  lp [(Value.int IntKind.i64 0)] w (b1 fun t5 w g1 =>
  ncP t0 <|
  fld 1 t0 w fun t9 w =>
  ld1 t9 w fun t10 w =>
  lnS t10 w fun t11 w =>
  bi .lss .i64 t5 t11 w fun t12 w =>
  iff' t12
  (dr w fun w =>
  ncP t0 <|
  fld 1 t0 w fun t17 _ =>
  ld1 t17 w fun t18 _ =>
  ixS 6 t18 t5 w fun t20 _ =>
  fld 0 t20 w fun t21 _ =>
  ldN 3 t21 w fun t22 _ =>
  ldN 3 t3 w fun t23 _ =>
  bO prog .eql 30 (Operand.tmp 22) (Operand.tmp 23) t22 t23 w fun t24 w =>
  iff' t24
  (K t5 w)
  (bi .add .i64 t5 (Value.int IntKind.i64 1) w fun t14 w =>
  g1 [t14] w))
  (K (Value.int IntKind.i64 (-1)) w))
theorem pacelineref03_Queue_find_eq (t0 t1 : Value) (w : World) (K : KV) : pacelineref03_Queue_find t0 t1 w K = fnW prog 26 [4] (match fn41.body with | some c => c | none => .skip) #[t0, t1] w K := by kernel_rfl
theorem pacelineref03_Queue_find_ok : fnOk prog 26 [4] (match fn41.body with | some c => c | none => .skip) = true := by kernel_rfl
theorem pacelineref03_Queue_find_calls {t0 t1 : Value} {w : World} {K : KV} (h : pacelineref03_Queue_find t0 t1 w K) : Cl prog 41 #[t0, t1] w K :=
  Cl.mk (by kernel_rfl) (calls_of_F (fn := fn41) (nt := 26) (rs := [4]) mixed fnAt41 (by kernel_rfl) (by kernel_rfl) (by kernel_rfl) (Nat.le_of_ble_eq_true (by kernel_rfl)) pacelineref03_Queue_find_ok (pacelineref03_Queue_find_eq t0 t1 w K) h)

/-- paceline/pacelineref03.Without -/
def pacelineref03_Without (t0 t1 : Value) (w : World) (K : KV) : Prop :=
  al (Value.cells t1) 30 w fun t3 w =>
  bsl 32 6 0 #[] [] w fun t7 w =>
  lp [t7, (Value.int IntKind.i64 0)] w (b2 fun t5 t6 w g1 =>
  lnS t0 w fun t10 w =>
  bi .lss .i64 t6 t10 w fun t11 w =>
  iff' t11
  (J1 (fun t5_1 w =>
  bi .add .i64 t6 (Value.int IntKind.i64 1) w fun t13 w =>
  g1 [t5_1, t13] w) fun k2 =>
  dr w fun w =>
  ixS 6 t0 t6 w fun t16 _ =>
  fld 0 t16 w fun t17 _ =>
  ldN 3 t17 w fun t18 _ =>
  ldN 3 t3 w fun t19 _ =>
  bO prog .neq 30 (Operand.tmp 18) (Operand.tmp 19) t18 t19 w fun t20 w =>
  iff' t20
  (ixS 6 t0 t6 w fun t24 w =>
  ldN 6 t24 w fun t25 w =>
  bsl 32 6 1 (zeroD prog 32) [(0, t25)] w fun t26 w =>
  apS prog #[36, 36] 36 t5 t26 w fun t27 w =>
  k2 t27 w)
  (k2 t5 w))
  (K t5 w))
theorem pacelineref03_Without_eq (t0 t1 : Value) (w : World) (K : KV) : pacelineref03_Without t0 t1 w K = fnW prog 29 [4] (match fn42.body with | some c => c | none => .skip) #[t0, t1] w K := by kernel_rfl
theorem pacelineref03_Without_ok : fnOk prog 29 [4] (match fn42.body with | some c => c | none => .skip) = true := by kernel_rfl
theorem pacelineref03_Without_calls {t0 t1 : Value} {w : World} {K : KV} (h : pacelineref03_Without t0 t1 w K) : Cl prog 42 #[t0, t1] w K :=
  Cl.mk (by kernel_rfl) (calls_of_F (fn := fn42) (nt := 29) (rs := [4]) mixed fnAt42 (by kernel_rfl) (by kernel_rfl) (by kernel_rfl) (Nat.le_of_ble_eq_true (by kernel_rfl)) pacelineref03_Without_ok (pacelineref03_Without_eq t0 t1 w K) h)

/-- (*paceline/calendar.Queue).List$1 -/
def calendar_Queue_List_1 (t0 t1 : Value) (w : World) (K : KV) : Prop :=
  al (Value.cells t0) 32 w fun t2 w =>
  al (Value.cells t1) 32 w fun t3 w =>
  fld 0 t2 w fun t5 w =>
  ldN 3 t5 w fun t6 w =>
  fld 0 t3 w fun t7 w =>
  ldN 3 t7 w fun t8 w =>
  Cl prog 45 #[t6, t8] w fun t9 w =>
  K t9 w
theorem calendar_Queue_List_1_eq (t0 t1 : Value) (w : World) (K : KV) : calendar_Queue_List_1 t0 t1 w K = fnW prog 10 [4] (match fn44.body with | some c => c | none => .skip) #[t0, t1] w K := by kernel_rfl
theorem calendar_Queue_List_1_ok : fnOk prog 10 [4] (match fn44.body with | some c => c | none => .skip) = true := by kernel_rfl
theorem calendar_Queue_List_1_calls {t0 t1 : Value} {w : World} {K : KV} (h : calendar_Queue_List_1 t0 t1 w K) : Cl prog 44 #[t0, t1] w K :=
  Cl.mk (by kernel_rfl) (calls_of_F (fn := fn44) (nt := 10) (rs := [4]) mixed fnAt44 (by kernel_rfl) (by kernel_rfl) (by kernel_rfl) (Nat.le_of_ble_eq_true (by kernel_rfl)) calendar_Queue_List_1_ok (calendar_Queue_List_1_eq t0 t1 w K) h)

/-- paceline/vtime.Cmp -/
def vtime_Cmp (t0 t1 : Value) (w : World) (K : KV) : Prop :=
  al (Value.cells t0) 30 w fun t2 w =>
  al (Value.cells t1) 30 w fun t3 w =>
  dr w fun w =>
  fld 0 t2 w fun t5 _ =>
  ld1 t5 w fun t6 _ =>
  fld 0 t3 w fun t7 _ =>
  ld1 t7 w fun t8 _ =>
  fld 1 t2 w fun t10 _ =>
  ld1 t10 w fun t11 _ =>
  fld 1 t3 w fun t12 _ =>
  ld1 t12 w fun t13 _ =>
  fld 2 t2 w fun t15 _ =>
  ld1 t15 w fun t16 _ =>
  fld 2 t3 w fun t17 _ =>
  ld1 t17 w fun t18 _ =>
  Cl prog 60 #[t6, t8] w fun t9 w =>
  (ld1 t17 w (fun v' w'' => v' = t18 ∧ w'' = w)) ∧ ((ld1 t15 w (fun v' w'' => v' = t16 ∧ w'' = w)) ∧ ((ld1 t12 w (fun v' w'' => v' = t13 ∧ w'' = w)) ∧ ((ld1 t10 w (fun v' w'' => v' = t11 ∧ w'' = w)) ∧ (Cl prog 60 #[t11, t13] w fun t14 w =>
  (ld1 t17 w (fun v' w'' => v' = t18 ∧ w'' = w)) ∧ ((ld1 t15 w (fun v' w'' => v' = t16 ∧ w'' = w)) ∧ (Cl prog 60 #[t16, t18] w fun t19 w =>
  bsl 3 1 3 (zeroD prog 3) [(0, t9), (1, t14), (2, t19)] w fun t20 w =>
  Cl prog 59 #[t20] w fun t21 w =>
  K t21 w))))))
theorem vtime_Cmp_eq (t0 t1 : Value) (w : World) (K : KV) : vtime_Cmp t0 t1 w K = fnW prog 22 [4] (match fn45.body with | some c => c | none => .skip) #[t0, t1] w K := by kernel_rfl
theorem vtime_Cmp_ok : fnOk prog 22 [4] (match fn45.body with | some c => c | none => .skip) = true := by kernel_rfl
theorem vtime_Cmp_calls {t0 t1 : Value} {w : World} {K : KV} (h : vtime_Cmp t0 t1 w K) : Cl prog 45 #[t0, t1] w K :=
  Cl.mk (by kernel_rfl) (calls_of_F (fn := fn45) (nt := 22) (rs := [4]) mixed fnAt45 (by kernel_rfl) (by kernel_rfl) (by kernel_rfl) (Nat.le_of_ble_eq_true (by kernel_rfl)) vtime_Cmp_ok (vtime_Cmp_eq t0 t1 w K) h)

end Go.Proofs.Ytlmakkjbcmhaeaa
