/- Printed by prt.py: the Go functions of this seat as shallow predicate transformers. Conditions: none. -/
import Derived.Test.YtbfjpmbgjgjckaaEngO
import Derived.Test.YtbfjpmbgjgjckaaPfHead
import Derived.KernelRfl
namespace Go.Proofs.Ytbfjpmbgjgjckaa
open Go Go.E
set_option linter.unusedVariables false
set_option maxRecDepth 100000
/-- (*paceline/pacelineref03.Queue).List -/
def pacelineref03_Queue_List (t0 : Value) (w : World) (K : KV) : Prop :=
  bsl 30 6 0 #[] [] w fun t4 w =>
  ncP t0 <|
  fld 1 t0 w fun t8 w =>
  ld1 t8 w fun t9 w =>
  apS prog #[22, 22] 22 t4 t9 w fun t10 w =>
  K t10 w
theorem pacelineref03_Queue_List_eq (t0 : Value) (w : World) (K : KV) : pacelineref03_Queue_List t0 w K = fnW prog 11 [2] (match fn27.body with | some c => c | none => .skip) #[t0] w K := by kernel_rfl
theorem pacelineref03_Queue_List_ok : fnOk prog 11 [2] (match fn27.body with | some c => c | none => .skip) = true := by kernel_rfl
theorem pacelineref03_Queue_List_calls {t0 : Value} {w : World} {K : KV} (h : pacelineref03_Queue_List t0 w K) : Cl prog 27 #[t0] w K :=
  Cl.mk (by kernel_rfl) (calls_of_F (fn := fn27) (nt := 11) (rs := [2]) mixed fnAt27 (by kernel_rfl) (by kernel_rfl) (by kernel_rfl) (Nat.le_of_ble_eq_true (by kernel_rfl)) pacelineref03_Queue_List_ok (pacelineref03_Queue_List_eq t0 w K) h)

/-- container/heap.Push -/
def heap_Push (t0 t1 : Value) (w : World) (K : KV) : Prop :=
  clI prog t0 "Push" #[t1] w fun _ w =>
  clI prog t0 "Len" #[] w fun t9 w =>
  bi .sub .i64 t9 (Value.int IntKind.i64 1) w fun t10 w =>
  Cl prog 38 #[t0, t10] w fun _ w =>
  K (Value.tuple #[]) w
theorem heap_Push_eq (t0 t1 : Value) (w : World) (K : KV) : heap_Push t0 t1 w K = fnW prog 12 [] (match fn28.body with | some c => c | none => .skip) #[t0, t1] w K := by kernel_rfl
theorem heap_Push_ok : fnOk prog 12 [] (match fn28.body with | some c => c | none => .skip) = true := by kernel_rfl
theorem heap_Push_calls {t0 t1 : Value} {w : World} {K : KV} (h : heap_Push t0 t1 w K) : Cl prog 28 #[t0, t1] w K :=
  Cl.mk (by kernel_rfl) (calls_of_F (fn := fn28) (nt := 12) (rs := []) mixed fnAt28 (by kernel_rfl) (by kernel_rfl) (by kernel_rfl) (Nat.le_of_ble_eq_true (by kernel_rfl)) heap_Push_ok (heap_Push_eq t0 t1 w K) h)

/-- slices.Clone[[]paceline/api.Msg,paceline/api.Msg] -/
def slices_Clone_api_Msg_api_Msg (t0 : Value) (w : World) (K : KV) : Prop :=
  bO prog .eql 22 (Operand.tmp 3) (Operand.const (Value.slice none 0 0)) t0 (Value.slice none 0 0) w fun t4 w =>
  iff' t4
  (K (Value.slice none 0 0) w)
  (bsl 30 6 0 #[] [] w fun t5 w =>
  apS prog #[22, 22] 22 t5 t0 w fun t7 w =>
  K t7 w)
theorem slices_Clone_api_Msg_api_Msg_eq (t0 : Value) (w : World) (K : KV) : slices_Clone_api_Msg_api_Msg t0 w K = fnW prog 8 [2] (match fn29.body with | some c => c | none => .skip) #[t0] w K := by kernel_rfl
theorem slices_Clone_api_Msg_api_Msg_ok : fnOk prog 8 [2] (match fn29.body with | some c => c | none => .skip) = true := by kernel_rfl
theorem slices_Clone_api_Msg_api_Msg_calls {t0 : Value} {w : World} {K : KV} (h : slices_Clone_api_Msg_api_Msg t0 w K) : Cl prog 29 #[t0] w K :=
  Cl.mk (by kernel_rfl) (calls_of_F (fn := fn29) (nt := 8) (rs := [2]) mixed fnAt29 (by kernel_rfl) (by kernel_rfl) (by kernel_rfl) (Nat.le_of_ble_eq_true (by kernel_rfl)) slices_Clone_api_Msg_api_Msg_ok (slices_Clone_api_Msg_api_Msg_eq t0 w K) h)

/-- (*paceline/prio.Queue).List$1 -/
def prio_Queue_List_1 (t0 t1 : Value) (w : World) (K : KV) : Prop :=
  al (Value.cells t0) 30 w fun t2 w =>
  al (Value.cells t1) 30 w fun t3 w =>
  fld 0 t2 w fun t5 w =>
  ldN 3 t5 w fun t6 w =>
  fld 0 t3 w fun t7 w =>
  ldN 3 t7 w fun t8 w =>
  Cl prog 32 #[t6, t8] w fun t9 w =>
  K t9 w
theorem prio_Queue_List_1_eq (t0 t1 : Value) (w : World) (K : KV) : prio_Queue_List_1 t0 t1 w K = fnW prog 10 [4] (match fn31.body with | some c => c | none => .skip) #[t0, t1] w K := by kernel_rfl
theorem prio_Queue_List_1_ok : fnOk prog 10 [4] (match fn31.body with | some c => c | none => .skip) = true := by kernel_rfl
theorem prio_Queue_List_1_calls {t0 t1 : Value} {w : World} {K : KV} (h : prio_Queue_List_1 t0 t1 w K) : Cl prog 31 #[t0, t1] w K :=
  Cl.mk (by kernel_rfl) (calls_of_F (fn := fn31) (nt := 10) (rs := [4]) mixed fnAt31 (by kernel_rfl) (by kernel_rfl) (by kernel_rfl) (Nat.le_of_ble_eq_true (by kernel_rfl)) prio_Queue_List_1_ok (prio_Queue_List_1_eq t0 t1 w K) h)

/-- paceline/vtime.Cmp -/
def vtime_Cmp (t0 t1 : Value) (w : World) (K : KV) : Prop :=
  al (Value.cells t0) 28 w fun t2 w =>
  al (Value.cells t1) 28 w fun t3 w =>
  dr w fun w =>
  fld 0 t2 w fun t5 _ =>
  ld1 t5 w fun t6 _ =>
  fld 0 t3 w fun t7 _ =>
  ld1 t7 w fun t8 _ =>
  fld 1 t2 w fun t10 _ =>
  ld1 t10 w fun t11 _ =>
  fld 1 t3 w fun t12 _ =>
  ld1 t12 w fun t13 _ =>
  fld 2 t2 w fun t15 _ =>
  ld1 t15 w fun t16 _ =>
  fld 2 t3 w fun t17 _ =>
  ld1 t17 w fun t18 _ =>
  Cl prog 42 #[t6, t8] w fun t9 w =>
  (ld1 t17 w (fun v' w'' => v' = t18 ∧ w'' = w)) ∧ ((ld1 t15 w (fun v' w'' => v' = t16 ∧ w'' = w)) ∧ ((ld1 t12 w (fun v' w'' => v' = t13 ∧ w'' = w)) ∧ ((ld1 t10 w (fun v' w'' => v' = t11 ∧ w'' = w)) ∧ (Cl prog 42 #[t11, t13] w fun t14 w =>
  (ld1 t17 w (fun v' w'' => v' = t18 ∧ w'' = w)) ∧ ((ld1 t15 w (fun v' w'' => v' = t16 ∧ w'' = w)) ∧ (Cl prog 42 #[t16, t18] w fun t19 w =>
  bsl 3 1 3 (zeroD prog 3) [(0, t9), (1, t14), (2, t19)] w fun t20 w =>
  Cl prog 41 #[t20] w fun t21 w =>
  K t21 w))))))
theorem vtime_Cmp_eq (t0 t1 : Value) (w : World) (K : KV) : vtime_Cmp t0 t1 w K = fnW prog 22 [4] (match fn32.body with | some c => c | none => .skip) #[t0, t1] w K := by kernel_rfl
theorem vtime_Cmp_ok : fnOk prog 22 [4] (match fn32.body with | some c => c | none => .skip) = true := by kernel_rfl
theorem vtime_Cmp_calls {t0 t1 : Value} {w : World} {K : KV} (h : vtime_Cmp t0 t1 w K) : Cl prog 32 #[t0, t1] w K :=
  Cl.mk (by kernel_rfl) (calls_of_F (fn := fn32) (nt := 22) (rs := [4]) mixed fnAt32 (by kernel_rfl) (by kernel_rfl) (by kernel_rfl) (Nat.le_of_ble_eq_true (by kernel_rfl)) vtime_Cmp_ok (vtime_Cmp_eq t0 t1 w K) h)

/-- slices.DeleteFunc[[]paceline/api.Msg,paceline/api.Msg] -/
def slices_DeleteFunc_api_Msg_api_Msg (t0 t1 : Value) (w : World) (K : KV) : Prop :=
  Cl prog 43 #[t0, t1] w fun t10 w =>
  bi .eql .i64 t10 (Value.int IntKind.i64 (-1)) w fun t12 w =>
  iff' t12
  (K t0 w)
  (bi .add .i64 t10 (Value.int IntKind.i64 1) w fun t15 w =>
  lp [t10, t15] w (b2 fun t5 t6 w g1 =>
  lnS t0 w fun t18 w =>
  bi .lss .i64 t6 t18 w fun t19 w =>
  iff' t19
  (J1 (fun t5_1 w =>
  bi .add .i64 t6 (Value.int IntKind.i64 1) w fun t21 w =>
  g1 [t5_1, t21] w) fun k2 =>
  ixS 6 t0 t6 w fun t24 w =>
  ldN 6 t24 w fun t25 w =>
  al (zeroD prog 30) 30 w fun t7 w =>
  stN 6 t7 t25 w fun _ w =>
  ldN 6 t7 w fun t27 w =>
  clV prog t1 #[t27] w fun t28 w =>
  bnot t28 w fun t29 w =>
  iff' t29
  (ldN 6 t7 w fun t32 w =>
  ixS 6 t0 t5 w fun t33 w =>
  stN 6 t33 t32 w fun _ w =>
  bi .add .i64 t5 (Value.int IntKind.i64 1) w fun t35 w =>
  k2 t35 w)
  (k2 t5 w))
  (slc 6 t0 (some t5) none w fun t38 w =>
  clB prog #[22] 0 t38 w fun _ w =>
  slc 6 t0 none (some t5) w fun t41 w =>
  K t41 w)))
theorem slices_DeleteFunc_api_Msg_api_Msg_eq (t0 t1 : Value) (w : World) (K : KV) : slices_DeleteFunc_api_Msg_api_Msg t0 t1 w K = fnW prog 42 [4] (match fn33.body with | some c => c | none => .skip) #[t0, t1] w K := by kernel_rfl
theorem slices_DeleteFunc_api_Msg_api_Msg_ok : fnOk prog 42 [4] (match fn33.body with | some c => c | none => .skip) = true := by kernel_rfl
theorem slices_DeleteFunc_api_Msg_api_Msg_calls {t0 t1 : Value} {w : World} {K : KV} (h : slices_DeleteFunc_api_Msg_api_Msg t0 t1 w K) : Cl prog 33 #[t0, t1] w K :=
  Cl.mk (by kernel_rfl) (calls_of_F (fn := fn33) (nt := 42) (rs := [4]) mixed fnAt33 (by kernel_rfl) (by kernel_rfl) (by kernel_rfl) (Nat.le_of_ble_eq_true (by kernel_rfl)) slices_DeleteFunc_api_Msg_api_Msg_ok (slices_DeleteFunc_api_Msg_api_Msg_eq t0 t1 w K) h)

end Go.Proofs.Ytbfjpmbgjgjckaa
