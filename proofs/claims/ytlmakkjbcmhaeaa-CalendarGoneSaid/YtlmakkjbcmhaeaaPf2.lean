/- Printed by prt.py: the Go functions of this seat as shallow predicate transformers. Conditions: none. -/
import Derived.Test.YtlmakkjbcmhaeaaEngO
import Derived.Test.YtlmakkjbcmhaeaaPfHead
import Derived.KernelRfl
namespace Go.Proofs.Ytlmakkjbcmhaeaa
open Go Go.E
set_option linter.unusedVariables false
set_option maxRecDepth 100000
/-- (*paceline/pacelineref03.Queue).Remove -/
def pacelineref03_Queue_Remove (t0 t1 : Value) (w : World) (K : KV) : Prop :=
  al (Value.cells t1) 30 w fun t3 w =>
  al (zeroD prog 32) 32 w fun t4 w =>
  ldN 3 t3 w fun t9 w =>
  Cl prog 41 #[t0, t9] w fun t10 w =>
  bi .lss .i64 t10 (Value.int IntKind.i64 0) w fun t12 w =>
  iff' t12
  (bld (zeroD prog 32) #[(0, 3), (3, 1), (4, 1), (5, 1)] [] w fun t13 w =>
  stN 6 t4 t13 w fun _ w =>
  ldN 6 t4 w fun r0 _ =>
  K (Value.tuple #[r0, (Value.bool false)]) w)
  (ncP t0 <|
  fld 1 t0 w fun t16 w =>
  ld1 t16 w fun t17 w =>
  ixS 6 t17 t10 w fun t19 w =>
  ldN 6 t19 w fun t20 w =>
  al (zeroD prog 32) 32 w fun t7 w =>
  stN 6 t7 t20 w fun _ w =>
  dr w fun w =>
  ncP t0 <|
  fld 1 t0 w fun t24 _ =>
  ld1 t24 w fun t25 _ =>
  ldN 3 t3 w fun t26 _ =>
  Cl prog 42 #[t25, t26] w fun t27 w =>
  ncP t0 <|
  fld 1 t0 w fun t29 _ =>
  stN 1 t29 t27 w fun _ w =>
  ldN 6 t7 w fun t30 w =>
  stN 6 t4 t30 w fun _ w =>
  ldN 6 t4 w fun r0 _ =>
  K (Value.tuple #[r0, (Value.bool true)]) w)
theorem pacelineref03_Queue_Remove_eq (t0 t1 : Value) (w : World) (K : KV) : pacelineref03_Queue_Remove t0 t1 w K = fnWC prog 31 [(4, some 32), (5, none)] (match fn15.body with | some c => c | none => .skip) #[t0, t1] w K := by kernel_rfl
theorem pacelineref03_Queue_Remove_ok : fnOkC prog 31 [(4, some 32), (5, none)] (match fn15.body with | some c => c | none => .skip) = true := by kernel_rfl
theorem pacelineref03_Queue_Remove_calls {t0 t1 : Value} {w : World} {K : KV} (h : pacelineref03_Queue_Remove t0 t1 w K) : Cl prog 15 #[t0, t1] w K :=
  Cl.mk (by kernel_rfl) (calls_of_FC (fn := fn15) (nt := 31) (rs := [(4, some 32), (5, none)]) mixed fnAt15 (by kernel_rfl) (by kernel_rfl) (by kernel_rfl) (Nat.le_of_ble_eq_true (by kernel_rfl)) pacelineref03_Queue_Remove_ok (pacelineref03_Queue_Remove_eq t0 t1 w K) h)

/-- (*paceline/pacelineref04.Queue).Days -/
def pacelineref04_Queue_Days (t0 : Value) (w : World) (K : KV) : Prop :=
  mkS prog 26 (Value.int IntKind.i64 8) (Value.int IntKind.i64 8) w fun t6 w =>
  lp [(Value.int IntKind.i64 0)] w (b1 fun t4 w g1 =>
  ncP t0 <|
  fld 0 t0 w fun t10 w =>
  ld1 t10 w fun t11 w =>
  ncP t11 <|
  fld 1 t11 w fun t13 w =>
  ld1 t13 w fun t14 w =>
  lnS t14 w fun t15 w =>
  bi .lss .i64 t4 t15 w fun t16 w =>
  iff' t16
  (dr w fun w =>
  ncP t0 <|
  fld 0 t0 w fun t21 _ =>
  ld1 t21 w fun t22 _ =>
  ncP t22 <|
  fld 1 t22 w fun t24 _ =>
  ld1 t24 w fun t25 _ =>
  ixS 6 t25 t4 w fun t27 _ =>
  fld 0 t27 w fun t28 _ =>
  fld 0 t28 w fun t29 _ =>
  ld1 t29 w fun t30 _ =>
  ncP t0 <|
  fld 1 t0 w fun t33 _ =>
  ld1 t33 w fun t34 _ =>
  bi .quo .i64 t30 t34 w fun t35 _ =>
  bi .rem .i64 t35 (Value.int IntKind.i64 8) w fun t36 _ =>
  ixS 1 t6 t36 w fun t41 w =>
  ld1 t41 w fun t42 w =>
  bi .add .i64 t42 (Value.int IntKind.i64 1) w fun t43 w =>
  ixS 1 t6 t36 w fun t44 w =>
  stN 1 t44 t43 w fun _ w =>
  bi .add .i64 t4 (Value.int IntKind.i64 1) w fun t18 w =>
  g1 [t18] w)
  (K t6 w))
theorem pacelineref04_Queue_Days_eq (t0 : Value) (w : World) (K : KV) : pacelineref04_Queue_Days t0 w K = fnW prog 46 [2] (match fn16.body with | some c => c | none => .skip) #[t0] w K := by kernel_rfl
theorem pacelineref04_Queue_Days_ok : fnOk prog 46 [2] (match fn16.body with | some c => c | none => .skip) = true := by kernel_rfl
theorem pacelineref04_Queue_Days_calls {t0 : Value} {w : World} {K : KV} (h : pacelineref04_Queue_Days t0 w K) : Cl prog 16 #[t0] w K :=
  Cl.mk (by kernel_rfl) (calls_of_F (fn := fn16) (nt := 46) (rs := [2]) mixed fnAt16 (by kernel_rfl) (by kernel_rfl) (by kernel_rfl) (Nat.le_of_ble_eq_true (by kernel_rfl)) pacelineref04_Queue_Days_ok (pacelineref04_Queue_Days_eq t0 w K) h)

/-- paceline/pacelinelaw04.same -/
def pacelinelaw04_same (t0 t1 : Value) (w : World) (K : KV) : Prop :=
  lnS t0 w fun t7 w =>
  lnS t1 w fun t9 w =>
  bi .neq .i64 t7 t9 w fun t10 w =>
  iff' t10
  (K (Value.bool false) w)
  (lp [(Value.int IntKind.i64 0)] w (b1 fun t5 w g1 =>
  lnS t0 w fun t13 w =>
  bi .lss .i64 t5 t13 w fun t14 w =>
  iff' t14
  (dr w fun w =>
  ixS 6 t0 t5 w fun t19 _ =>
  ldN 6 t19 w fun t20 _ =>
  ixS 6 t1 t5 w fun t23 _ =>
  ldN 6 t23 w fun t24 _ =>
  bO prog .neq 32 (Operand.tmp 20) (Operand.tmp 24) t20 t24 w fun t25 w =>
  iff' t25
  (K (Value.bool false) w)
  (bi .add .i64 t5 (Value.int IntKind.i64 1) w fun t16 w =>
  g1 [t16] w))
  (K (Value.bool true) w)))
theorem pacelinelaw04_same_eq (t0 t1 : Value) (w : World) (K : KV) : pacelinelaw04_same t0 t1 w K = fnW prog 26 [4] (match fn17.body with | some c => c | none => .skip) #[t0, t1] w K := by kernel_rfl
theorem pacelinelaw04_same_ok : fnOk prog 26 [4] (match fn17.body with | some c => c | none => .skip) = true := by kernel_rfl
theorem pacelinelaw04_same_calls {t0 t1 : Value} {w : World} {K : KV} (h : pacelinelaw04_same t0 t1 w K) : Cl prog 17 #[t0, t1] w K :=
  Cl.mk (by kernel_rfl) (calls_of_F (fn := fn17) (nt := 26) (rs := [4]) mixed fnAt17 (by kernel_rfl) (by kernel_rfl) (by kernel_rfl) (Nat.le_of_ble_eq_true (by kernel_rfl)) pacelinelaw04_same_ok (pacelinelaw04_same_eq t0 t1 w K) h)

/-- (*paceline/calendar.Queue).List -/
def calendar_Queue_List (t0 : Value) (w : World) (K : KV) : Prop :=
  ncP t0 <|
  fld 3 t0 w fun t8 w =>
  ldN 8 t8 w fun t9 w =>
  lp [(Value.slice none 0 0), (Value.int IntKind.i64 0)] w (b2 fun t3 t10 w g1 =>
  bi .lss .i64 t10 (Value.int IntKind.i64 8) w fun t11 w =>
  iff' t11
  (ixV prog 56 t9 t10 w fun t12 w =>
  apS prog #[36, 36] 36 t3 t12 w fun t15 w =>
  bi .add .i64 t10 (Value.int IntKind.i64 1) w fun t16 w =>
  g1 [t15, t16] w)
  (Cl prog 43 #[t3, (Value.func (.func 44) #[] #[])] w fun _ w =>
  K t3 w))
theorem calendar_Queue_List_eq (t0 : Value) (w : World) (K : KV) : calendar_Queue_List t0 w K = fnW prog 20 [2] (match fn18.body with | some c => c | none => .skip) #[t0] w K := by kernel_rfl
theorem calendar_Queue_List_ok : fnOk prog 20 [2] (match fn18.body with | some c => c | none => .skip) = true := by kernel_rfl
theorem calendar_Queue_List_calls {t0 : Value} {w : World} {K : KV} (h : calendar_Queue_List t0 w K) : Cl prog 18 #[t0] w K :=
  Cl.mk (by kernel_rfl) (calls_of_F (fn := fn18) (nt := 20) (rs := [2]) mixed fnAt18 (by kernel_rfl) (by kernel_rfl) (by kernel_rfl) (Nat.le_of_ble_eq_true (by kernel_rfl)) calendar_Queue_List_ok (calendar_Queue_List_eq t0 w K) h)

/-- (*paceline/pacelineref03.Queue).List -/
def pacelineref03_Queue_List (t0 : Value) (w : World) (K : KV) : Prop :=
  bsl 32 6 0 #[] [] w fun t4 w =>
  ncP t0 <|
  fld 1 t0 w fun t8 w =>
  ld1 t8 w fun t9 w =>
  apS prog #[36, 36] 36 t4 t9 w fun t10 w =>
  K t10 w
theorem pacelineref03_Queue_List_eq (t0 : Value) (w : World) (K : KV) : pacelineref03_Queue_List t0 w K = fnW prog 11 [2] (match fn19.body with | some c => c | none => .skip) #[t0] w K := by kernel_rfl
theorem pacelineref03_Queue_List_ok : fnOk prog 11 [2] (match fn19.body with | some c => c | none => .skip) = true := by kernel_rfl
theorem pacelineref03_Queue_List_calls {t0 : Value} {w : World} {K : KV} (h : pacelineref03_Queue_List t0 w K) : Cl prog 19 #[t0] w K :=
  Cl.mk (by kernel_rfl) (calls_of_F (fn := fn19) (nt := 11) (rs := [2]) mixed fnAt19 (by kernel_rfl) (by kernel_rfl) (by kernel_rfl) (Nat.le_of_ble_eq_true (by kernel_rfl)) pacelineref03_Queue_List_ok (pacelineref03_Queue_List_eq t0 w K) h)

/-- (*paceline/calendar.Queue).Pop -/
def calendar_Queue_Pop (t0 : Value) (w : World) (K : KV) : Prop :=
  al (zeroD prog 32) 32 w fun t2 w =>
  Cl prog 21 #[t0] w fun t8 w =>
  xt 0 t8 w fun t9 w =>
  xt 1 t8 w fun t10 w =>
  al (zeroD prog 32) 32 w fun t4 w =>
  stN 6 t4 t9 w fun _ w =>
  J0 (fun w =>
  ldN 6 t4 w fun t16 w =>
  stN 6 t2 t16 w fun _ w =>
  ldN 6 t2 w fun r0 _ =>
  K (Value.tuple #[r0, t10]) w) fun k1 =>
  iff' t10
  (fld 0 t4 w fun t13 w =>
  ldN 3 t13 w fun t14 w =>
  Cl prog 14 #[t0, t14] w fun _ w =>
  k1 w)
  (k1 w)
theorem calendar_Queue_Pop_eq (t0 : Value) (w : World) (K : KV) : calendar_Queue_Pop t0 w K = fnWC prog 18 [(2, some 32), (3, none)] (match fn20.body with | some c => c | none => .skip) #[t0] w K := by kernel_rfl
theorem calendar_Queue_Pop_ok : fnOkC prog 18 [(2, some 32), (3, none)] (match fn20.body with | some c => c | none => .skip) = true := by kernel_rfl
theorem calendar_Queue_Pop_calls {t0 : Value} {w : World} {K : KV} (h : calendar_Queue_Pop t0 w K) : Cl prog 20 #[t0] w K :=
  Cl.mk (by kernel_rfl) (calls_of_FC (fn := fn20) (nt := 18) (rs := [(2, some 32), (3, none)]) mixed fnAt20 (by kernel_rfl) (by kernel_rfl) (by kernel_rfl) (Nat.le_of_ble_eq_true (by kernel_rfl)) calendar_Queue_Pop_ok (calendar_Queue_Pop_eq t0 w K) h)

end Go.Proofs.Ytlmakkjbcmhaeaa
