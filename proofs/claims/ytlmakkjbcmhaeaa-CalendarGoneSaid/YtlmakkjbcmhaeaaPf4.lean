/- Printed by prt.py: the Go functions of this seat as shallow predicate transformers. Conditions: none. -/
import Derived.Test.YtlmakkjbcmhaeaaEngO
import Derived.Test.YtlmakkjbcmhaeaaPfHead
import Derived.KernelRfl
namespace Go.Proofs.Ytlmakkjbcmhaeaa
open Go Go.E
set_option linter.unusedVariables false
set_option maxRecDepth 100000
/-- paceline/prio.New -/
def prio_New (t0 : Value) (w : World) (K : KV) : Prop :=
  mnI .i64 t0 (Value.int IntKind.i64 64) w fun t4 w =>
  mxI .i64 (Value.int IntKind.i64 0) t4 w fun t5 w =>
  mkMap w fun t6 w =>
  bld (zeroD prog 77) #[(0, 1), (1, 1), (2, 1)] [(0, t5), (2, t6)] w fun t7 w =>
  al (Value.cells t7) 77 w fun t8 w =>
  K t8 w
theorem prio_New_eq (t0 : Value) (w : World) (K : KV) : prio_New t0 w K = fnW prog 9 [2] (match fn27.body with | some c => c | none => .skip) #[t0] w K := by kernel_rfl
theorem prio_New_ok : fnOk prog 9 [2] (match fn27.body with | some c => c | none => .skip) = true := by kernel_rfl
theorem prio_New_calls {t0 : Value} {w : World} {K : KV} (h : prio_New t0 w K) : Cl prog 27 #[t0] w K :=
  Cl.mk (by kernel_rfl) (calls_of_F (fn := fn27) (nt := 9) (rs := [2]) mixed fnAt27 (by kernel_rfl) (by kernel_rfl) (by kernel_rfl) (Nat.le_of_ble_eq_true (by kernel_rfl)) prio_New_ok (prio_New_eq t0 w K) h)

/-- (*paceline/prio.Queue).Push -/
def prio_Queue_Push (t0 t1 : Value) (w : World) (K : KV) : Prop :=
  al (Value.cells t1) 32 w fun t3 w =>
  dr w fun w =>
  ncP t0 <|
  fld 2 t0 w fun t10 _ =>
  ld1 t10 w fun t11 _ =>
  fld 0 t3 w fun t12 _ =>
  ldN 3 t12 w fun t13 _ =>
  lkM prog 75 t11 t13 true w fun t14 w =>
  xt 0 t14 w fun _ _ =>
  xt 1 t14 w fun t16 _ =>
  iff' t16
  (K (Value.int IntKind.i64 3) w)
  (dr w fun w =>
  ncP t0 <|
  fld 1 t0 w fun t20 _ =>
  ld1 t20 w fun t21 _ =>
  lnS t21 w fun t22 _ =>
  ncP t0 <|
  fld 0 t0 w fun t25 _ =>
  ld1 t25 w fun t26 _ =>
  bi .geq .i64 t22 t26 w fun t27 _ =>
  iff' t27
  (K (Value.int IntKind.i64 2) w)
  (bld (zeroD prog 80) #[(0, 1)] [(0, t0)] w fun t29 w =>
  ldN 6 t3 w fun t31 w =>
  Cl prog 47 #[(Value.iface 80 t29), (Value.iface 32 t31)] w fun _ w =>
  K (Value.int IntKind.i64 0) w))
theorem prio_Queue_Push_eq (t0 t1 : Value) (w : World) (K : KV) : prio_Queue_Push t0 t1 w K = fnW prog 34 [4] (match fn28.body with | some c => c | none => .skip) #[t0, t1] w K := by kernel_rfl
theorem prio_Queue_Push_ok : fnOk prog 34 [4] (match fn28.body with | some c => c | none => .skip) = true := by kernel_rfl
theorem prio_Queue_Push_calls {t0 t1 : Value} {w : World} {K : KV} (h : prio_Queue_Push t0 t1 w K) : Cl prog 28 #[t0, t1] w K :=
  Cl.mk (by kernel_rfl) (calls_of_F (fn := fn28) (nt := 34) (rs := [4]) mixed fnAt28 (by kernel_rfl) (by kernel_rfl) (by kernel_rfl) (Nat.le_of_ble_eq_true (by kernel_rfl)) prio_Queue_Push_ok (prio_Queue_Push_eq t0 t1 w K) h)

/-- (*paceline/prio.Queue).Pop -/
def prio_Queue_Pop (t0 : Value) (w : World) (K : KV) : Prop :=
  al (zeroD prog 32) 32 w fun t2 w =>
  ncP t0 <|
  fld 1 t0 w fun t6 w =>
  ld1 t6 w fun t7 w =>
  lnS t7 w fun t8 w =>
  bi .eql .i64 t8 (Value.int IntKind.i64 0) w fun t9 w =>
  iff' t9
  (bld (zeroD prog 32) #[(0, 3), (3, 1), (4, 1), (5, 1)] [] w fun t10 w =>
  stN 6 t2 t10 w fun _ w =>
  ldN 6 t2 w fun r0 _ =>
  K (Value.tuple #[r0, (Value.bool false)]) w)
  (bld (zeroD prog 80) #[(0, 1)] [(0, t0)] w fun t12 w =>
  Cl prog 48 #[(Value.iface 80 t12)] w fun t14 w =>
  tyA prog t14 20 32 false w fun t15 w =>
  stN 6 t2 t15 w fun _ w =>
  ldN 6 t2 w fun r0 _ =>
  K (Value.tuple #[r0, (Value.bool true)]) w)
theorem prio_Queue_Pop_eq (t0 : Value) (w : World) (K : KV) : prio_Queue_Pop t0 w K = fnWC prog 16 [(2, some 32), (3, none)] (match fn29.body with | some c => c | none => .skip) #[t0] w K := by kernel_rfl
theorem prio_Queue_Pop_ok : fnOkC prog 16 [(2, some 32), (3, none)] (match fn29.body with | some c => c | none => .skip) = true := by kernel_rfl
theorem prio_Queue_Pop_calls {t0 : Value} {w : World} {K : KV} (h : prio_Queue_Pop t0 w K) : Cl prog 29 #[t0] w K :=
  Cl.mk (by kernel_rfl) (calls_of_FC (fn := fn29) (nt := 16) (rs := [(2, some 32), (3, none)]) mixed fnAt29 (by kernel_rfl) (by kernel_rfl) (by kernel_rfl) (Nat.le_of_ble_eq_true (by kernel_rfl)) prio_Queue_Pop_ok (prio_Queue_Pop_eq t0 w K) h)

/-- (*paceline/prio.Queue).Remove -/
def prio_Queue_Remove (t0 t1 : Value) (w : World) (K : KV) : Prop :=
  al (Value.cells t1) 30 w fun t3 w =>
  al (zeroD prog 32) 32 w fun t4 w =>
  dr w fun w =>
  ncP t0 <|
  fld 2 t0 w fun t11 _ =>
  ld1 t11 w fun t12 _ =>
  ldN 3 t3 w fun t13 _ =>
  lkM prog 75 t12 t13 true w fun t14 w =>
  xt 0 t14 w fun t15 _ =>
  xt 1 t14 w fun t16 _ =>
  bnot t16 w fun t18 w =>
  iff' t18
  (bld (zeroD prog 32) #[(0, 3), (3, 1), (4, 1), (5, 1)] [] w fun t19 w =>
  stN 6 t4 t19 w fun _ w =>
  ldN 6 t4 w fun r0 _ =>
  K (Value.tuple #[r0, (Value.bool false)]) w)
  (bld (zeroD prog 80) #[(0, 1)] [(0, t0)] w fun t21 w =>
  Cl prog 49 #[(Value.iface 80 t21), t15] w fun t24 w =>
  tyA prog t24 20 32 false w fun t25 w =>
  stN 6 t4 t25 w fun _ w =>
  ldN 6 t4 w fun r0 _ =>
  K (Value.tuple #[r0, (Value.bool true)]) w)
theorem prio_Queue_Remove_eq (t0 t1 : Value) (w : World) (K : KV) : prio_Queue_Remove t0 t1 w K = fnWC prog 26 [(4, some 32), (5, none)] (match fn30.body with | some c => c | none => .skip) #[t0, t1] w K := by kernel_rfl
theorem prio_Queue_Remove_ok : fnOkC prog 26 [(4, some 32), (5, none)] (match fn30.body with | some c => c | none => .skip) = true := by kernel_rfl
theorem prio_Queue_Remove_calls {t0 t1 : Value} {w : World} {K : KV} (h : prio_Queue_Remove t0 t1 w K) : Cl prog 30 #[t0, t1] w K :=
  Cl.mk (by kernel_rfl) (calls_of_FC (fn := fn30) (nt := 26) (rs := [(4, some 32), (5, none)]) mixed fnAt30 (by kernel_rfl) (by kernel_rfl) (by kernel_rfl) (Nat.le_of_ble_eq_true (by kernel_rfl)) prio_Queue_Remove_ok (prio_Queue_Remove_eq t0 t1 w K) h)

/-- (*paceline/prio.Queue).Len -/
def prio_Queue_Len (t0 : Value) (w : World) (K : KV) : Prop :=
  ncP t0 <|
  fld 1 t0 w fun t5 w =>
  ld1 t5 w fun t6 w =>
  lnS t6 w fun t7 w =>
  K t7 w
theorem prio_Queue_Len_eq (t0 : Value) (w : World) (K : KV) : prio_Queue_Len t0 w K = fnW prog 8 [2] (match fn31.body with | some c => c | none => .skip) #[t0] w K := by kernel_rfl
theorem prio_Queue_Len_ok : fnOk prog 8 [2] (match fn31.body with | some c => c | none => .skip) = true := by kernel_rfl
theorem prio_Queue_Len_calls {t0 : Value} {w : World} {K : KV} (h : prio_Queue_Len t0 w K) : Cl prog 31 #[t0] w K :=
  Cl.mk (by kernel_rfl) (calls_of_F (fn := fn31) (nt := 8) (rs := [2]) mixed fnAt31 (by kernel_rfl) (by kernel_rfl) (by kernel_rfl) (Nat.le_of_ble_eq_true (by kernel_rfl)) prio_Queue_Len_ok (prio_Queue_Len_eq t0 w K) h)

/-- (*paceline/prio.Queue).List -/
def prio_Queue_List (t0 : Value) (w : World) (K : KV) : Prop :=
  ncP t0 <|
  fld 1 t0 w fun t6 w =>
  ld1 t6 w fun t7 w =>
  Cl prog 50 #[t7] w fun t8 w =>
  Cl prog 43 #[t8, (Value.func (.func 51) #[] #[])] w fun _ w =>
  K t8 w
theorem prio_Queue_List_eq (t0 : Value) (w : World) (K : KV) : prio_Queue_List t0 w K = fnW prog 12 [2] (match fn32.body with | some c => c | none => .skip) #[t0] w K := by kernel_rfl
theorem prio_Queue_List_ok : fnOk prog 12 [2] (match fn32.body with | some c => c | none => .skip) = true := by kernel_rfl
theorem prio_Queue_List_calls {t0 : Value} {w : World} {K : KV} (h : prio_Queue_List t0 w K) : Cl prog 32 #[t0] w K :=
  Cl.mk (by kernel_rfl) (calls_of_F (fn := fn32) (nt := 12) (rs := [2]) mixed fnAt32 (by kernel_rfl) (by kernel_rfl) (by kernel_rfl) (Nat.le_of_ble_eq_true (by kernel_rfl)) prio_Queue_List_ok (prio_Queue_List_eq t0 w K) h)

end Go.Proofs.Ytlmakkjbcmhaeaa
