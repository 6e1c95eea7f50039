/- Printed by prt.py: the Go functions of this seat as shallow predicate transformers. Conditions: none. -/
import Derived.Test.YtbfjpmbgjgjckaaEngO
import Derived.Test.YtbfjpmbgjgjckaaPfHead
import Derived.KernelRfl
namespace Go.Proofs.Ytbfjpmbgjgjckaa
open Go Go.E
set_option linter.unusedVariables false
set_option maxRecDepth 100000
/-- cmp.Compare[int] -/
def cmp_Compare_int (t0 t1 : Value) (w : World) (K : KV) : Prop :=
  Cl prog 55 #[t0] w fun t8 w =>
  Cl prog 55 #[t1] w fun t10 w =>
  iff' t8
  (iff' t10
  (K (Value.int IntKind.i64 0) w)
  (K (Value.int IntKind.i64 (-1)) w))
  (iff' t10
  (K (Value.int IntKind.i64 1) w)
  (bi .lss .i64 t0 t1 w fun t16 w =>
  iff' t16
  (K (Value.int IntKind.i64 (-1)) w)
  (bi .gtr .i64 t0 t1 w fun t19 w =>
  iff' t19
  (K (Value.int IntKind.i64 1) w)
  (K (Value.int IntKind.i64 0) w))))
theorem cmp_Compare_int_eq (t0 t1 : Value) (w : World) (K : KV) : cmp_Compare_int t0 t1 w K = fnW prog 20 [4] (match fn42.body with | some c => c | none => .skip) #[t0, t1] w K := by kernel_rfl
theorem cmp_Compare_int_ok : fnOk prog 20 [4] (match fn42.body with | some c => c | none => .skip) = true := by kernel_rfl
theorem cmp_Compare_int_calls {t0 t1 : Value} {w : World} {K : KV} (h : cmp_Compare_int t0 t1 w K) : Cl prog 42 #[t0, t1] w K :=
  Cl.mk (by kernel_rfl) (calls_of_F (fn := fn42) (nt := 20) (rs := [4]) mixed fnAt42 (by kernel_rfl) (by kernel_rfl) (by kernel_rfl) (Nat.le_of_ble_eq_true (by kernel_rfl)) cmp_Compare_int_ok (cmp_Compare_int_eq t0 t1 w K) h)

/-- slices.IndexFunc[[]paceline/api.Msg,paceline/api.Msg] -/
def slices_IndexFunc_api_Msg_api_Msg (t0 t1 : Value) (w : World) (K : KV) : Prop :=
  lnS t0 w fun t7 w =>
  lp [(Value.int IntKind.i64 0)] w (b1 fun t8 w g1 =>
  bi .lss .i64 t8 t7 w fun t9 w =>
  iff' t9
  (ixS 6 t0 t8 w fun t14 w =>
  ldN 6 t14 w fun t15 w =>
  clV prog t1 #[t15] w fun t16 w =>
  iff' t16
  (K t8 w)
  (bi .add .i64 t8 (Value.int IntKind.i64 1) w fun t18 w =>
  g1 [t18] w))
  (K (Value.int IntKind.i64 (-1)) w))
theorem slices_IndexFunc_api_Msg_api_Msg_eq (t0 t1 : Value) (w : World) (K : KV) : slices_IndexFunc_api_Msg_api_Msg t0 t1 w K = fnW prog 19 [4] (match fn43.body with | some c => c | none => .skip) #[t0, t1] w K := by kernel_rfl
theorem slices_IndexFunc_api_Msg_api_Msg_ok : fnOk prog 19 [4] (match fn43.body with | some c => c | none => .skip) = true := by kernel_rfl
theorem slices_IndexFunc_api_Msg_api_Msg_calls {t0 t1 : Value} {w : World} {K : KV} (h : slices_IndexFunc_api_Msg_api_Msg t0 t1 w K) : Cl prog 43 #[t0, t1] w K :=
  Cl.mk (by kernel_rfl) (calls_of_F (fn := fn43) (nt := 19) (rs := [4]) mixed fnAt43 (by kernel_rfl) (by kernel_rfl) (by kernel_rfl) (Nat.le_of_ble_eq_true (by kernel_rfl)) slices_IndexFunc_api_Msg_api_Msg_ok (slices_IndexFunc_api_Msg_api_Msg_eq t0 t1 w K) h)

/-- container/heap.down -/
def heap_down (t0 t1 t2 : Value) (w : World) (K : KV) : Prop :=
  J1 (fun t7 w =>
  bi .gtr .i64 t7 t1 w fun t47 w =>
  K t47 w) fun k1 =>
  lp [t1] w (b1 fun t7_1 w g2 =>
  bi .mul .i64 (Value.int IntKind.i64 2) t7_1 w fun t13 w =>
  bi .add .i64 t13 (Value.int IntKind.i64 1) w fun t14 w =>
  bi .geq .i64 t14 t2 w fun t17 w =>
  gd t17 false (fun k => k t14 w) w fun t19 w =>
  gd t17 false (fun k => bi .lss .i64 t19 (Value.int IntKind.i64 0) w k) w fun t20 w =>
  pk t17 (Value.bool true) t20 w fun t21 w =>
  iff' t21
  (k1 t7_1 w)
  (bi .add .i64 t14 (Value.int IntKind.i64 1) w fun t24 w =>
  bi .lss .i64 t24 t2 w fun t27 w =>
  gd t27 true (fun k => k t0 w) w fun t29 w =>
  gd t27 true (fun k => k t24 w) w fun t30 w =>
  gd t27 true (fun k => k t14 w) w fun t31 w =>
  gd t27 true (fun k => clI prog t29 "Less" #[t30, t31] w k) w fun t32 w =>
  pk t27 t32 (Value.bool false) w fun t33 w =>
  J1 (fun t9 w =>
  clI prog t0 "Less" #[t9, t7_1] w fun t38 w =>
  bnot t38 w fun t39 w =>
  iff' t39
  (k1 t7_1 w)
  (clI prog t0 "Swap" #[t7_1, t9] w fun _ w =>
  g2 [t9] w)) fun k3 =>
  iff' t33
  (k3 t24 w)
  (k3 t14 w)))
theorem heap_down_eq (t0 t1 t2 : Value) (w : World) (K : KV) : heap_down t0 t1 t2 w K = fnW prog 48 [6] (match fn44.body with | some c => c | none => .skip) #[t0, t1, t2] w K := by kernel_rfl
theorem heap_down_ok : fnOk prog 48 [6] (match fn44.body with | some c => c | none => .skip) = true := by kernel_rfl
theorem heap_down_calls {t0 t1 t2 : Value} {w : World} {K : KV} (h : heap_down t0 t1 t2 w K) : Cl prog 44 #[t0, t1, t2] w K :=
  Cl.mk (by kernel_rfl) (calls_of_F (fn := fn44) (nt := 48) (rs := [6]) mixed fnAt44 (by kernel_rfl) (by kernel_rfl) (by kernel_rfl) (Nat.le_of_ble_eq_true (by kernel_rfl)) heap_down_ok (heap_down_eq t0 t1 t2 w K) h)

/-- cmp.isNaN[int] -/
def cmp_isNaN_int (t0 : Value) (w : World) (K : KV) : Prop :=
  bi .neq .i64 t0 t0 w fun t5 w =>
  K t5 w
theorem cmp_isNaN_int_eq (t0 : Value) (w : World) (K : KV) : cmp_isNaN_int t0 w K = fnW prog 6 [2] (match fn55.body with | some c => c | none => .skip) #[t0] w K := by kernel_rfl
theorem cmp_isNaN_int_ok : fnOk prog 6 [2] (match fn55.body with | some c => c | none => .skip) = true := by kernel_rfl
theorem cmp_isNaN_int_calls {t0 : Value} {w : World} {K : KV} (h : cmp_isNaN_int t0 w K) : Cl prog 55 #[t0] w K :=
  Cl.mk (by kernel_rfl) (calls_of_F (fn := fn55) (nt := 6) (rs := [2]) mixed fnAt55 (by kernel_rfl) (by kernel_rfl) (by kernel_rfl) (Nat.le_of_ble_eq_true (by kernel_rfl)) cmp_isNaN_int_ok (cmp_isNaN_int_eq t0 w K) h)

/-- (paceline/prio.faced).Len -/
def prio_faced_Len (t0 : Value) (w : World) (K : KV) : Prop :=
  al (Value.cells t0) 57 w fun t1 w =>
  fld 0 t1 w fun t3 w =>
  ld1 t3 w fun t4 w =>
  ncP t4 <|
  fld 1 t4 w fun t6 w =>
  ld1 t6 w fun t7 w =>
  lnS t7 w fun t8 w =>
  K t8 w
theorem prio_faced_Len_eq (t0 : Value) (w : World) (K : KV) : prio_faced_Len t0 w K = fnW prog 9 [2] (match fn79.body with | some c => c | none => .skip) #[t0] w K := by kernel_rfl
theorem prio_faced_Len_ok : fnOk prog 9 [2] (match fn79.body with | some c => c | none => .skip) = true := by kernel_rfl
theorem prio_faced_Len_calls {t0 : Value} {w : World} {K : KV} (h : prio_faced_Len t0 w K) : Cl prog 79 #[t0] w K :=
  Cl.mk (by kernel_rfl) (calls_of_F (fn := fn79) (nt := 9) (rs := [2]) mixed fnAt79 (by kernel_rfl) (by kernel_rfl) (by kernel_rfl) (Nat.le_of_ble_eq_true (by kernel_rfl)) prio_faced_Len_ok (prio_faced_Len_eq t0 w K) h)

/-- (paceline/prio.faced).Less -/
def prio_faced_Less (t0 t1 t2 : Value) (w : World) (K : KV) : Prop :=
  al (Value.cells t0) 57 w fun t3 w =>
  dr w fun w =>
  fld 0 t3 w fun t7 _ =>
  ld1 t7 w fun t8 _ =>
  ncP t8 <|
  fld 1 t8 w fun t10 _ =>
  ld1 t10 w fun t11 _ =>
  ixS 6 t11 t1 w fun t13 _ =>
  fld 0 t13 w fun t14 _ =>
  ldN 3 t14 w fun t15 _ =>
  fld 0 t3 w fun t16 _ =>
  ld1 t16 w fun t17 _ =>
  ncP t17 <|
  fld 1 t17 w fun t19 _ =>
  ld1 t19 w fun t20 _ =>
  ixS 6 t20 t2 w fun t22 _ =>
  fld 0 t22 w fun t23 _ =>
  ldN 3 t23 w fun t24 _ =>
  Cl prog 32 #[t15, t24] w fun t25 w =>
  bi .lss .i64 t25 (Value.int IntKind.i64 0) w fun t26 _ =>
  K t26 w
theorem prio_faced_Less_eq (t0 t1 t2 : Value) (w : World) (K : KV) : prio_faced_Less t0 t1 t2 w K = fnW prog 27 [6] (match fn80.body with | some c => c | none => .skip) #[t0, t1, t2] w K := by kernel_rfl
theorem prio_faced_Less_ok : fnOk prog 27 [6] (match fn80.body with | some c => c | none => .skip) = true := by kernel_rfl
theorem prio_faced_Less_calls {t0 t1 t2 : Value} {w : World} {K : KV} (h : prio_faced_Less t0 t1 t2 w K) : Cl prog 80 #[t0, t1, t2] w K :=
  Cl.mk (by kernel_rfl) (calls_of_F (fn := fn80) (nt := 27) (rs := [6]) mixed fnAt80 (by kernel_rfl) (by kernel_rfl) (by kernel_rfl) (Nat.le_of_ble_eq_true (by kernel_rfl)) prio_faced_Less_ok (prio_faced_Less_eq t0 t1 t2 w K) h)

end Go.Proofs.Ytbfjpmbgjgjckaa
