/- Printed by prt.py: the Go functions of this seat as shallow predicate transformers. Conditions: none. -/
import Derived.Test.YtlmakkjbcmhaeaaEngO
import Derived.Test.YtlmakkjbcmhaeaaPfHead
import Derived.KernelRfl
namespace Go.Proofs.Ytlmakkjbcmhaeaa
open Go Go.E
set_option linter.unusedVariables false
set_option maxRecDepth 100000
/-- (*paceline/calendar.Queue).First$1 -/
def calendar_Queue_First_1 (t0 t1 t2 : Value) (w : World) (K : KV) : Prop :=
  dr w fun w =>
  lnS t0 w fun t5 _ =>
  bi .gtr .i64 t5 (Value.int IntKind.i64 0) w fun t6 _ =>
  gd t6 true (fun k => ld1 t1 w k) w fun t8 _ =>
  gd t6 true (fun k => bnot t8 w k) w fun t9 _ =>
  gd t6 true (fun k => k t9 w) w fun t10 _ =>
  gd t10 false (fun k => k t0 w) w fun t11 _ =>
  gd t10 false (fun k => ixS 6 t11 (Value.int IntKind.i64 0) w k) w fun t12 _ =>
  gd t10 false (fun k => fld 0 t12 w k) w fun t13 _ =>
  gd t10 false (fun k => ldN 3 t13 w k) w fun t14 _ =>
  gd t10 false (fun k => fld 0 t2 w k) w fun t15 _ =>
  gd t10 false (fun k => ldN 3 t15 w k) w fun t16 _ =>
  gd t10 false (fun k => Cl prog 45 #[t14, t16] w k) w fun t17 w =>
  gd t10 false (fun k => bi .lss .i64 t17 (Value.int IntKind.i64 0) w k) w fun t18 _ =>
  gd t6 true (fun k => pk t10 (Value.bool true) t18 w k) w fun t19 _ =>
  pk t6 t19 (Value.bool false) w fun t20 _ =>
  iff' t20
  (ixS 6 t0 (Value.int IntKind.i64 0) w fun t22 w =>
  ldN 6 t22 w fun t23 w =>
  stN 6 t2 t23 w fun _ w =>
  stN 1 t1 (Value.bool true) w fun _ w =>
  K (Value.tuple #[]) w)
  (K (Value.tuple #[]) w)
theorem calendar_Queue_First_1_eq (t0 t1 t2 : Value) (w : World) (K : KV) : calendar_Queue_First_1 t0 t1 t2 w K = fnW prog 24 [] (match fn46.body with | some c => c | none => .skip) #[t0, t1, t2] w K := by kernel_rfl
theorem calendar_Queue_First_1_ok : fnOk prog 24 [] (match fn46.body with | some c => c | none => .skip) = true := by kernel_rfl
theorem calendar_Queue_First_1_calls {t0 t1 t2 : Value} {w : World} {K : KV} (h : calendar_Queue_First_1 t0 t1 t2 w K) : Cl prog 46 #[t0, t1, t2] w K :=
  Cl.mk (by kernel_rfl) (calls_of_F (fn := fn46) (nt := 24) (rs := []) mixed fnAt46 (by kernel_rfl) (by kernel_rfl) (by kernel_rfl) (Nat.le_of_ble_eq_true (by kernel_rfl)) calendar_Queue_First_1_ok (calendar_Queue_First_1_eq t0 t1 t2 w K) h)

/-- container/heap.Push -/
def heap_Push (t0 t1 : Value) (w : World) (K : KV) : Prop :=
  clI prog t0 "Push" #[t1] w fun _ w =>
  clI prog t0 "Len" #[] w fun t9 w =>
  bi .sub .i64 t9 (Value.int IntKind.i64 1) w fun t10 w =>
  Cl prog 61 #[t0, t10] w fun _ w =>
  K (Value.tuple #[]) w
theorem heap_Push_eq (t0 t1 : Value) (w : World) (K : KV) : heap_Push t0 t1 w K = fnW prog 12 [] (match fn47.body with | some c => c | none => .skip) #[t0, t1] w K := by kernel_rfl
theorem heap_Push_ok : fnOk prog 12 [] (match fn47.body with | some c => c | none => .skip) = true := by kernel_rfl
theorem heap_Push_calls {t0 t1 : Value} {w : World} {K : KV} (h : heap_Push t0 t1 w K) : Cl prog 47 #[t0, t1] w K :=
  Cl.mk (by kernel_rfl) (calls_of_F (fn := fn47) (nt := 12) (rs := []) mixed fnAt47 (by kernel_rfl) (by kernel_rfl) (by kernel_rfl) (Nat.le_of_ble_eq_true (by kernel_rfl)) heap_Push_ok (heap_Push_eq t0 t1 w K) h)

/-- container/heap.Pop -/
def heap_Pop (t0 : Value) (w : World) (K : KV) : Prop :=
  clI prog t0 "Len" #[] w fun t5 w =>
  bi .sub .i64 t5 (Value.int IntKind.i64 1) w fun t6 w =>
  clI prog t0 "Swap" #[(Value.int IntKind.i64 0), t6] w fun _ w =>
  Cl prog 62 #[t0, (Value.int IntKind.i64 0), t6] w fun _ w =>
  clI prog t0 "Pop" #[] w fun t14 w =>
  K t14 w
theorem heap_Pop_eq (t0 : Value) (w : World) (K : KV) : heap_Pop t0 w K = fnW prog 15 [2] (match fn48.body with | some c => c | none => .skip) #[t0] w K := by kernel_rfl
theorem heap_Pop_ok : fnOk prog 15 [2] (match fn48.body with | some c => c | none => .skip) = true := by kernel_rfl
theorem heap_Pop_calls {t0 : Value} {w : World} {K : KV} (h : heap_Pop t0 w K) : Cl prog 48 #[t0] w K :=
  Cl.mk (by kernel_rfl) (calls_of_F (fn := fn48) (nt := 15) (rs := [2]) mixed fnAt48 (by kernel_rfl) (by kernel_rfl) (by kernel_rfl) (Nat.le_of_ble_eq_true (by kernel_rfl)) heap_Pop_ok (heap_Pop_eq t0 w K) h)

/-- container/heap.Remove -/
def heap_Remove (t0 t1 : Value) (w : World) (K : KV) : Prop :=
  clI prog t0 "Len" #[] w fun t7 w =>
  bi .sub .i64 t7 (Value.int IntKind.i64 1) w fun t8 w =>
  bi .neq .i64 t8 t1 w fun t11 w =>
  J0 (fun w =>
  clI prog t0 "Pop" #[] w fun t25 w =>
  K t25 w) fun k1 =>
  iff' t11
  (clI prog t0 "Swap" #[t1, t8] w fun _ w =>
  Cl prog 62 #[t0, t1, t8] w fun t19 w =>
  bnot t19 w fun t20 w =>
  iff' t20
  (Cl prog 61 #[t0, t1] w fun _ w =>
  k1 w)
  (k1 w))
  (k1 w)
theorem heap_Remove_eq (t0 t1 : Value) (w : World) (K : KV) : heap_Remove t0 t1 w K = fnW prog 26 [4] (match fn49.body with | some c => c | none => .skip) #[t0, t1] w K := by kernel_rfl
theorem heap_Remove_ok : fnOk prog 26 [4] (match fn49.body with | some c => c | none => .skip) = true := by kernel_rfl
theorem heap_Remove_calls {t0 t1 : Value} {w : World} {K : KV} (h : heap_Remove t0 t1 w K) : Cl prog 49 #[t0, t1] w K :=
  Cl.mk (by kernel_rfl) (calls_of_F (fn := fn49) (nt := 26) (rs := [4]) mixed fnAt49 (by kernel_rfl) (by kernel_rfl) (by kernel_rfl) (Nat.le_of_ble_eq_true (by kernel_rfl)) heap_Remove_ok (heap_Remove_eq t0 t1 w K) h)

/-- slices.Clone[[]paceline/api.Msg,paceline/api.Msg] -/
def slices_Clone_api_Msg_api_Msg (t0 : Value) (w : World) (K : KV) : Prop :=
  bO prog .eql 36 (Operand.tmp 3) (Operand.const (Value.slice none 0 0)) t0 (Value.slice none 0 0) w fun t4 w =>
  iff' t4
  (K (Value.slice none 0 0) w)
  (bsl 32 6 0 #[] [] w fun t5 w =>
  apS prog #[36, 36] 36 t5 t0 w fun t7 w =>
  K t7 w)
theorem slices_Clone_api_Msg_api_Msg_eq (t0 : Value) (w : World) (K : KV) : slices_Clone_api_Msg_api_Msg t0 w K = fnW prog 8 [2] (match fn50.body with | some c => c | none => .skip) #[t0] w K := by kernel_rfl
theorem slices_Clone_api_Msg_api_Msg_ok : fnOk prog 8 [2] (match fn50.body with | some c => c | none => .skip) = true := by kernel_rfl
theorem slices_Clone_api_Msg_api_Msg_calls {t0 : Value} {w : World} {K : KV} (h : slices_Clone_api_Msg_api_Msg t0 w K) : Cl prog 50 #[t0] w K :=
  Cl.mk (by kernel_rfl) (calls_of_F (fn := fn50) (nt := 8) (rs := [2]) mixed fnAt50 (by kernel_rfl) (by kernel_rfl) (by kernel_rfl) (Nat.le_of_ble_eq_true (by kernel_rfl)) slices_Clone_api_Msg_api_Msg_ok (slices_Clone_api_Msg_api_Msg_eq t0 w K) h)

/-- (*paceline/prio.Queue).List$1 -/
def prio_Queue_List_1 (t0 t1 : Value) (w : World) (K : KV) : Prop :=
  al (Value.cells t0) 32 w fun t2 w =>
  al (Value.cells t1) 32 w fun t3 w =>
  fld 0 t2 w fun t5 w =>
  ldN 3 t5 w fun t6 w =>
  fld 0 t3 w fun t7 w =>
  ldN 3 t7 w fun t8 w =>
  Cl prog 45 #[t6, t8] w fun t9 w =>
  K t9 w
theorem prio_Queue_List_1_eq (t0 t1 : Value) (w : World) (K : KV) : prio_Queue_List_1 t0 t1 w K = fnW prog 10 [4] (match fn51.body with | some c => c | none => .skip) #[t0, t1] w K := by kernel_rfl
theorem prio_Queue_List_1_ok : fnOk prog 10 [4] (match fn51.body with | some c => c | none => .skip) = true := by kernel_rfl
theorem prio_Queue_List_1_calls {t0 t1 : Value} {w : World} {K : KV} (h : prio_Queue_List_1 t0 t1 w K) : Cl prog 51 #[t0, t1] w K :=
  Cl.mk (by kernel_rfl) (calls_of_F (fn := fn51) (nt := 10) (rs := [4]) mixed fnAt51 (by kernel_rfl) (by kernel_rfl) (by kernel_rfl) (Nat.le_of_ble_eq_true (by kernel_rfl)) prio_Queue_List_1_ok (prio_Queue_List_1_eq t0 t1 w K) h)

end Go.Proofs.Ytlmakkjbcmhaeaa
