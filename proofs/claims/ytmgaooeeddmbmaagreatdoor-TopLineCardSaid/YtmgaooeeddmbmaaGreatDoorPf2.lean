/- Printed by prt.py: the Go functions of this seat as shallow predicate transformers. Conditions: none. -/
import Derived.Test.YtmgaooeeddmbmaaGreatDoorEngO
import Derived.Test.YtmgaooeeddmbmaaGreatDoorPfHead
import Derived.KernelRfl
namespace Go.Proofs.YtmgaooeeddmbmaaGreatDoor
open Go Go.E
set_option linter.unusedVariables false
set_option maxRecDepth 100000
/-- paceline/vtime.clamp -/
def vtime_clamp (t0 : Value) (w : World) (K : KV) : Prop :=
  bi .lss .i64 t0 (Value.int IntKind.i64 0) w fun t5 w =>
  iff' t5
  (K (Value.int IntKind.i64 0) w)
  (bi .gtr .i64 t0 (Value.int IntKind.i64 1099511627776) w fun t8 w =>
  iff' t8
  (K (Value.int IntKind.i64 1125899906842624) w)
  (K t0 w))
theorem vtime_clamp_eq (t0 : Value) (w : World) (K : KV) : vtime_clamp t0 w K = fnW prog 10 [2] (match fn38.body with | some c => c | none => .skip) #[t0] w K := by kernel_rfl
theorem vtime_clamp_ok : fnOk prog 10 [2] (match fn38.body with | some c => c | none => .skip) = true := by kernel_rfl
theorem vtime_clamp_calls {t0 : Value} {w : World} {K : KV} (h : vtime_clamp t0 w K) : Cl prog 38 #[t0] w K :=
  Cl.mk (by kernel_rfl) (calls_of_F (fn := fn38) (nt := 10) (rs := [2]) mixed fnAt38 (by kernel_rfl) (by kernel_rfl) (by kernel_rfl) (Nat.le_of_ble_eq_true (by kernel_rfl)) vtime_clamp_ok (vtime_clamp_eq t0 w K) h)

/-- paceline/lbts.Lbts -/
def lbts_Lbts (t0 t1 : Value) (w : World) (K : KV) : Prop :=
  Cl prog 26 #[t0] w fun t9 w =>
  lnS t9 w fun t10 w =>
  lp [(Value.int IntKind.i64 1125899906842624), (Value.int IntKind.i64 0)] w (b2 fun t5 t11 w g1 =>
  bi .lss .i64 t11 t10 w fun t12 w =>
  iff' t12
  (J1 (fun t5_1 w =>
  bi .add .i64 t11 (Value.int IntKind.i64 1) w fun t29 w =>
  g1 [t5_1, t29] w) fun k2 =>
  ixS 1 t9 t11 w fun t14 w =>
  ld1 t14 w fun t15 w =>
  bi .neq .i64 t11 t1 w fun t18 w =>
  gd t18 true (fun k => k t0 w) w fun t20 w =>
  gd t18 true (fun k => k t11 w) w fun t21 w =>
  gd t18 true (fun k => ixS 7 t20 t21 w k) w fun t22 w =>
  gd t18 true (fun k => fld 0 t22 w k) w fun t23 w =>
  gd t18 true (fun k => ld1 t23 w k) w fun t24 w =>
  pk t18 t24 (Value.bool false) w fun t25 w =>
  iff' t25
  (mnI .i64 t5 t15 w fun t28 w =>
  k2 t28 w)
  (k2 t5 w))
  (K t5 w))
theorem lbts_Lbts_eq (t0 t1 : Value) (w : World) (K : KV) : lbts_Lbts t0 t1 w K = fnW prog 31 [4] (match fn39.body with | some c => c | none => .skip) #[t0, t1] w K := by kernel_rfl
theorem lbts_Lbts_ok : fnOk prog 31 [4] (match fn39.body with | some c => c | none => .skip) = true := by kernel_rfl
theorem lbts_Lbts_calls {t0 t1 : Value} {w : World} {K : KV} (h : lbts_Lbts t0 t1 w K) : Cl prog 39 #[t0, t1] w K :=
  Cl.mk (by kernel_rfl) (calls_of_F (fn := fn39) (nt := 31) (rs := [4]) mixed fnAt39 (by kernel_rfl) (by kernel_rfl) (by kernel_rfl) (Nat.le_of_ble_eq_true (by kernel_rfl)) lbts_Lbts_ok (lbts_Lbts_eq t0 t1 w K) h)

/-- (*paceline/pubsub.Table).Publishes -/
def pubsub_Table_Publishes (t0 t1 t2 : Value) (w : World) (K : KV) : Prop :=
  Cl prog 35 #[t0, t1, t2] w fun t10 w =>
  bi .eql .i64 t10 (Value.int IntKind.i64 0) w fun t11 w =>
  gd t11 true (fun k => k t0 w) w fun t13 w =>
  gd t11 true (fun k => k t1 w) w fun t14 w =>
  gd t11 true (fun k => nc t13 w k) w fun t15 w =>
  gd t11 true (fun k => fld 1 t15 w k) w fun t16 w =>
  gd t11 true (fun k => ixA 8 1 t16 t14 w k) w fun t17 w =>
  gd t11 true (fun k => ld1 t17 w k) w fun t18 w =>
  gd t11 true (fun k => k t2 w) w fun t19 w =>
  gd t11 true (fun k => cvI .u64 t19 w k) w fun t20 w =>
  gd t11 true (fun k => bO prog .shr 50 (Operand.tmp 18) (Operand.tmp 20) t18 t20 w k) w fun t21 w =>
  gd t11 true (fun k => bO prog .and 50 (Operand.tmp 21) (Operand.const (Value.int IntKind.u32 1)) t21 (Value.int IntKind.u32 1) w k) w fun t22 w =>
  gd t11 true (fun k => bi .eql .u32 t22 (Value.int IntKind.u32 1) w k) w fun t23 w =>
  pk t11 t23 (Value.bool false) w fun t24 w =>
  K t24 w
theorem pubsub_Table_Publishes_eq (t0 t1 t2 : Value) (w : World) (K : KV) : pubsub_Table_Publishes t0 t1 t2 w K = fnW prog 25 [6] (match fn40.body with | some c => c | none => .skip) #[t0, t1, t2] w K := by kernel_rfl
theorem pubsub_Table_Publishes_ok : fnOk prog 25 [6] (match fn40.body with | some c => c | none => .skip) = true := by kernel_rfl
theorem pubsub_Table_Publishes_calls {t0 t1 t2 : Value} {w : World} {K : KV} (h : pubsub_Table_Publishes t0 t1 t2 w K) : Cl prog 40 #[t0, t1, t2] w K :=
  Cl.mk (by kernel_rfl) (calls_of_F (fn := fn40) (nt := 25) (rs := [6]) mixed fnAt40 (by kernel_rfl) (by kernel_rfl) (by kernel_rfl) (Nat.le_of_ble_eq_true (by kernel_rfl)) pubsub_Table_Publishes_ok (pubsub_Table_Publishes_eq t0 t1 t2 w K) h)

/-- (paceline/lbts.Member).own -/
def lbts_Member_own (t0 : Value) (w : World) (K : KV) : Prop :=
  al (Value.cells t0) 101 w fun t1 w =>
  fld 4 t1 w fun t4 w =>
  ld1 t4 w fun t5 w =>
  bi .eql .i64 t5 (Value.int IntKind.i64 1) w fun t7 w =>
  iff' t7
  (fld 5 t1 w fun t8 w =>
  ld1 t8 w fun t9 w =>
  Cl prog 44 #[t9] w fun t10 w =>
  K (Value.tuple #[t10, (Value.bool false)]) w)
  (bi .eql .i64 t5 (Value.int IntKind.i64 2) w fun t12 w =>
  J1 (fun t11 w =>
  iff' t11
  (fld 1 t1 w fun t14 w =>
  ld1 t14 w fun t15 w =>
  iff' t15
  (dr w fun w =>
  fld 2 t1 w fun t16 _ =>
  ld1 t16 w fun t17 _ =>
  fld 5 t1 w fun t19 _ =>
  ld1 t19 w fun t20 _ =>
  fld 6 t1 w fun t22 _ =>
  ld1 t22 w fun t23 _ =>
  Cl prog 44 #[t17] w fun t18 w =>
  (ld1 t22 w (fun v' w'' => v' = t23 ∧ w'' = w)) ∧ ((ld1 t19 w (fun v' w'' => v' = t20 ∧ w'' = w)) ∧ (Cl prog 44 #[t20] w fun t21 w =>
  (ld1 t22 w (fun v' w'' => v' = t23 ∧ w'' = w)) ∧ (Cl prog 44 #[t23] w fun t24 w =>
  mnI .i64 t21 t24 w fun t25 w =>
  mxI .i64 t18 t25 w fun t26 w =>
  K (Value.tuple #[t26, (Value.bool true)]) w))))
  (fld 5 t1 w fun t27 w =>
  ld1 t27 w fun t28 w =>
  Cl prog 44 #[t28] w fun t29 w =>
  K (Value.tuple #[t29, (Value.bool false)]) w))
  (fld 2 t1 w fun t30 w =>
  ld1 t30 w fun t31 w =>
  Cl prog 44 #[t31] w fun t32 w =>
  K (Value.tuple #[t32, (Value.bool false)]) w)) fun k1 =>
  iff' t12
  (k1 t12 w)
  (bi .eql .i64 t5 (Value.int IntKind.i64 3) w fun t13 w =>
  k1 t13 w))
theorem lbts_Member_own_eq (t0 : Value) (w : World) (K : KV) : lbts_Member_own t0 w K = fnW prog 33 [2, 3] (match fn41.body with | some c => c | none => .skip) #[t0] w K := by kernel_rfl
theorem lbts_Member_own_ok : fnOk prog 33 [2, 3] (match fn41.body with | some c => c | none => .skip) = true := by kernel_rfl
theorem lbts_Member_own_calls {t0 : Value} {w : World} {K : KV} (h : lbts_Member_own t0 w K) : Cl prog 41 #[t0] w K :=
  Cl.mk (by kernel_rfl) (calls_of_F (fn := fn41) (nt := 33) (rs := [2, 3]) mixed fnAt41 (by kernel_rfl) (by kernel_rfl) (by kernel_rfl) (Nat.le_of_ble_eq_true (by kernel_rfl)) lbts_Member_own_ok (lbts_Member_own_eq t0 w K) h)

/-- (paceline/lbts.Member).later -/
def lbts_Member_later (t0 t1 : Value) (w : World) (K : KV) : Prop :=
  al (Value.cells t0) 101 w fun t2 w =>
  fld 3 t2 w fun t6 w =>
  ld1 t6 w fun t7 w =>
  mnI .i64 t7 (Value.int IntKind.i64 1048576) w fun t8 w =>
  mxI .i64 (Value.int IntKind.i64 1) t8 w fun t9 w =>
  Cl prog 22 #[t1, t9] w fun t10 w =>
  K t10 w
theorem lbts_Member_later_eq (t0 t1 : Value) (w : World) (K : KV) : lbts_Member_later t0 t1 w K = fnW prog 11 [4] (match fn42.body with | some c => c | none => .skip) #[t0, t1] w K := by kernel_rfl
theorem lbts_Member_later_ok : fnOk prog 11 [4] (match fn42.body with | some c => c | none => .skip) = true := by kernel_rfl
theorem lbts_Member_later_calls {t0 t1 : Value} {w : World} {K : KV} (h : lbts_Member_later t0 t1 w K) : Cl prog 42 #[t0, t1] w K :=
  Cl.mk (by kernel_rfl) (calls_of_F (fn := fn42) (nt := 11) (rs := [4]) mixed fnAt42 (by kernel_rfl) (by kernel_rfl) (by kernel_rfl) (Nat.le_of_ble_eq_true (by kernel_rfl)) lbts_Member_later_ok (lbts_Member_later_eq t0 t1 w K) h)

/-- paceline/lbts.Outputs$1 -/
def lbts_Outputs_1 (t0 t1 t2 : Value) (w : World) (K : KV) : Prop :=
  ld1 t0 w fun t6 w =>
  lnS t6 w fun t7 w =>
  lp [(Value.int IntKind.i64 (-1)), (Value.int IntKind.i64 0)] w (b2 fun t4 t8 w g1 =>
  bi .lss .i64 t8 t7 w fun t9 w =>
  iff' t9
  (J1 (fun t4_1 w =>
  bi .add .i64 t8 (Value.int IntKind.i64 1) w fun t31 w =>
  g1 [t4_1, t31] w) fun k2 =>
  dr w fun w =>
  ld1 t1 w fun t11 _ =>
  ixS 1 t11 t8 w fun t13 _ =>
  ld1 t13 w fun t14 _ =>
  gd t14 true (fun k => k t4 w) w fun t16 _ =>
  gd t14 true (fun k => bi .lss .i64 t16 (Value.int IntKind.i64 0) w k) w fun t17 _ =>
  gd t14 true (fun k => k t17 w) w fun t18 _ =>
  gd t18 false (fun k => ld1 t2 w k) w fun t19 _ =>
  gd t18 false (fun k => k t8 w) w fun t20 _ =>
  gd t18 false (fun k => ixS 1 t19 t20 w k) w fun t21 _ =>
  gd t18 false (fun k => ld1 t21 w k) w fun t22 _ =>
  gd t18 false (fun k => ld1 t2 w k) w fun t23 _ =>
  gd t18 false (fun k => k t4 w) w fun t24 _ =>
  gd t18 false (fun k => ixS 1 t23 t24 w k) w fun t25 _ =>
  gd t18 false (fun k => ld1 t25 w k) w fun t26 _ =>
  gd t18 false (fun k => bi .lss .i64 t22 t26 w k) w fun t27 _ =>
  gd t14 true (fun k => pk t18 (Value.bool true) t27 w k) w fun t28 _ =>
  pk t14 t28 (Value.bool false) w fun t29 _ =>
  iff' t29
  (k2 t8 w)
  (k2 t4 w))
  (K t4 w))
theorem lbts_Outputs_1_eq (t0 t1 t2 : Value) (w : World) (K : KV) : lbts_Outputs_1 t0 t1 t2 w K = fnW prog 33 [3] (match fn43.body with | some c => c | none => .skip) #[t0, t1, t2] w K := by kernel_rfl
theorem lbts_Outputs_1_ok : fnOk prog 33 [3] (match fn43.body with | some c => c | none => .skip) = true := by kernel_rfl
theorem lbts_Outputs_1_calls {t0 t1 t2 : Value} {w : World} {K : KV} (h : lbts_Outputs_1 t0 t1 t2 w K) : Cl prog 43 #[t0, t1, t2] w K :=
  Cl.mk (by kernel_rfl) (calls_of_F (fn := fn43) (nt := 33) (rs := [3]) mixed fnAt43 (by kernel_rfl) (by kernel_rfl) (by kernel_rfl) (Nat.le_of_ble_eq_true (by kernel_rfl)) lbts_Outputs_1_ok (lbts_Outputs_1_eq t0 t1 t2 w K) h)

/-- paceline/lbts.clamp -/
def lbts_clamp (t0 : Value) (w : World) (K : KV) : Prop :=
  Cl prog 22 #[t0, (Value.int IntKind.i64 0)] w fun t4 w =>
  K t4 w
theorem lbts_clamp_eq (t0 : Value) (w : World) (K : KV) : lbts_clamp t0 w K = fnW prog 5 [2] (match fn44.body with | some c => c | none => .skip) #[t0] w K := by kernel_rfl
theorem lbts_clamp_ok : fnOk prog 5 [2] (match fn44.body with | some c => c | none => .skip) = true := by kernel_rfl
theorem lbts_clamp_calls {t0 : Value} {w : World} {K : KV} (h : lbts_clamp t0 w K) : Cl prog 44 #[t0] w K :=
  Cl.mk (by kernel_rfl) (calls_of_F (fn := fn44) (nt := 5) (rs := [2]) mixed fnAt44 (by kernel_rfl) (by kernel_rfl) (by kernel_rfl) (Nat.le_of_ble_eq_true (by kernel_rfl)) lbts_clamp_ok (lbts_clamp_eq t0 w K) h)

/-- (*paceline/prio.Queue).First -/
def prio_Queue_First (t0 : Value) (w : World) (K : KV) : Prop :=
  al (zeroD prog 42) 42 w fun t2 w =>
  ncP t0 <|
  fld 1 t0 w fun t6 w =>
  ld1 t6 w fun t7 w =>
  lnS t7 w fun t8 w =>
  bi .eql .i64 t8 (Value.int IntKind.i64 0) w fun t9 w =>
  iff' t9
  (bld (zeroD prog 42) #[(0, 3), (3, 1), (4, 1), (5, 1)] [] w fun t10 w =>
  stN 6 t2 t10 w fun _ w =>
  ldN 6 t2 w fun r0 _ =>
  K (Value.tuple #[r0, (Value.bool false)]) w)
  (ncP t0 <|
  fld 1 t0 w fun t13 w =>
  ld1 t13 w fun t14 w =>
  ixS 6 t14 (Value.int IntKind.i64 0) w fun t15 w =>
  ldN 6 t15 w fun t16 w =>
  stN 6 t2 t16 w fun _ w =>
  ldN 6 t2 w fun r0 _ =>
  K (Value.tuple #[r0, (Value.bool true)]) w)
theorem prio_Queue_First_eq (t0 : Value) (w : World) (K : KV) : prio_Queue_First t0 w K = fnWC prog 17 [(2, some 42), (3, none)] (match fn45.body with | some c => c | none => .skip) #[t0] w K := by kernel_rfl
theorem prio_Queue_First_ok : fnOkC prog 17 [(2, some 42), (3, none)] (match fn45.body with | some c => c | none => .skip) = true := by kernel_rfl
theorem prio_Queue_First_calls {t0 : Value} {w : World} {K : KV} (h : prio_Queue_First t0 w K) : Cl prog 45 #[t0] w K :=
  Cl.mk (by kernel_rfl) (calls_of_FC (fn := fn45) (nt := 17) (rs := [(2, some 42), (3, none)]) mixed fnAt45 (by kernel_rfl) (by kernel_rfl) (by kernel_rfl) (Nat.le_of_ble_eq_true (by kernel_rfl)) prio_Queue_First_ok (prio_Queue_First_eq t0 w K) h)

/-- container/heap.Push -/
def heap_Push (t0 t1 : Value) (w : World) (K : KV) : Prop :=
  clI prog t0 "Push" #[t1] w fun _ w =>
  clI prog t0 "Len" #[] w fun t9 w =>
  bi .sub .i64 t9 (Value.int IntKind.i64 1) w fun t10 w =>
  Cl prog 62 #[t0, t10] w fun _ w =>
  K (Value.tuple #[]) w
theorem heap_Push_eq (t0 t1 : Value) (w : World) (K : KV) : heap_Push t0 t1 w K = fnW prog 12 [] (match fn46.body with | some c => c | none => .skip) #[t0, t1] w K := by kernel_rfl
theorem heap_Push_ok : fnOk prog 12 [] (match fn46.body with | some c => c | none => .skip) = true := by kernel_rfl
theorem heap_Push_calls {t0 t1 : Value} {w : World} {K : KV} (h : heap_Push t0 t1 w K) : Cl prog 46 #[t0, t1] w K :=
  Cl.mk (by kernel_rfl) (calls_of_F (fn := fn46) (nt := 12) (rs := []) mixed fnAt46 (by kernel_rfl) (by kernel_rfl) (by kernel_rfl) (Nat.le_of_ble_eq_true (by kernel_rfl)) heap_Push_ok (heap_Push_eq t0 t1 w K) h)

/-- slices.Clone[[]paceline/api.Msg,paceline/api.Msg] -/
def slices_Clone_api_Msg_api_Msg (t0 : Value) (w : World) (K : KV) : Prop :=
  bO prog .eql 34 (Operand.tmp 3) (Operand.const (Value.slice none 0 0)) t0 (Value.slice none 0 0) w fun t4 w =>
  iff' t4
  (K (Value.slice none 0 0) w)
  (bsl 42 6 0 #[] [] w fun t5 w =>
  apS prog #[34, 34] 34 t5 t0 w fun t7 w =>
  K t7 w)
theorem slices_Clone_api_Msg_api_Msg_eq (t0 : Value) (w : World) (K : KV) : slices_Clone_api_Msg_api_Msg t0 w K = fnW prog 8 [2] (match fn47.body with | some c => c | none => .skip) #[t0] w K := by kernel_rfl
theorem slices_Clone_api_Msg_api_Msg_ok : fnOk prog 8 [2] (match fn47.body with | some c => c | none => .skip) = true := by kernel_rfl
theorem slices_Clone_api_Msg_api_Msg_calls {t0 : Value} {w : World} {K : KV} (h : slices_Clone_api_Msg_api_Msg t0 w K) : Cl prog 47 #[t0] w K :=
  Cl.mk (by kernel_rfl) (calls_of_F (fn := fn47) (nt := 8) (rs := [2]) mixed fnAt47 (by kernel_rfl) (by kernel_rfl) (by kernel_rfl) (Nat.le_of_ble_eq_true (by kernel_rfl)) slices_Clone_api_Msg_api_Msg_ok (slices_Clone_api_Msg_api_Msg_eq t0 w K) h)

/-- slices.SortFunc[[]paceline/api.Msg,paceline/api.Msg] -/
def slices_SortFunc_api_Msg_api_Msg (t0 t1 : Value) (w : World) (K : KV) : Prop :=
  lnS t0 w fun t6 w =>
  cvI .u64 t6 w fun t10 w =>
  Cl prog 64 #[t10] w fun t11 w =>
  Cl prog 63 #[t0, (Value.int IntKind.i64 0), t6, t11, t1] w fun _ w =>
  K (Value.tuple #[]) w
theorem slices_SortFunc_api_Msg_api_Msg_eq (t0 t1 : Value) (w : World) (K : KV) : slices_SortFunc_api_Msg_api_Msg t0 t1 w K = fnW prog 14 [] (match fn48.body with | some c => c | none => .skip) #[t0, t1] w K := by kernel_rfl
theorem slices_SortFunc_api_Msg_api_Msg_ok : fnOk prog 14 [] (match fn48.body with | some c => c | none => .skip) = true := by kernel_rfl
theorem slices_SortFunc_api_Msg_api_Msg_calls {t0 t1 : Value} {w : World} {K : KV} (h : slices_SortFunc_api_Msg_api_Msg t0 t1 w K) : Cl prog 48 #[t0, t1] w K :=
  Cl.mk (by kernel_rfl) (calls_of_F (fn := fn48) (nt := 14) (rs := []) mixed fnAt48 (by kernel_rfl) (by kernel_rfl) (by kernel_rfl) (Nat.le_of_ble_eq_true (by kernel_rfl)) slices_SortFunc_api_Msg_api_Msg_ok (slices_SortFunc_api_Msg_api_Msg_eq t0 t1 w K) h)

/-- (*paceline/prio.Queue).List$1 -/
def prio_Queue_List_1 (t0 t1 : Value) (w : World) (K : KV) : Prop :=
  al (Value.cells t0) 42 w fun t2 w =>
  al (Value.cells t1) 42 w fun t3 w =>
  fld 0 t2 w fun t5 w =>
  ldN 3 t5 w fun t6 w =>
  fld 0 t3 w fun t7 w =>
  ldN 3 t7 w fun t8 w =>
  Cl prog 50 #[t6, t8] w fun t9 w =>
  K t9 w
theorem prio_Queue_List_1_eq (t0 t1 : Value) (w : World) (K : KV) : prio_Queue_List_1 t0 t1 w K = fnW prog 10 [4] (match fn49.body with | some c => c | none => .skip) #[t0, t1] w K := by kernel_rfl
theorem prio_Queue_List_1_ok : fnOk prog 10 [4] (match fn49.body with | some c => c | none => .skip) = true := by kernel_rfl
theorem prio_Queue_List_1_calls {t0 t1 : Value} {w : World} {K : KV} (h : prio_Queue_List_1 t0 t1 w K) : Cl prog 49 #[t0, t1] w K :=
  Cl.mk (by kernel_rfl) (calls_of_F (fn := fn49) (nt := 10) (rs := [4]) mixed fnAt49 (by kernel_rfl) (by kernel_rfl) (by kernel_rfl) (Nat.le_of_ble_eq_true (by kernel_rfl)) prio_Queue_List_1_ok (prio_Queue_List_1_eq t0 t1 w K) h)

/-- paceline/vtime.Cmp -/
def vtime_Cmp (t0 t1 : Value) (w : World) (K : KV) : Prop :=
  al (Value.cells t0) 40 w fun t2 w =>
  al (Value.cells t1) 40 w fun t3 w =>
  dr w fun w =>
  fld 0 t2 w fun t5 _ =>
  ld1 t5 w fun t6 _ =>
  fld 0 t3 w fun t7 _ =>
  ld1 t7 w fun t8 _ =>
  fld 1 t2 w fun t10 _ =>
  ld1 t10 w fun t11 _ =>
  fld 1 t3 w fun t12 _ =>
  ld1 t12 w fun t13 _ =>
  fld 2 t2 w fun t15 _ =>
  ld1 t15 w fun t16 _ =>
  fld 2 t3 w fun t17 _ =>
  ld1 t17 w fun t18 _ =>
  Cl prog 66 #[t6, t8] w fun t9 w =>
  (ld1 t17 w (fun v' w'' => v' = t18 ∧ w'' = w)) ∧ ((ld1 t15 w (fun v' w'' => v' = t16 ∧ w'' = w)) ∧ ((ld1 t12 w (fun v' w'' => v' = t13 ∧ w'' = w)) ∧ ((ld1 t10 w (fun v' w'' => v' = t11 ∧ w'' = w)) ∧ (Cl prog 66 #[t11, t13] w fun t14 w =>
  (ld1 t17 w (fun v' w'' => v' = t18 ∧ w'' = w)) ∧ ((ld1 t15 w (fun v' w'' => v' = t16 ∧ w'' = w)) ∧ (Cl prog 66 #[t16, t18] w fun t19 w =>
  bsl 3 1 3 (zeroD prog 3) [(0, t9), (1, t14), (2, t19)] w fun t20 w =>
  Cl prog 65 #[t20] w fun t21 w =>
  K t21 w))))))
theorem vtime_Cmp_eq (t0 t1 : Value) (w : World) (K : KV) : vtime_Cmp t0 t1 w K = fnW prog 22 [4] (match fn50.body with | some c => c | none => .skip) #[t0, t1] w K := by kernel_rfl
theorem vtime_Cmp_ok : fnOk prog 22 [4] (match fn50.body with | some c => c | none => .skip) = true := by kernel_rfl
theorem vtime_Cmp_calls {t0 t1 : Value} {w : World} {K : KV} (h : vtime_Cmp t0 t1 w K) : Cl prog 50 #[t0, t1] w K :=
  Cl.mk (by kernel_rfl) (calls_of_F (fn := fn50) (nt := 22) (rs := [4]) mixed fnAt50 (by kernel_rfl) (by kernel_rfl) (by kernel_rfl) (Nat.le_of_ble_eq_true (by kernel_rfl)) vtime_Cmp_ok (vtime_Cmp_eq t0 t1 w K) h)

/-- paceline/grant.upTo -/
def grant_upTo (t0 t1 : Value) (w : World) (K : KV) : Prop :=
  al (Value.cells t0) 23 w fun t2 w =>
  al (Value.cells t1) 3 w fun t3 w =>
  ld1 t2 w fun t5 w =>
  lnS t5 w fun t6 w =>
  Cl prog 67 #[t6, (Value.func (Fn.func 68) #[] #[t2, t3])] w fun t8 w =>
  K t8 w
theorem grant_upTo_eq (t0 t1 : Value) (w : World) (K : KV) : grant_upTo t0 t1 w K = fnW prog 9 [4] (match fn51.body with | some c => c | none => .skip) #[t0, t1] w K := by kernel_rfl
theorem grant_upTo_ok : fnOk prog 9 [4] (match fn51.body with | some c => c | none => .skip) = true := by kernel_rfl
theorem grant_upTo_calls {t0 t1 : Value} {w : World} {K : KV} (h : grant_upTo t0 t1 w K) : Cl prog 51 #[t0, t1] w K :=
  Cl.mk (by kernel_rfl) (calls_of_F (fn := fn51) (nt := 9) (rs := [4]) mixed fnAt51 (by kernel_rfl) (by kernel_rfl) (by kernel_rfl) (Nat.le_of_ble_eq_true (by kernel_rfl)) grant_upTo_ok (grant_upTo_eq t0 t1 w K) h)

/-- paceline/grant.next -/
def grant_next (t0 t1 t2 t3 : Value) (w : World) (K : KV) : Prop :=
  lnS t3 w fun t15 w =>
  bi .gtr .i64 t15 (Value.int IntKind.i64 0) w fun t16 w =>
  gd t16 true (fun k => k t3 w) w fun t18 w =>
  gd t16 true (fun k => ixS 1 t18 (Value.int IntKind.i64 0) w k) w fun t19 w =>
  gd t16 true (fun k => ld1 t19 w k) w fun t20 w =>
  gd t16 true (fun k => k t0 w) w fun t21 w =>
  gd t16 true (fun k => bi .leq .i64 t20 t21 w k) w fun t22 w =>
  pk t16 t22 (Value.bool false) w fun t23 w =>
  J2 (fun t11 t12 w =>
  bi .leq .i64 t2 t11 w fun t35 w =>
  iff' t35
  (K (Value.tuple #[(Value.bool false), (Value.int IntKind.i64 0), (Value.int IntKind.i64 0)]) w)
  (bi .gtr .i64 t12 (Value.int IntKind.i64 0) w fun t38 w =>
  iff' t38
  (mxI .i64 t1 t11 w fun t41 w =>
  K (Value.tuple #[(Value.bool true), t41, t12]) w)
  (K (Value.tuple #[(Value.bool true), t11, (Value.int IntKind.i64 0)]) w))) fun k1 =>
  iff' t23
  (dr w fun w =>
  ixS 1 t3 (Value.int IntKind.i64 0) w fun t25 _ =>
  ld1 t25 w fun t26 _ =>
  ixS 1 t3 (Value.int IntKind.i64 0) w fun t29 _ =>
  ld1 t29 w fun t30 _ =>
  Cl prog 51 #[t3, t30] w fun t31 w =>
  (ld1 t25 w (fun v' w'' => v' = t26 ∧ w'' = w)) ∧ (k1 t26 t31 w))
  (k1 t0 (Value.int IntKind.i64 0) w)
theorem grant_next_eq (t0 t1 t2 t3 : Value) (w : World) (K : KV) : grant_next t0 t1 t2 t3 w K = fnW prog 44 [8, 9, 10] (match fn52.body with | some c => c | none => .skip) #[t0, t1, t2, t3] w K := by kernel_rfl
theorem grant_next_ok : fnOk prog 44 [8, 9, 10] (match fn52.body with | some c => c | none => .skip) = true := by kernel_rfl
theorem grant_next_calls {t0 t1 t2 t3 : Value} {w : World} {K : KV} (h : grant_next t0 t1 t2 t3 w K) : Cl prog 52 #[t0, t1, t2, t3] w K :=
  Cl.mk (by kernel_rfl) (calls_of_F (fn := fn52) (nt := 44) (rs := [8, 9, 10]) mixed fnAt52 (by kernel_rfl) (by kernel_rfl) (by kernel_rfl) (Nat.le_of_ble_eq_true (by kernel_rfl)) grant_next_ok (grant_next_eq t0 t1 t2 t3 w K) h)

/-- container/heap.Pop -/
def heap_Pop (t0 : Value) (w : World) (K : KV) : Prop :=
  clI prog t0 "Len" #[] w fun t5 w =>
  bi .sub .i64 t5 (Value.int IntKind.i64 1) w fun t6 w =>
  clI prog t0 "Swap" #[(Value.int IntKind.i64 0), t6] w fun _ w =>
  Cl prog 69 #[t0, (Value.int IntKind.i64 0), t6] w fun _ w =>
  clI prog t0 "Pop" #[] w fun t14 w =>
  K t14 w
theorem heap_Pop_eq (t0 : Value) (w : World) (K : KV) : heap_Pop t0 w K = fnW prog 15 [2] (match fn53.body with | some c => c | none => .skip) #[t0] w K := by kernel_rfl
theorem heap_Pop_ok : fnOk prog 15 [2] (match fn53.body with | some c => c | none => .skip) = true := by kernel_rfl
theorem heap_Pop_calls {t0 : Value} {w : World} {K : KV} (h : heap_Pop t0 w K) : Cl prog 53 #[t0] w K :=
  Cl.mk (by kernel_rfl) (calls_of_F (fn := fn53) (nt := 15) (rs := [2]) mixed fnAt53 (by kernel_rfl) (by kernel_rfl) (by kernel_rfl) (Nat.le_of_ble_eq_true (by kernel_rfl)) heap_Pop_ok (heap_Pop_eq t0 w K) h)

end Go.Proofs.YtmgaooeeddmbmaaGreatDoor
