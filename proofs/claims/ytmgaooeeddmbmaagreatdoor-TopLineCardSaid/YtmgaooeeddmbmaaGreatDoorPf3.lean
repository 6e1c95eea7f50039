/- Printed by prt.py: the Go functions of this seat as shallow predicate transformers. Conditions: none. -/
import Derived.Test.YtmgaooeeddmbmaaGreatDoorEngO
import Derived.Test.YtmgaooeeddmbmaaGreatDoorPfHead
import Derived.KernelRfl
namespace Go.Proofs.YtmgaooeeddmbmaaGreatDoor
open Go Go.E
set_option linter.unusedVariables false
set_option maxRecDepth 100000
/-- paceline/pubsub.turn$1 -/
def pubsub_turn_1 (t0 t1 : Value) (w : World) (K : KV) : Prop :=
  ncP t0 <|
  ld1 t0 w fun t6 w =>
  cvI .u64 t1 w fun t8 w =>
  bO prog .shl 50 (Operand.const (Value.int IntKind.u32 1)) (Operand.tmp 8) (Value.int IntKind.u32 1) t8 w fun t9 w =>
  bO prog .or 50 (Operand.tmp 6) (Operand.tmp 9) t6 t9 w fun t10 w =>
  ncP t0 <|
  stN 1 t0 t10 w fun _ w =>
  K (Value.tuple #[]) w
theorem pubsub_turn_1_eq (t0 t1 : Value) (w : World) (K : KV) : pubsub_turn_1 t0 t1 w K = fnW prog 12 [] (match fn60.body with | some c => c | none => .skip) #[t0, t1] w K := by kernel_rfl
theorem pubsub_turn_1_ok : fnOk prog 12 [] (match fn60.body with | some c => c | none => .skip) = true := by kernel_rfl
theorem pubsub_turn_1_calls {t0 t1 : Value} {w : World} {K : KV} (h : pubsub_turn_1 t0 t1 w K) : Cl prog 60 #[t0, t1] w K :=
  Cl.mk (by kernel_rfl) (calls_of_F (fn := fn60) (nt := 12) (rs := []) mixed fnAt60 (by kernel_rfl) (by kernel_rfl) (by kernel_rfl) (Nat.le_of_ble_eq_true (by kernel_rfl)) pubsub_turn_1_ok (pubsub_turn_1_eq t0 t1 w K) h)

/-- paceline/pubsub.turn$2 -/
def pubsub_turn_2 (t0 t1 : Value) (w : World) (K : KV) : Prop :=
  ncP t0 <|
  ld1 t0 w fun t6 w =>
  cvI .u64 t1 w fun t8 w =>
  bO prog .shl 50 (Operand.const (Value.int IntKind.u32 1)) (Operand.tmp 8) (Value.int IntKind.u32 1) t8 w fun t9 w =>
  bO prog .andNot 50 (Operand.tmp 6) (Operand.tmp 9) t6 t9 w fun t10 w =>
  ncP t0 <|
  stN 1 t0 t10 w fun _ w =>
  K (Value.tuple #[]) w
theorem pubsub_turn_2_eq (t0 t1 : Value) (w : World) (K : KV) : pubsub_turn_2 t0 t1 w K = fnW prog 12 [] (match fn61.body with | some c => c | none => .skip) #[t0, t1] w K := by kernel_rfl
theorem pubsub_turn_2_ok : fnOk prog 12 [] (match fn61.body with | some c => c | none => .skip) = true := by kernel_rfl
theorem pubsub_turn_2_calls {t0 t1 : Value} {w : World} {K : KV} (h : pubsub_turn_2 t0 t1 w K) : Cl prog 61 #[t0, t1] w K :=
  Cl.mk (by kernel_rfl) (calls_of_F (fn := fn61) (nt := 12) (rs := []) mixed fnAt61 (by kernel_rfl) (by kernel_rfl) (by kernel_rfl) (Nat.le_of_ble_eq_true (by kernel_rfl)) pubsub_turn_2_ok (pubsub_turn_2_eq t0 t1 w K) h)

/-- container/heap.up -/
def heap_up (t0 t1 : Value) (w : World) (K : KV) : Prop :=
  lp [t1] w (b1 fun t1_1 w g1 =>
  bi .sub .i64 t1_1 (Value.int IntKind.i64 1) w fun t6 w =>
  bi .quo .i64 t6 (Value.int IntKind.i64 2) w fun t7 w =>
  bi .eql .i64 t7 t1_1 w fun t10 w =>
  gd t10 false (fun k => k t0 w) w fun t12 w =>
  gd t10 false (fun k => k t1_1 w) w fun t13 w =>
  gd t10 false (fun k => k t7 w) w fun t14 w =>
  gd t10 false (fun k => clI prog t12 "Less" #[t13, t14] w k) w fun t15 w =>
  gd t10 false (fun k => bnot t15 w k) w fun t16 w =>
  pk t10 (Value.bool true) t16 w fun t17 w =>
  iff' t17
  (K (Value.tuple #[]) w)
  (clI prog t0 "Swap" #[t7, t1_1] w fun _ w =>
  g1 [t7] w))
theorem heap_up_eq (t0 t1 : Value) (w : World) (K : KV) : heap_up t0 t1 w K = fnW prog 23 [] (match fn62.body with | some c => c | none => .skip) #[t0, t1] w K := by kernel_rfl
theorem heap_up_ok : fnOk prog 23 [] (match fn62.body with | some c => c | none => .skip) = true := by kernel_rfl
theorem heap_up_calls {t0 t1 : Value} {w : World} {K : KV} (h : heap_up t0 t1 w K) : Cl prog 62 #[t0, t1] w K :=
  Cl.mk (by kernel_rfl) (calls_of_F (fn := fn62) (nt := 23) (rs := []) mixed fnAt62 (by kernel_rfl) (by kernel_rfl) (by kernel_rfl) (Nat.le_of_ble_eq_true (by kernel_rfl)) heap_up_ok (heap_up_eq t0 t1 w K) h)

/-- slices.pdqsortCmpFunc[paceline/api.Msg] -/
def slices_pdqsortCmpFunc_api_Msg (t0 t1 t2 t3 t4 : Value) (w : World) (K : KV) : Prop :=
  lp [t1, t2, t3, (Value.bool true), (Value.bool true)] w (b5 fun t1_1 t2_1 t3_1 t10 t11 w g1 =>
  bi .sub .i64 t2_1 t1_1 w fun t23 w =>
  bi .leq .i64 t23 (Value.int IntKind.i64 12) w fun t25 w =>
  iff' t25
  (Cl prog 72 #[t0, t1_1, t2_1, t4] w fun _ w =>
  K (Value.tuple #[]) w)
  (bi .eql .i64 t3_1 (Value.int IntKind.i64 0) w fun t32 w =>
  iff' t32
  (Cl prog 73 #[t0, t1_1, t2_1, t4] w fun _ w =>
  K (Value.tuple #[]) w)
  (bnot t10 w fun t39 w =>
  J1 (fun t3_2 w =>
  Cl prog 75 #[t0, t1_1, t2_1, t4] w fun t52 w =>
  xt 0 t52 w fun t53 w =>
  xt 1 t52 w fun t54 w =>
  bi .eql .i64 t54 (Value.int IntKind.i64 2) w fun t56 w =>
  J2 (fun t13 t14 w =>
  gd t10 true (fun k => k t11 w) w fun t70 w =>
  pk t10 t70 (Value.bool false) w fun t71 w =>
  gd t71 true (fun k => k t14 w) w fun t73 w =>
  gd t71 true (fun k => bi .eql .i64 t73 (Value.int IntKind.i64 1) w k) w fun t74 w =>
  pk t71 t74 (Value.bool false) w fun t75 w =>
  J0 (fun w =>
  dr w fun w =>
  bi .gtr .i64 t1_1 (Value.int IntKind.i64 0) w fun t82 _ =>
  gd t82 true (fun k => k t4 w) w fun t84 _ =>
  gd t82 true (fun k => k t0 w) w fun t85 _ =>
  gd t82 true (fun k => k t1_1 w) w fun t86 _ =>
  gd t82 true (fun k => bi .sub .i64 t86 (Value.int IntKind.i64 1) w k) w fun t87 _ =>
  gd t82 true (fun k => ixS 6 t85 t87 w k) w fun t88 _ =>
  gd t82 true (fun k => ldN 6 t88 w k) w fun t89 _ =>
  gd t82 true (fun k => k t0 w) w fun t90 _ =>
  gd t82 true (fun k => k t13 w) w fun t91 _ =>
  gd t82 true (fun k => ixS 6 t90 t91 w k) w fun t92 _ =>
  gd t82 true (fun k => ldN 6 t92 w k) w fun t93 _ =>
  gd t82 true (fun k => clV prog t84 #[t89, t93] w k) w fun t94 w =>
  gd t82 true (fun k => bi .lss .i64 t94 (Value.int IntKind.i64 0) w k) w fun t95 _ =>
  gd t82 true (fun k => bnot t95 w k) w fun t96 _ =>
  pk t82 t96 (Value.bool false) w fun t97 _ =>
  iff' t97
  (Cl prog 78 #[t0, t1_1, t2_1, t13, t4] w fun t103 w =>
  g1 [t103, t2_1, t3_2, t10, t11] w)
  (Cl prog 79 #[t0, t1_1, t2_1, t13, t4] w fun t111 w =>
  xt 0 t111 w fun t112 w =>
  xt 1 t111 w fun t113 w =>
  bi .sub .i64 t112 t1_1 w fun t117 w =>
  bi .sub .i64 t2_1 t112 w fun t120 w =>
  bi .quo .i64 t23 (Value.int IntKind.i64 8) w fun t122 w =>
  bi .lss .i64 t117 t120 w fun t125 w =>
  iff' t125
  (bi .geq .i64 t117 t122 w fun t128 w =>
  Cl prog 63 #[t0, t1_1, t112, t3_2, t4] w fun _ w =>
  bi .add .i64 t112 (Value.int IntKind.i64 1) w fun t136 w =>
  g1 [t136, t2_1, t3_2, t128, t113] w)
  (bi .geq .i64 t120 t122 w fun t139 w =>
  bi .add .i64 t112 (Value.int IntKind.i64 1) w fun t142 w =>
  Cl prog 63 #[t0, t142, t2_1, t3_2, t4] w fun _ w =>
  g1 [t1_1, t112, t3_2, t139, t113] w))) fun k4 =>
  iff' t75
  (Cl prog 77 #[t0, t1_1, t2_1, t4] w fun t80 w =>
  iff' t80
  (K (Value.tuple #[]) w)
  (k4 w))
  (k4 w)) fun k3 =>
  iff' t56
  (Cl prog 76 #[t0, t1_1, t2_1, t4] w fun _ w =>
  bi .sub .i64 t2_1 (Value.int IntKind.i64 1) w fun t63 w =>
  bi .sub .i64 t53 t1_1 w fun t66 w =>
  bi .sub .i64 t63 t66 w fun t67 w =>
  k3 t67 (Value.int IntKind.i64 1) w)
  (k3 t53 t54 w)) fun k2 =>
  iff' t39
  (Cl prog 74 #[t0, t1_1, t2_1, t4] w fun _ w =>
  bi .sub .i64 t3_1 (Value.int IntKind.i64 1) w fun t46 w =>
  k2 t46 w)
  (k2 t3_1 w))))
theorem slices_pdqsortCmpFunc_api_Msg_eq (t0 t1 t2 t3 t4 : Value) (w : World) (K : KV) : slices_pdqsortCmpFunc_api_Msg t0 t1 t2 t3 t4 w K = fnW prog 148 [] (match fn63.body with | some c => c | none => .skip) #[t0, t1, t2, t3, t4] w K := by kernel_rfl
theorem slices_pdqsortCmpFunc_api_Msg_ok : fnOk prog 148 [] (match fn63.body with | some c => c | none => .skip) = true := by kernel_rfl
theorem slices_pdqsortCmpFunc_api_Msg_calls {t0 t1 t2 t3 t4 : Value} {w : World} {K : KV} (h : slices_pdqsortCmpFunc_api_Msg t0 t1 t2 t3 t4 w K) : Cl prog 63 #[t0, t1, t2, t3, t4] w K :=
  Cl.mk (by kernel_rfl) (calls_of_F (fn := fn63) (nt := 148) (rs := []) mixed fnAt63 (by kernel_rfl) (by kernel_rfl) (by kernel_rfl) (Nat.le_of_ble_eq_true (by kernel_rfl)) slices_pdqsortCmpFunc_api_Msg_ok (slices_pdqsortCmpFunc_api_Msg_eq t0 t1 t2 t3 t4 w K) h)

/-- math/bits.Len -/
def math_bits_Len (t0 : Value) (w : World) (K : KV) : Prop :=
  iff' (Value.bool false)
  (cvI .u32 t0 w fun t4 w =>
  Cl prog 80 #[t4] w fun t5 w =>
  K t5 w)
  (Cl prog 81 #[t0] w fun t7 w =>
  K t7 w)
theorem math_bits_Len_eq (t0 : Value) (w : World) (K : KV) : math_bits_Len t0 w K = fnW prog 8 [2] (match fn64.body with | some c => c | none => .skip) #[t0] w K := by kernel_rfl
theorem math_bits_Len_ok : fnOk prog 8 [2] (match fn64.body with | some c => c | none => .skip) = true := by kernel_rfl
theorem math_bits_Len_calls {t0 : Value} {w : World} {K : KV} (h : math_bits_Len t0 w K) : Cl prog 64 #[t0] w K :=
  Cl.mk (by kernel_rfl) (calls_of_F (fn := fn64) (nt := 8) (rs := [2]) mixed fnAt64 (by kernel_rfl) (by kernel_rfl) (by kernel_rfl) (Nat.le_of_ble_eq_true (by kernel_rfl)) math_bits_Len_ok (math_bits_Len_eq t0 w K) h)

/-- cmp.Or[int] -/
def cmp_Or_int (t0 : Value) (w : World) (K : KV) : Prop :=
  lnS t0 w fun t7 w =>
  lp [(Value.int IntKind.i64 0)] w (b1 fun t8 w g1 =>
  bi .lss .i64 t8 t7 w fun t9 w =>
  iff' t9
  (ixS 1 t0 t8 w fun t10 w =>
  ld1 t10 w fun t11 w =>
  bi .neq .i64 t11 (Value.int IntKind.i64 0) w fun t14 w =>
  iff' t14
  (K t11 w)
  (bi .add .i64 t8 (Value.int IntKind.i64 1) w fun t16 w =>
  g1 [t16] w))
  (K (Value.int IntKind.i64 0) w))
theorem cmp_Or_int_eq (t0 : Value) (w : World) (K : KV) : cmp_Or_int t0 w K = fnW prog 18 [2] (match fn65.body with | some c => c | none => .skip) #[t0] w K := by kernel_rfl
theorem cmp_Or_int_ok : fnOk prog 18 [2] (match fn65.body with | some c => c | none => .skip) = true := by kernel_rfl
theorem cmp_Or_int_calls {t0 : Value} {w : World} {K : KV} (h : cmp_Or_int t0 w K) : Cl prog 65 #[t0] w K :=
  Cl.mk (by kernel_rfl) (calls_of_F (fn := fn65) (nt := 18) (rs := [2]) mixed fnAt65 (by kernel_rfl) (by kernel_rfl) (by kernel_rfl) (Nat.le_of_ble_eq_true (by kernel_rfl)) cmp_Or_int_ok (cmp_Or_int_eq t0 w K) h)

/-- cmp.Compare[int] -/
def cmp_Compare_int (t0 t1 : Value) (w : World) (K : KV) : Prop :=
  Cl prog 82 #[t0] w fun t8 w =>
  Cl prog 82 #[t1] w fun t10 w =>
  iff' t8
  (iff' t10
  (K (Value.int IntKind.i64 0) w)
  (K (Value.int IntKind.i64 (-1)) w))
  (iff' t10
  (K (Value.int IntKind.i64 1) w)
  (bi .lss .i64 t0 t1 w fun t16 w =>
  iff' t16
  (K (Value.int IntKind.i64 (-1)) w)
  (bi .gtr .i64 t0 t1 w fun t19 w =>
  iff' t19
  (K (Value.int IntKind.i64 1) w)
  (K (Value.int IntKind.i64 0) w))))
theorem cmp_Compare_int_eq (t0 t1 : Value) (w : World) (K : KV) : cmp_Compare_int t0 t1 w K = fnW prog 20 [4] (match fn66.body with | some c => c | none => .skip) #[t0, t1] w K := by kernel_rfl
theorem cmp_Compare_int_ok : fnOk prog 20 [4] (match fn66.body with | some c => c | none => .skip) = true := by kernel_rfl
theorem cmp_Compare_int_calls {t0 t1 : Value} {w : World} {K : KV} (h : cmp_Compare_int t0 t1 w K) : Cl prog 66 #[t0, t1] w K :=
  Cl.mk (by kernel_rfl) (calls_of_F (fn := fn66) (nt := 20) (rs := [4]) mixed fnAt66 (by kernel_rfl) (by kernel_rfl) (by kernel_rfl) (Nat.le_of_ble_eq_true (by kernel_rfl)) cmp_Compare_int_ok (cmp_Compare_int_eq t0 t1 w K) h)

/-- sort.Search -/
def sort_Search (t0 t1 : Value) (w : World) (K : KV) : Prop :=
  lp [(Value.int IntKind.i64 0), t0] w (b2 fun t5 t6 w g1 =>
  bi .lss .i64 t5 t6 w fun t11 w =>
  iff' t11
  (bi .add .i64 t5 t6 w fun t14 w =>
  cvI .u64 t14 w fun t15 w =>
  bO prog .shr 83 (Operand.tmp 15) (Operand.const (Value.int IntKind.u64 1)) t15 (Value.int IntKind.u64 1) w fun t16 w =>
  cvI .i64 t16 w fun t17 w =>
  clV prog t1 #[t17] w fun t20 w =>
  bnot t20 w fun t21 w =>
  iff' t21
  (bi .add .i64 t17 (Value.int IntKind.i64 1) w fun t23 w =>
  g1 [t23, t6] w)
  (g1 [t5, t17] w))
  (K t5 w))
theorem sort_Search_eq (t0 t1 : Value) (w : World) (K : KV) : sort_Search t0 t1 w K = fnW prog 26 [4] (match fn67.body with | some c => c | none => .skip) #[t0, t1] w K := by kernel_rfl
theorem sort_Search_ok : fnOk prog 26 [4] (match fn67.body with | some c => c | none => .skip) = true := by kernel_rfl
theorem sort_Search_calls {t0 t1 : Value} {w : World} {K : KV} (h : sort_Search t0 t1 w K) : Cl prog 67 #[t0, t1] w K :=
  Cl.mk (by kernel_rfl) (calls_of_F (fn := fn67) (nt := 26) (rs := [4]) mixed fnAt67 (by kernel_rfl) (by kernel_rfl) (by kernel_rfl) (Nat.le_of_ble_eq_true (by kernel_rfl)) sort_Search_ok (sort_Search_eq t0 t1 w K) h)

/-- paceline/grant.upTo$1 -/
def grant_upTo_1 (t0 t1 t2 : Value) (w : World) (K : KV) : Prop :=
  dr w fun w =>
  ld1 t1 w fun t5 _ =>
  ixS 1 t5 t0 w fun t7 _ =>
  ld1 t7 w fun t8 _ =>
  ld1 t2 w fun t9 _ =>
  bi .gtr .i64 t8 t9 w fun t10 _ =>
  K t10 w
theorem grant_upTo_1_eq (t0 t1 t2 : Value) (w : World) (K : KV) : grant_upTo_1 t0 t1 t2 w K = fnW prog 11 [4] (match fn68.body with | some c => c | none => .skip) #[t0, t1, t2] w K := by kernel_rfl
theorem grant_upTo_1_ok : fnOk prog 11 [4] (match fn68.body with | some c => c | none => .skip) = true := by kernel_rfl
theorem grant_upTo_1_calls {t0 t1 t2 : Value} {w : World} {K : KV} (h : grant_upTo_1 t0 t1 t2 w K) : Cl prog 68 #[t0, t1, t2] w K :=
  Cl.mk (by kernel_rfl) (calls_of_F (fn := fn68) (nt := 11) (rs := [4]) mixed fnAt68 (by kernel_rfl) (by kernel_rfl) (by kernel_rfl) (Nat.le_of_ble_eq_true (by kernel_rfl)) grant_upTo_1_ok (grant_upTo_1_eq t0 t1 t2 w K) h)

/-- container/heap.down -/
def heap_down (t0 t1 t2 : Value) (w : World) (K : KV) : Prop :=
  J1 (fun t7 w =>
  bi .gtr .i64 t7 t1 w fun t47 w =>
  K t47 w) fun k1 =>
  lp [t1] w (b1 fun t7_1 w g2 =>
  bi .mul .i64 (Value.int IntKind.i64 2) t7_1 w fun t13 w =>
  bi .add .i64 t13 (Value.int IntKind.i64 1) w fun t14 w =>
  bi .geq .i64 t14 t2 w fun t17 w =>
  gd t17 false (fun k => k t14 w) w fun t19 w =>
  gd t17 false (fun k => bi .lss .i64 t19 (Value.int IntKind.i64 0) w k) w fun t20 w =>
  pk t17 (Value.bool true) t20 w fun t21 w =>
  iff' t21
  (k1 t7_1 w)
  (bi .add .i64 t14 (Value.int IntKind.i64 1) w fun t24 w =>
  bi .lss .i64 t24 t2 w fun t27 w =>
  gd t27 true (fun k => k t0 w) w fun t29 w =>
  gd t27 true (fun k => k t24 w) w fun t30 w =>
  gd t27 true (fun k => k t14 w) w fun t31 w =>
  gd t27 true (fun k => clI prog t29 "Less" #[t30, t31] w k) w fun t32 w =>
  pk t27 t32 (Value.bool false) w fun t33 w =>
  J1 (fun t9 w =>
  clI prog t0 "Less" #[t9, t7_1] w fun t38 w =>
  bnot t38 w fun t39 w =>
  iff' t39
  (k1 t7_1 w)
  (clI prog t0 "Swap" #[t7_1, t9] w fun _ w =>
  g2 [t9] w)) fun k3 =>
  iff' t33
  (k3 t24 w)
  (k3 t14 w)))
theorem heap_down_eq (t0 t1 t2 : Value) (w : World) (K : KV) : heap_down t0 t1 t2 w K = fnW prog 48 [6] (match fn69.body with | some c => c | none => .skip) #[t0, t1, t2] w K := by kernel_rfl
theorem heap_down_ok : fnOk prog 48 [6] (match fn69.body with | some c => c | none => .skip) = true := by kernel_rfl
theorem heap_down_calls {t0 t1 t2 : Value} {w : World} {K : KV} (h : heap_down t0 t1 t2 w K) : Cl prog 69 #[t0, t1, t2] w K :=
  Cl.mk (by kernel_rfl) (calls_of_F (fn := fn69) (nt := 48) (rs := [6]) mixed fnAt69 (by kernel_rfl) (by kernel_rfl) (by kernel_rfl) (Nat.le_of_ble_eq_true (by kernel_rfl)) heap_down_ok (heap_down_eq t0 t1 t2 w K) h)

/-- slices.insertionSortCmpFunc[paceline/api.Msg] -/
def slices_insertionSortCmpFunc_api_Msg (t0 t1 t2 t3 : Value) (w : World) (K : KV) : Prop :=
  bi .add .i64 t1 (Value.int IntKind.i64 1) w fun t11 w =>
  lp [t11] w (b1 fun t8 w g1 =>
  bi .lss .i64 t8 t2 w fun t14 w =>
  iff' t14
  (lp [t8] w (b1 fun t9 w g2 =>
  dr w fun w =>
  bi .gtr .i64 t9 t1 w fun t20 _ =>
  gd t20 true (fun k => k t3 w) w fun t22 _ =>
  gd t20 true (fun k => k t0 w) w fun t23 _ =>
  gd t20 true (fun k => k t9 w) w fun t24 _ =>
  gd t20 true (fun k => ixS 6 t23 t24 w k) w fun t25 _ =>
  gd t20 true (fun k => ldN 6 t25 w k) w fun t26 _ =>
  gd t20 true (fun k => k t0 w) w fun t27 _ =>
  gd t20 true (fun k => k t9 w) w fun t28 _ =>
  gd t20 true (fun k => bi .sub .i64 t28 (Value.int IntKind.i64 1) w k) w fun t29 _ =>
  gd t20 true (fun k => ixS 6 t27 t29 w k) w fun t30 _ =>
  gd t20 true (fun k => ldN 6 t30 w k) w fun t31 _ =>
  gd t20 true (fun k => clV prog t22 #[t26, t31] w k) w fun t32 w =>
  gd t20 true (fun k => bi .lss .i64 t32 (Value.int IntKind.i64 0) w k) w fun t33 _ =>
  pk t20 t33 (Value.bool false) w fun t34 _ =>
  iff' t34
  (dr w fun w =>
  bi .sub .i64 t9 (Value.int IntKind.i64 1) w fun t41 _ =>
  bi .sub .i64 t9 (Value.int IntKind.i64 1) w fun t44 _ =>
  ixS 6 t0 t44 w fun t45 _ =>
  ldN 6 t45 w fun t46 _ =>
  ixS 6 t0 t9 w fun t49 _ =>
  ldN 6 t49 w fun t50 _ =>
  ixS 6 t0 t9 w fun t51 _ =>
  stN 6 t51 t46 w fun _ w =>
  ixS 6 t0 t41 w fun t52 _ =>
  stN 6 t52 t50 w fun _ w =>
  bi .sub .i64 t9 (Value.int IntKind.i64 1) w fun t36 w =>
  g2 [t36] w)
  (bi .add .i64 t8 (Value.int IntKind.i64 1) w fun t16 w =>
  g1 [t16] w)))
  (K (Value.tuple #[]) w))
theorem slices_insertionSortCmpFunc_api_Msg_eq (t0 t1 t2 t3 : Value) (w : World) (K : KV) : slices_insertionSortCmpFunc_api_Msg t0 t1 t2 t3 w K = fnW prog 53 [] (match fn72.body with | some c => c | none => .skip) #[t0, t1, t2, t3] w K := by kernel_rfl
theorem slices_insertionSortCmpFunc_api_Msg_ok : fnOk prog 53 [] (match fn72.body with | some c => c | none => .skip) = true := by kernel_rfl
theorem slices_insertionSortCmpFunc_api_Msg_calls {t0 t1 t2 t3 : Value} {w : World} {K : KV} (h : slices_insertionSortCmpFunc_api_Msg t0 t1 t2 t3 w K) : Cl prog 72 #[t0, t1, t2, t3] w K :=
  Cl.mk (by kernel_rfl) (calls_of_F (fn := fn72) (nt := 53) (rs := []) mixed fnAt72 (by kernel_rfl) (by kernel_rfl) (by kernel_rfl) (Nat.le_of_ble_eq_true (by kernel_rfl)) slices_insertionSortCmpFunc_api_Msg_ok (slices_insertionSortCmpFunc_api_Msg_eq t0 t1 t2 t3 w K) h)

/-- math/bits.Len64 -/
def math_bits_Len64 (t0 : Value) (w : World) (K : KV) : Prop :=
  bi .geq .u64 t0 (Value.int IntKind.u64 4294967296) w fun t4 w =>
  J2 (fun t0_1 t2 w =>
  bi .geq .u64 t0_1 (Value.int IntKind.u64 65536) w fun t8 w =>
  J2 (fun t0_2 t2_1 w =>
  bi .geq .u64 t0_2 (Value.int IntKind.u64 256) w fun t14 w =>
  J2 (fun t0_3 t2_2 w =>
  cvI .u8 t0_3 w fun t21 w =>
  ixV prog 9 (Value.string { data := #[0, 1, 2, 2, 3, 3, 3, 3, 4, 4, 4, 4, 4, 4, 4, 4, 5, 5, 5, 5, 5, 5, 5, 5, 5, 5, 5, 5, 5, 5, 5, 5, 6, 6, 6, 6, 6, 6, 6, 6, 6, 6, 6, 6, 6, 6, 6, 6, 6, 6, 6, 6, 6, 6, 6, 6, 6, 6, 6, 6, 6, 6, 6, 6, 7, 7, 7, 7, 7, 7, 7, 7, 7, 7, 7, 7, 7, 7, 7, 7, 7, 7, 7, 7, 7, 7, 7, 7, 7, 7, 7, 7, 7, 7, 7, 7, 7, 7, 7, 7, 7, 7, 7, 7, 7, 7, 7, 7, 7, 7, 7, 7, 7, 7, 7, 7, 7, 7, 7, 7, 7, 7, 7, 7, 7, 7, 7, 7, 8, 8, 8, 8, 8, 8, 8, 8, 8, 8, 8, 8, 8, 8, 8, 8, 8, 8, 8, 8, 8, 8, 8, 8, 8, 8, 8, 8, 8, 8, 8, 8, 8, 8, 8, 8, 8, 8, 8, 8, 8, 8, 8, 8, 8, 8, 8, 8, 8, 8, 8, 8, 8, 8, 8, 8, 8, 8, 8, 8, 8, 8, 8, 8, 8, 8, 8, 8, 8, 8, 8, 8, 8, 8, 8, 8, 8, 8, 8, 8, 8, 8, 8, 8, 8, 8, 8, 8, 8, 8, 8, 8, 8, 8, 8, 8, 8, 8, 8, 8, 8, 8, 8, 8, 8, 8, 8, 8, 8, 8, 8, 8, 8, 8, 8, 8, 8, 8, 8, 8, 8, 8, 8, 8, 8, 8, 8, 8] }) t21 w fun t22 w =>
  cvI .i64 t22 w fun t23 w =>
  bi .add .i64 t2_2 t23 w fun t24 w =>
  K t24 w) fun k3 =>
  iff' t14
  (bO prog .shr 166 (Operand.tmp 15) (Operand.const (Value.int IntKind.u64 8)) t0_2 (Value.int IntKind.u64 8) w fun t16 w =>
  bi .add .i64 t2_1 (Value.int IntKind.i64 8) w fun t18 w =>
  k3 t16 t18 w)
  (k3 t0_2 t2_1 w)) fun k2 =>
  iff' t8
  (bO prog .shr 166 (Operand.tmp 9) (Operand.const (Value.int IntKind.u64 16)) t0_1 (Value.int IntKind.u64 16) w fun t10 w =>
  bi .add .i64 t2 (Value.int IntKind.i64 16) w fun t12 w =>
  k2 t10 t12 w)
  (k2 t0_1 t2 w)) fun k1 =>
  iff' t4
  (bO prog .shr 166 (Operand.tmp 5) (Operand.const (Value.int IntKind.u64 32)) t0 (Value.int IntKind.u64 32) w fun t6 w =>
  k1 t6 (Value.int IntKind.i64 32) w)
  (k1 t0 (Value.int IntKind.i64 0) w)
theorem math_bits_Len64_eq (t0 : Value) (w : World) (K : KV) : math_bits_Len64 t0 w K = fnW prog 25 [2] (match fn81.body with | some c => c | none => .skip) #[t0] w K := by kernel_rfl
theorem math_bits_Len64_ok : fnOk prog 25 [2] (match fn81.body with | some c => c | none => .skip) = true := by kernel_rfl
theorem math_bits_Len64_calls {t0 : Value} {w : World} {K : KV} (h : math_bits_Len64 t0 w K) : Cl prog 81 #[t0] w K :=
  Cl.mk (by kernel_rfl) (calls_of_F (fn := fn81) (nt := 25) (rs := [2]) mixed fnAt81 (by kernel_rfl) (by kernel_rfl) (by kernel_rfl) (Nat.le_of_ble_eq_true (by kernel_rfl)) math_bits_Len64_ok (math_bits_Len64_eq t0 w K) h)

/-- cmp.isNaN[int] -/
def cmp_isNaN_int (t0 : Value) (w : World) (K : KV) : Prop :=
  bi .neq .i64 t0 t0 w fun t5 w =>
  K t5 w
theorem cmp_isNaN_int_eq (t0 : Value) (w : World) (K : KV) : cmp_isNaN_int t0 w K = fnW prog 6 [2] (match fn82.body with | some c => c | none => .skip) #[t0] w K := by kernel_rfl
theorem cmp_isNaN_int_ok : fnOk prog 6 [2] (match fn82.body with | some c => c | none => .skip) = true := by kernel_rfl
theorem cmp_isNaN_int_calls {t0 : Value} {w : World} {K : KV} (h : cmp_isNaN_int t0 w K) : Cl prog 82 #[t0] w K :=
  Cl.mk (by kernel_rfl) (calls_of_F (fn := fn82) (nt := 6) (rs := [2]) mixed fnAt82 (by kernel_rfl) (by kernel_rfl) (by kernel_rfl) (Nat.le_of_ble_eq_true (by kernel_rfl)) cmp_isNaN_int_ok (cmp_isNaN_int_eq t0 w K) h)

/-- (paceline/prio.faced).Len -/
def prio_faced_Len (t0 : Value) (w : World) (K : KV) : Prop :=
  al (Value.cells t0) 106 w fun t1 w =>
  fld 0 t1 w fun t3 w =>
  ld1 t3 w fun t4 w =>
  ncP t4 <|
  fld 1 t4 w fun t6 w =>
  ld1 t6 w fun t7 w =>
  lnS t7 w fun t8 w =>
  K t8 w
theorem prio_faced_Len_eq (t0 : Value) (w : World) (K : KV) : prio_faced_Len t0 w K = fnW prog 9 [2] (match fn112.body with | some c => c | none => .skip) #[t0] w K := by kernel_rfl
theorem prio_faced_Len_ok : fnOk prog 9 [2] (match fn112.body with | some c => c | none => .skip) = true := by kernel_rfl
theorem prio_faced_Len_calls {t0 : Value} {w : World} {K : KV} (h : prio_faced_Len t0 w K) : Cl prog 112 #[t0] w K :=
  Cl.mk (by kernel_rfl) (calls_of_F (fn := fn112) (nt := 9) (rs := [2]) mixed fnAt112 (by kernel_rfl) (by kernel_rfl) (by kernel_rfl) (Nat.le_of_ble_eq_true (by kernel_rfl)) prio_faced_Len_ok (prio_faced_Len_eq t0 w K) h)

/-- (paceline/prio.faced).Less -/
def prio_faced_Less (t0 t1 t2 : Value) (w : World) (K : KV) : Prop :=
  al (Value.cells t0) 106 w fun t3 w =>
  dr w fun w =>
  fld 0 t3 w fun t7 _ =>
  ld1 t7 w fun t8 _ =>
  ncP t8 <|
  fld 1 t8 w fun t10 _ =>
  ld1 t10 w fun t11 _ =>
  ixS 6 t11 t1 w fun t13 _ =>
  fld 0 t13 w fun t14 _ =>
  ldN 3 t14 w fun t15 _ =>
  fld 0 t3 w fun t16 _ =>
  ld1 t16 w fun t17 _ =>
  ncP t17 <|
  fld 1 t17 w fun t19 _ =>
  ld1 t19 w fun t20 _ =>
  ixS 6 t20 t2 w fun t22 _ =>
  fld 0 t22 w fun t23 _ =>
  ldN 3 t23 w fun t24 _ =>
  Cl prog 50 #[t15, t24] w fun t25 w =>
  bi .lss .i64 t25 (Value.int IntKind.i64 0) w fun t26 _ =>
  K t26 w
theorem prio_faced_Less_eq (t0 t1 t2 : Value) (w : World) (K : KV) : prio_faced_Less t0 t1 t2 w K = fnW prog 27 [6] (match fn113.body with | some c => c | none => .skip) #[t0, t1, t2] w K := by kernel_rfl
theorem prio_faced_Less_ok : fnOk prog 27 [6] (match fn113.body with | some c => c | none => .skip) = true := by kernel_rfl
theorem prio_faced_Less_calls {t0 t1 t2 : Value} {w : World} {K : KV} (h : prio_faced_Less t0 t1 t2 w K) : Cl prog 113 #[t0, t1, t2] w K :=
  Cl.mk (by kernel_rfl) (calls_of_F (fn := fn113) (nt := 27) (rs := [6]) mixed fnAt113 (by kernel_rfl) (by kernel_rfl) (by kernel_rfl) (Nat.le_of_ble_eq_true (by kernel_rfl)) prio_faced_Less_ok (prio_faced_Less_eq t0 t1 t2 w K) h)

/-- (paceline/prio.faced).Pop -/
def prio_faced_Pop (t0 : Value) (w : World) (K : KV) : Prop :=
  al (Value.cells t0) 106 w fun t1 w =>
  fld 0 t1 w fun t5 w =>
  ld1 t5 w fun t6 w =>
  ncP t6 <|
  fld 1 t6 w fun t8 w =>
  ld1 t8 w fun t9 w =>
  lnS t9 w fun t10 w =>
  bi .sub .i64 t10 (Value.int IntKind.i64 1) w fun t11 w =>
  fld 0 t1 w fun t12 w =>
  ld1 t12 w fun t13 w =>
  ncP t13 <|
  fld 1 t13 w fun t15 w =>
  ld1 t15 w fun t16 w =>
  ixS 6 t16 t11 w fun t18 w =>
  ldN 6 t18 w fun t19 w =>
  al (zeroD prog 42) 42 w fun t4 w =>
  stN 6 t4 t19 w fun _ w =>
  dr w fun w =>
  fld 0 t1 w fun t20 _ =>
  ld1 t20 w fun t21 _ =>
  fld 0 t1 w fun t22 _ =>
  ld1 t22 w fun t23 _ =>
  ncP t23 <|
  fld 1 t23 w fun t25 _ =>
  ld1 t25 w fun t26 _ =>
  slc 6 t26 none (some t11) w fun t28 _ =>
  ncP t21 <|
  fld 1 t21 w fun t30 _ =>
  stN 1 t30 t28 w fun _ w =>
  dr w fun w =>
  fld 0 t1 w fun t31 _ =>
  ld1 t31 w fun t32 _ =>
  ncP t32 <|
  fld 2 t32 w fun t34 _ =>
  ld1 t34 w fun t35 _ =>
  fld 0 t4 w fun t36 _ =>
  ldN 3 t36 w fun t37 _ =>
  dlM prog #[84, 40] 0 t35 t37 w fun _ w =>
  ldN 6 t4 w fun t38 w =>
  K (Value.iface 42 t38) w
theorem prio_faced_Pop_eq (t0 : Value) (w : World) (K : KV) : prio_faced_Pop t0 w K = fnW prog 40 [2] (match fn114.body with | some c => c | none => .skip) #[t0] w K := by kernel_rfl
theorem prio_faced_Pop_ok : fnOk prog 40 [2] (match fn114.body with | some c => c | none => .skip) = true := by kernel_rfl
theorem prio_faced_Pop_calls {t0 : Value} {w : World} {K : KV} (h : prio_faced_Pop t0 w K) : Cl prog 114 #[t0] w K :=
  Cl.mk (by kernel_rfl) (calls_of_F (fn := fn114) (nt := 40) (rs := [2]) mixed fnAt114 (by kernel_rfl) (by kernel_rfl) (by kernel_rfl) (Nat.le_of_ble_eq_true (by kernel_rfl)) prio_faced_Pop_ok (prio_faced_Pop_eq t0 w K) h)

end Go.Proofs.YtmgaooeeddmbmaaGreatDoor
