/- Printed by prt.py: the Go functions of this seat as shallow predicate transformers. Conditions: none. -/
import Derived.Test.YtdiglafiimnfoaaEngO
import Derived.Test.YtdiglafiimnfoaaPfHead
import Derived.KernelRfl
namespace Go.Proofs.Ytdiglafiimnfoaa
open Go Go.E
set_option linter.unusedVariables false
set_option maxRecDepth 100000
/-- (*paceline/link.Net).items$1 -/
def link_Net_items_1 (t0 t1 : Value) (w : World) (K : KV) : Prop :=
  ld1 t1 w fun t8 w =>
  ncP t8 <|
  fld 0 t8 w fun t10 w =>
  ld1 t10 w fun t11 w =>
  lp [(Value.int IntKind.i64 0), (Value.int IntKind.i64 0)] w (b2 fun t3 t12 w g1 =>
  bi .lss .i64 t12 t11 w fun t13 w =>
  iff' t13
  (ld1 t1 w fun t15 w =>
  ncP t15 <|
  fld 0 t15 w fun t17 w =>
  ld1 t17 w fun t18 w =>
  lp [t3, (Value.int IntKind.i64 0)] w (b2 fun t3_1 t19 w g2 =>
  bi .lss .i64 t19 t18 w fun t20 w =>
  iff' t20
  (ld1 t1 w fun t22 w =>
  ncP t22 <|
  fld 2 t22 w fun t26 w =>
  ixA 8 1040 t26 t12 w fun t27 w =>
  ixA 8 130 t27 t19 w fun t28 w =>
  ncP t28 <|
  fld 129 t28 w fun t31 w =>
  ld1 t31 w fun t32 w =>
  lp [t3_1, (Value.int IntKind.i64 0)] w (b2 fun t3_2 t33 w g3 =>
  bi .lss .i64 t33 t32 w fun t34 w =>
  iff' t34
  (dr w fun w =>
  ncP t28 <|
  fld 128 t28 w fun t41 _ =>
  ld1 t41 w fun t42 _ =>
  bi .add .i64 t42 t33 w fun t44 _ =>
  bi .rem .i64 t44 (Value.int IntKind.i64 16) w fun t45 _ =>
  ncP t28 <|
  fld 0 t28 w fun t47 _ =>
  ixA 16 8 t47 t45 w fun t48 _ =>
  ldN 8 t48 w fun t49 _ =>
  clV prog t0 #[t3_2, t49] w fun t50 w =>
  bnot t50 w fun t51 _ =>
  iff' t51
  (K (Value.tuple #[]) w)
  (bi .add .i64 t3_2 (Value.int IntKind.i64 1) w fun t53 w =>
  bi .add .i64 t33 (Value.int IntKind.i64 1) w fun t54 w =>
  g3 [t53, t54] w))
  (bi .add .i64 t19 (Value.int IntKind.i64 1) w fun t55 w =>
  g2 [t3_2, t55] w)))
  (bi .add .i64 t12 (Value.int IntKind.i64 1) w fun t56 w =>
  g1 [t3_1, t56] w)))
  (K (Value.tuple #[]) w))
theorem link_Net_items_1_eq (t0 t1 : Value) (w : World) (K : KV) : link_Net_items_1 t0 t1 w K = fnW prog 57 [] (match fn103.body with | some c => c | none => .skip) #[t0, t1] w K := by kernel_rfl
theorem link_Net_items_1_ok : fnOk prog 57 [] (match fn103.body with | some c => c | none => .skip) = true := by kernel_rfl
theorem link_Net_items_1_calls {t0 t1 : Value} {w : World} {K : KV} (h : link_Net_items_1 t0 t1 w K) : Cl prog 103 #[t0, t1] w K :=
  ⟨by kernel_rfl, calls_of_F (fn := fn103) (nt := 57) (rs := []) mixed fnAt103 (by kernel_rfl) (by kernel_rfl) (by kernel_rfl) (Nat.le_of_ble_eq_true (by kernel_rfl)) link_Net_items_1_ok (link_Net_items_1_eq t0 t1 w K) h⟩

/-- paceline/vtime.clamp -/
def vtime_clamp (t0 : Value) (w : World) (K : KV) : Prop :=
  bi .lss .i64 t0 (Value.int IntKind.i64 0) w fun t5 w =>
  iff' t5
  (K (Value.int IntKind.i64 0) w)
  (bi .gtr .i64 t0 (Value.int IntKind.i64 1099511627776) w fun t8 w =>
  iff' t8
  (K (Value.int IntKind.i64 1125899906842624) w)
  (K t0 w))
theorem vtime_clamp_eq (t0 : Value) (w : World) (K : KV) : vtime_clamp t0 w K = fnW prog 10 [2] (match fn104.body with | some c => c | none => .skip) #[t0] w K := by kernel_rfl
theorem vtime_clamp_ok : fnOk prog 10 [2] (match fn104.body with | some c => c | none => .skip) = true := by kernel_rfl
theorem vtime_clamp_calls {t0 : Value} {w : World} {K : KV} (h : vtime_clamp t0 w K) : Cl prog 104 #[t0] w K :=
  ⟨by kernel_rfl, calls_of_F (fn := fn104) (nt := 10) (rs := [2]) mixed fnAt104 (by kernel_rfl) (by kernel_rfl) (by kernel_rfl) (Nat.le_of_ble_eq_true (by kernel_rfl)) vtime_clamp_ok (vtime_clamp_eq t0 w K) h⟩

/-- paceline/pacelineref01.time -/
def pacelineref01_time (t0 : Value) (w : World) (K : KV) : Prop :=
  bi .lss .i64 t0 (Value.int IntKind.i64 0) w fun t4 w =>
  iff' t4
  (K (Value.int IntKind.i64 0) w)
  (bi .gtr .i64 t0 (Value.int IntKind.i64 1099511627776) w fun t6 w =>
  iff' t6
  (K (Value.int IntKind.i64 1125899906842624) w)
  (K t0 w))
theorem pacelineref01_time_eq (t0 : Value) (w : World) (K : KV) : pacelineref01_time t0 w K = fnW prog 8 [2] (match fn105.body with | some c => c | none => .skip) #[t0] w K := by kernel_rfl
theorem pacelineref01_time_ok : fnOk prog 8 [2] (match fn105.body with | some c => c | none => .skip) = true := by kernel_rfl
theorem pacelineref01_time_calls {t0 : Value} {w : World} {K : KV} (h : pacelineref01_time t0 w K) : Cl prog 105 #[t0] w K :=
  ⟨by kernel_rfl, calls_of_F (fn := fn105) (nt := 8) (rs := [2]) mixed fnAt105 (by kernel_rfl) (by kernel_rfl) (by kernel_rfl) (Nat.le_of_ble_eq_true (by kernel_rfl)) pacelineref01_time_ok (pacelineref01_time_eq t0 w K) h⟩

/-- container/heap.up -/
def heap_up (t0 t1 : Value) (w : World) (K : KV) : Prop :=
  lp [t1] w (b1 fun t1_1 w g1 =>
  bi .sub .i64 t1_1 (Value.int IntKind.i64 1) w fun t6 w =>
  bi .quo .i64 t6 (Value.int IntKind.i64 2) w fun t7 w =>
  bi .eql .i64 t7 t1_1 w fun t10 w =>
  gd t10 false (fun k => k t0 w) w fun t12 w =>
  gd t10 false (fun k => k t1_1 w) w fun t13 w =>
  gd t10 false (fun k => k t7 w) w fun t14 w =>
  gd t10 false (fun k => clI prog t12 "Less" #[t13, t14] w k) w fun t15 w =>
  gd t10 false (fun k => bnot t15 w k) w fun t16 w =>
  pk t10 (Value.bool true) t16 w fun t17 w =>
  iff' t17
  (K (Value.tuple #[]) w)
  (clI prog t0 "Swap" #[t7, t1_1] w fun _ w =>
  g1 [t7] w))
theorem heap_up_eq (t0 t1 : Value) (w : World) (K : KV) : heap_up t0 t1 w K = fnW prog 23 [] (match fn106.body with | some c => c | none => .skip) #[t0, t1] w K := by kernel_rfl
theorem heap_up_ok : fnOk prog 23 [] (match fn106.body with | some c => c | none => .skip) = true := by kernel_rfl
theorem heap_up_calls {t0 t1 : Value} {w : World} {K : KV} (h : heap_up t0 t1 w K) : Cl prog 106 #[t0, t1] w K :=
  ⟨by kernel_rfl, calls_of_F (fn := fn106) (nt := 23) (rs := []) mixed fnAt106 (by kernel_rfl) (by kernel_rfl) (by kernel_rfl) (Nat.le_of_ble_eq_true (by kernel_rfl)) heap_up_ok (heap_up_eq t0 t1 w K) h⟩

/-- container/heap.down -/
def heap_down (t0 t1 t2 : Value) (w : World) (K : KV) : Prop :=
  J1 (fun t7 w =>
  bi .gtr .i64 t7 t1 w fun t47 w =>
  K t47 w) fun k1 =>
  lp [t1] w (b1 fun t7_1 w g2 =>
  bi .mul .i64 (Value.int IntKind.i64 2) t7_1 w fun t13 w =>
  bi .add .i64 t13 (Value.int IntKind.i64 1) w fun t14 w =>
  bi .geq .i64 t14 t2 w fun t17 w =>
  gd t17 false (fun k => k t14 w) w fun t19 w =>
  gd t17 false (fun k => bi .lss .i64 t19 (Value.int IntKind.i64 0) w k) w fun t20 w =>
  pk t17 (Value.bool true) t20 w fun t21 w =>
  iff' t21
  (k1 t7_1 w)
  (bi .add .i64 t14 (Value.int IntKind.i64 1) w fun t24 w =>
  bi .lss .i64 t24 t2 w fun t27 w =>
  gd t27 true (fun k => k t0 w) w fun t29 w =>
  gd t27 true (fun k => k t24 w) w fun t30 w =>
  gd t27 true (fun k => k t14 w) w fun t31 w =>
  gd t27 true (fun k => clI prog t29 "Less" #[t30, t31] w k) w fun t32 w =>
  pk t27 t32 (Value.bool false) w fun t33 w =>
  J1 (fun t9 w =>
  clI prog t0 "Less" #[t9, t7_1] w fun t38 w =>
  bnot t38 w fun t39 w =>
  iff' t39
  (k1 t7_1 w)
  (clI prog t0 "Swap" #[t7_1, t9] w fun _ w =>
  g2 [t9] w)) fun k3 =>
  iff' t33
  (k3 t24 w)
  (k3 t14 w)))
theorem heap_down_eq (t0 t1 t2 : Value) (w : World) (K : KV) : heap_down t0 t1 t2 w K = fnW prog 48 [6] (match fn107.body with | some c => c | none => .skip) #[t0, t1, t2] w K := by kernel_rfl
theorem heap_down_ok : fnOk prog 48 [6] (match fn107.body with | some c => c | none => .skip) = true := by kernel_rfl
theorem heap_down_calls {t0 t1 t2 : Value} {w : World} {K : KV} (h : heap_down t0 t1 t2 w K) : Cl prog 107 #[t0, t1, t2] w K :=
  ⟨by kernel_rfl, calls_of_F (fn := fn107) (nt := 48) (rs := [6]) mixed fnAt107 (by kernel_rfl) (by kernel_rfl) (by kernel_rfl) (Nat.le_of_ble_eq_true (by kernel_rfl)) heap_down_ok (heap_down_eq t0 t1 t2 w K) h⟩

/-- slices.BinarySearchFunc[[]paceline/api.Msg,paceline/api.Msg,paceline/api.Key] -/
def slices_BinarySearchFunc_api_Msg_api_Msg_api_Key (t0 t1 t2 : Value) (w : World) (K : KV) : Prop :=
  al (Value.cells t1) 61 w fun t4 w =>
  lnS t0 w fun t13 w =>
  lp [(Value.int IntKind.i64 0), t13] w (b2 fun t9 t10 w g1 =>
  bi .lss .i64 t9 t10 w fun t17 w =>
  iff' t17
  (bi .add .i64 t9 t10 w fun t20 w =>
  cvI .u64 t20 w fun t21 w =>
  bO prog .shr 119 (Operand.tmp 21) (Operand.const (Value.int IntKind.u64 1)) t21 (Value.int IntKind.u64 1) w fun t22 w =>
  cvI .i64 t22 w fun t23 w =>
  dr w fun w =>
  ixS 6 t0 t23 w fun t27 _ =>
  ldN 6 t27 w fun t28 _ =>
  ldN 3 t4 w fun t29 _ =>
  clV prog t2 #[t28, t29] w fun t30 w =>
  bi .lss .i64 t30 (Value.int IntKind.i64 0) w fun t31 _ =>
  iff' t31
  (bi .add .i64 t23 (Value.int IntKind.i64 1) w fun t33 w =>
  g1 [t33, t10] w)
  (g1 [t9, t23] w))
  (dr w fun w =>
  bi .lss .i64 t9 t13 w fun t38 _ =>
  gd t38 true (fun k => k t2 w) w fun t40 _ =>
  gd t38 true (fun k => k t0 w) w fun t41 _ =>
  gd t38 true (fun k => k t9 w) w fun t42 _ =>
  gd t38 true (fun k => ixS 6 t41 t42 w k) w fun t43 _ =>
  gd t38 true (fun k => ldN 6 t43 w k) w fun t44 _ =>
  gd t38 true (fun k => ldN 3 t4 w k) w fun t45 _ =>
  gd t38 true (fun k => clV prog t40 #[t44, t45] w k) w fun t46 w =>
  gd t38 true (fun k => bi .eql .i64 t46 (Value.int IntKind.i64 0) w k) w fun t47 _ =>
  pk t38 t47 (Value.bool false) w fun t48 _ =>
  K (Value.tuple #[t9, t48]) w))
theorem slices_BinarySearchFunc_api_Msg_api_Msg_api_Key_eq (t0 t1 t2 : Value) (w : World) (K : KV) : slices_BinarySearchFunc_api_Msg_api_Msg_api_Key t0 t1 t2 w K = fnW prog 49 [6, 7] (match fn108.body with | some c => c | none => .skip) #[t0, t1, t2] w K := by kernel_rfl
theorem slices_BinarySearchFunc_api_Msg_api_Msg_api_Key_ok : fnOk prog 49 [6, 7] (match fn108.body with | some c => c | none => .skip) = true := by kernel_rfl
theorem slices_BinarySearchFunc_api_Msg_api_Msg_api_Key_calls {t0 t1 t2 : Value} {w : World} {K : KV} (h : slices_BinarySearchFunc_api_Msg_api_Msg_api_Key t0 t1 t2 w K) : Cl prog 108 #[t0, t1, t2] w K :=
  ⟨by kernel_rfl, calls_of_F (fn := fn108) (nt := 49) (rs := [6, 7]) mixed fnAt108 (by kernel_rfl) (by kernel_rfl) (by kernel_rfl) (Nat.le_of_ble_eq_true (by kernel_rfl)) slices_BinarySearchFunc_api_Msg_api_Msg_api_Key_ok (slices_BinarySearchFunc_api_Msg_api_Msg_api_Key_eq t0 t1 t2 w K) h⟩

end Go.Proofs.Ytdiglafiimnfoaa
