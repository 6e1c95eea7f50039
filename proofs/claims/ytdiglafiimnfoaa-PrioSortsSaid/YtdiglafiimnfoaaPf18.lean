/- Printed by prt.py: the Go functions of this seat as shallow predicate transformers. Conditions: none. -/
import Derived.Test.YtdiglafiimnfoaaEngO
import Derived.Test.YtdiglafiimnfoaaPfHead
import Derived.KernelRfl
namespace Go.Proofs.Ytdiglafiimnfoaa
open Go Go.E
set_option linter.unusedVariables false
set_option maxRecDepth 100000
/-- slices.insertionSortCmpFunc[paceline/gate.kept] -/
def slices_insertionSortCmpFunc_gate_kept (t0 t1 t2 t3 : Value) (w : World) (K : KV) : Prop :=
  bi .add .i64 t1 (Value.int IntKind.i64 1) w fun t11 w =>
  lp [t11] w (b1 fun t8 w g1 =>
  bi .lss .i64 t8 t2 w fun t14 w =>
  iff' t14
  (lp [t8] w (b1 fun t9 w g2 =>
  dr w fun w =>
  bi .gtr .i64 t9 t1 w fun t20 _ =>
  gd t20 true (fun k => k t3 w) w fun t22 _ =>
  gd t20 true (fun k => k t0 w) w fun t23 _ =>
  gd t20 true (fun k => k t9 w) w fun t24 _ =>
  gd t20 true (fun k => ixS 9 t23 t24 w k) w fun t25 _ =>
  gd t20 true (fun k => ldN 9 t25 w k) w fun t26 _ =>
  gd t20 true (fun k => k t0 w) w fun t27 _ =>
  gd t20 true (fun k => k t9 w) w fun t28 _ =>
  gd t20 true (fun k => bi .sub .i64 t28 (Value.int IntKind.i64 1) w k) w fun t29 _ =>
  gd t20 true (fun k => ixS 9 t27 t29 w k) w fun t30 _ =>
  gd t20 true (fun k => ldN 9 t30 w k) w fun t31 _ =>
  gd t20 true (fun k => clV prog t22 #[t26, t31] w k) w fun t32 w =>
  gd t20 true (fun k => bi .lss .i64 t32 (Value.int IntKind.i64 0) w k) w fun t33 _ =>
  pk t20 t33 (Value.bool false) w fun t34 _ =>
  iff' t34
  (dr w fun w =>
  bi .sub .i64 t9 (Value.int IntKind.i64 1) w fun t41 _ =>
  bi .sub .i64 t9 (Value.int IntKind.i64 1) w fun t44 _ =>
  ixS 9 t0 t44 w fun t45 _ =>
  ldN 9 t45 w fun t46 _ =>
  ixS 9 t0 t9 w fun t49 _ =>
  ldN 9 t49 w fun t50 _ =>
  ixS 9 t0 t9 w fun t51 _ =>
  stN 9 t51 t46 w fun _ w =>
  ixS 9 t0 t41 w fun t52 _ =>
  stN 9 t52 t50 w fun _ w =>
  bi .sub .i64 t9 (Value.int IntKind.i64 1) w fun t36 w =>
  g2 [t36] w)
  (bi .add .i64 t8 (Value.int IntKind.i64 1) w fun t16 w =>
  g1 [t16] w)))
  (K (Value.tuple #[]) w))
theorem slices_insertionSortCmpFunc_gate_kept_eq (t0 t1 t2 t3 : Value) (w : World) (K : KV) : slices_insertionSortCmpFunc_gate_kept t0 t1 t2 t3 w K = fnW prog 53 [] (match fn116.body with | some c => c | none => .skip) #[t0, t1, t2, t3] w K := by kernel_rfl
theorem slices_insertionSortCmpFunc_gate_kept_ok : fnOk prog 53 [] (match fn116.body with | some c => c | none => .skip) = true := by kernel_rfl
theorem slices_insertionSortCmpFunc_gate_kept_calls {t0 t1 t2 t3 : Value} {w : World} {K : KV} (h : slices_insertionSortCmpFunc_gate_kept t0 t1 t2 t3 w K) : Cl prog 116 #[t0, t1, t2, t3] w K :=
  ⟨by kernel_rfl, calls_of_F (fn := fn116) (nt := 53) (rs := []) mixed fnAt116 (by kernel_rfl) (by kernel_rfl) (by kernel_rfl) (Nat.le_of_ble_eq_true (by kernel_rfl)) slices_insertionSortCmpFunc_gate_kept_ok (slices_insertionSortCmpFunc_gate_kept_eq t0 t1 t2 t3 w K) h⟩

/-- slices.symMergeCmpFunc[paceline/gate.kept] -/
def slices_symMergeCmpFunc_gate_kept (t0 t1 t2 t3 t4 : Value) (w : World) (K : KV) : Prop :=
  bi .sub .i64 t2 t1 w fun t27 w =>
  bi .eql .i64 t27 (Value.int IntKind.i64 1) w fun t28 w =>
  iff' t28
  (lp [t2, t3] w (b2 fun t10 t11 w g1 =>
  bi .lss .i64 t10 t11 w fun t33 w =>
  iff' t33
  (bi .add .i64 t10 t11 w fun t36 w =>
  cvI .u64 t36 w fun t37 w =>
  bO prog .shr 119 (Operand.tmp 37) (Operand.const (Value.int IntKind.u64 1)) t37 (Value.int IntKind.u64 1) w fun t38 w =>
  cvI .i64 t38 w fun t39 w =>
  dr w fun w =>
  ixS 9 t0 t39 w fun t43 _ =>
  ldN 9 t43 w fun t44 _ =>
  ixS 9 t0 t1 w fun t47 _ =>
  ldN 9 t47 w fun t48 _ =>
  clV prog t4 #[t44, t48] w fun t49 w =>
  bi .lss .i64 t49 (Value.int IntKind.i64 0) w fun t50 _ =>
  iff' t50
  (bi .add .i64 t39 (Value.int IntKind.i64 1) w fun t52 w =>
  g1 [t52, t11] w)
  (g1 [t10, t39] w))
  (lp [t1] w (b1 fun t13 w g2 =>
  bi .sub .i64 t10 (Value.int IntKind.i64 1) w fun t57 w =>
  bi .lss .i64 t13 t57 w fun t58 w =>
  iff' t58
  (dr w fun w =>
  bi .add .i64 t13 (Value.int IntKind.i64 1) w fun t65 _ =>
  bi .add .i64 t13 (Value.int IntKind.i64 1) w fun t68 _ =>
  ixS 9 t0 t68 w fun t69 _ =>
  ldN 9 t69 w fun t70 _ =>
  ixS 9 t0 t13 w fun t73 _ =>
  ldN 9 t73 w fun t74 _ =>
  ixS 9 t0 t13 w fun t75 _ =>
  stN 9 t75 t70 w fun _ w =>
  ixS 9 t0 t65 w fun t76 _ =>
  stN 9 t76 t74 w fun _ w =>
  bi .add .i64 t13 (Value.int IntKind.i64 1) w fun t60 w =>
  g2 [t60] w)
  (K (Value.tuple #[]) w)))))
  (bi .sub .i64 t3 t2 w fun t79 w =>
  bi .eql .i64 t79 (Value.int IntKind.i64 1) w fun t80 w =>
  iff' t80
  (lp [t1, t2] w (b2 fun t14 t15 w g3 =>
  bi .lss .i64 t14 t15 w fun t85 w =>
  iff' t85
  (bi .add .i64 t14 t15 w fun t88 w =>
  cvI .u64 t88 w fun t89 w =>
  bO prog .shr 119 (Operand.tmp 89) (Operand.const (Value.int IntKind.u64 1)) t89 (Value.int IntKind.u64 1) w fun t90 w =>
  cvI .i64 t90 w fun t91 w =>
  dr w fun w =>
  ixS 9 t0 t2 w fun t95 _ =>
  ldN 9 t95 w fun t96 _ =>
  ixS 9 t0 t91 w fun t99 _ =>
  ldN 9 t99 w fun t100 _ =>
  clV prog t4 #[t96, t100] w fun t101 w =>
  bi .lss .i64 t101 (Value.int IntKind.i64 0) w fun t102 _ =>
  bnot t102 w fun t103 _ =>
  iff' t103
  (bi .add .i64 t91 (Value.int IntKind.i64 1) w fun t105 w =>
  g3 [t105, t15] w)
  (g3 [t14, t91] w))
  (lp [t2] w (b1 fun t17 w g4 =>
  bi .gtr .i64 t17 t14 w fun t110 w =>
  iff' t110
  (dr w fun w =>
  bi .sub .i64 t17 (Value.int IntKind.i64 1) w fun t117 _ =>
  bi .sub .i64 t17 (Value.int IntKind.i64 1) w fun t120 _ =>
  ixS 9 t0 t120 w fun t121 _ =>
  ldN 9 t121 w fun t122 _ =>
  ixS 9 t0 t17 w fun t125 _ =>
  ldN 9 t125 w fun t126 _ =>
  ixS 9 t0 t17 w fun t127 _ =>
  stN 9 t127 t122 w fun _ w =>
  ixS 9 t0 t117 w fun t128 _ =>
  stN 9 t128 t126 w fun _ w =>
  bi .sub .i64 t17 (Value.int IntKind.i64 1) w fun t112 w =>
  g4 [t112] w)
  (K (Value.tuple #[]) w)))))
  (bi .add .i64 t1 t3 w fun t131 w =>
  cvI .u64 t131 w fun t132 w =>
  bO prog .shr 119 (Operand.tmp 132) (Operand.const (Value.int IntKind.u64 1)) t132 (Value.int IntKind.u64 1) w fun t133 w =>
  cvI .i64 t133 w fun t134 w =>
  bi .add .i64 t134 t2 w fun t137 w =>
  bi .gtr .i64 t2 t134 w fun t140 w =>
  J2 (fun t20 t21 w =>
  bi .sub .i64 t137 (Value.int IntKind.i64 1) w fun t148 w =>
  lp [t20, t21] w (b2 fun t20_1 t21_1 w g6 =>
  bi .lss .i64 t20_1 t21_1 w fun t151 w =>
  iff' t151
  (bi .add .i64 t20_1 t21_1 w fun t154 w =>
  cvI .u64 t154 w fun t155 w =>
  bO prog .shr 119 (Operand.tmp 155) (Operand.const (Value.int IntKind.u64 1)) t155 (Value.int IntKind.u64 1) w fun t156 w =>
  cvI .i64 t156 w fun t157 w =>
  dr w fun w =>
  bi .sub .i64 t148 t157 w fun t162 _ =>
  ixS 9 t0 t162 w fun t163 _ =>
  ldN 9 t163 w fun t164 _ =>
  ixS 9 t0 t157 w fun t167 _ =>
  ldN 9 t167 w fun t168 _ =>
  clV prog t4 #[t164, t168] w fun t169 w =>
  bi .lss .i64 t169 (Value.int IntKind.i64 0) w fun t170 _ =>
  bnot t170 w fun t171 _ =>
  iff' t171
  (bi .add .i64 t157 (Value.int IntKind.i64 1) w fun t173 w =>
  g6 [t173, t21_1] w)
  (g6 [t20_1, t157] w))
  (bi .sub .i64 t137 t20_1 w fun t177 w =>
  bi .lss .i64 t20_1 t2 w fun t180 w =>
  gd t180 true (fun k => k t2 w) w fun t182 w =>
  gd t180 true (fun k => k t177 w) w fun t183 w =>
  gd t180 true (fun k => bi .lss .i64 t182 t183 w k) w fun t184 w =>
  pk t180 t184 (Value.bool false) w fun t185 w =>
  J0 (fun w =>
  bi .lss .i64 t1 t20_1 w fun t194 w =>
  gd t194 true (fun k => k t20_1 w) w fun t196 w =>
  gd t194 true (fun k => k t134 w) w fun t197 w =>
  gd t194 true (fun k => bi .lss .i64 t196 t197 w k) w fun t198 w =>
  pk t194 t198 (Value.bool false) w fun t199 w =>
  J0 (fun w =>
  bi .lss .i64 t134 t177 w fun t208 w =>
  gd t208 true (fun k => k t177 w) w fun t210 w =>
  gd t208 true (fun k => k t3 w) w fun t211 w =>
  gd t208 true (fun k => bi .lss .i64 t210 t211 w k) w fun t212 w =>
  pk t208 t212 (Value.bool false) w fun t213 w =>
  iff' t213
  (Cl prog 117 #[t0, t134, t177, t3, t4] w fun _ w =>
  K (Value.tuple #[]) w)
  (K (Value.tuple #[]) w)) fun k8 =>
  iff' t199
  (Cl prog 117 #[t0, t1, t20_1, t134, t4] w fun _ w =>
  k8 w)
  (k8 w)) fun k7 =>
  iff' t185
  (Cl prog 120 #[t0, t20_1, t2, t177, t4] w fun _ w =>
  k7 w)
  (k7 w)))) fun k5 =>
  iff' t140
  (bi .sub .i64 t137 t3 w fun t143 w =>
  k5 t143 t134 w)
  (k5 t1 t2 w)))
theorem slices_symMergeCmpFunc_gate_kept_eq (t0 t1 t2 t3 t4 : Value) (w : World) (K : KV) : slices_symMergeCmpFunc_gate_kept t0 t1 t2 t3 t4 w K = fnW prog 220 [] (match fn117.body with | some c => c | none => .skip) #[t0, t1, t2, t3, t4] w K := by kernel_rfl
theorem slices_symMergeCmpFunc_gate_kept_ok : fnOk prog 220 [] (match fn117.body with | some c => c | none => .skip) = true := by kernel_rfl
theorem slices_symMergeCmpFunc_gate_kept_calls {t0 t1 t2 t3 t4 : Value} {w : World} {K : KV} (h : slices_symMergeCmpFunc_gate_kept t0 t1 t2 t3 t4 w K) : Cl prog 117 #[t0, t1, t2, t3, t4] w K :=
  ⟨by kernel_rfl, calls_of_F (fn := fn117) (nt := 220) (rs := []) mixed fnAt117 (by kernel_rfl) (by kernel_rfl) (by kernel_rfl) (Nat.le_of_ble_eq_true (by kernel_rfl)) slices_symMergeCmpFunc_gate_kept_ok (slices_symMergeCmpFunc_gate_kept_eq t0 t1 t2 t3 t4 w K) h⟩

/-- cmp.isNaN[int] -/
def cmp_isNaN_int (t0 : Value) (w : World) (K : KV) : Prop :=
  bi .neq .i64 t0 t0 w fun t5 w =>
  K t5 w
theorem cmp_isNaN_int_eq (t0 : Value) (w : World) (K : KV) : cmp_isNaN_int t0 w K = fnW prog 6 [2] (match fn118.body with | some c => c | none => .skip) #[t0] w K := by kernel_rfl
theorem cmp_isNaN_int_ok : fnOk prog 6 [2] (match fn118.body with | some c => c | none => .skip) = true := by kernel_rfl
theorem cmp_isNaN_int_calls {t0 : Value} {w : World} {K : KV} (h : cmp_isNaN_int t0 w K) : Cl prog 118 #[t0] w K :=
  ⟨by kernel_rfl, calls_of_F (fn := fn118) (nt := 6) (rs := [2]) mixed fnAt118 (by kernel_rfl) (by kernel_rfl) (by kernel_rfl) (Nat.le_of_ble_eq_true (by kernel_rfl)) cmp_isNaN_int_ok (cmp_isNaN_int_eq t0 w K) h⟩

/-- slices.Reverse[[]paceline/api.Msg,paceline/api.Msg] -/
def slices_Reverse_api_Msg_api_Msg (t0 : Value) (w : World) (K : KV) : Prop :=
  lnS t0 w fun t5 w =>
  bi .sub .i64 t5 (Value.int IntKind.i64 1) w fun t6 w =>
  lp [(Value.int IntKind.i64 0), t6] w (b2 fun t2 t3 w g1 =>
  bi .lss .i64 t2 t3 w fun t9 w =>
  iff' t9
  (dr w fun w =>
  ixS 6 t0 t3 w fun t20 _ =>
  ldN 6 t20 w fun t21 _ =>
  ixS 6 t0 t2 w fun t24 _ =>
  ldN 6 t24 w fun t25 _ =>
  ixS 6 t0 t2 w fun t26 _ =>
  stN 6 t26 t21 w fun _ w =>
  ixS 6 t0 t3 w fun t27 _ =>
  stN 6 t27 t25 w fun _ w =>
  bi .add .i64 t2 (Value.int IntKind.i64 1) w fun t11 w =>
  bi .sub .i64 t3 (Value.int IntKind.i64 1) w fun t13 w =>
  g1 [t11, t13] w)
  (K (Value.tuple #[]) w))
theorem slices_Reverse_api_Msg_api_Msg_eq (t0 : Value) (w : World) (K : KV) : slices_Reverse_api_Msg_api_Msg t0 w K = fnW prog 28 [] (match fn119.body with | some c => c | none => .skip) #[t0] w K := by kernel_rfl
theorem slices_Reverse_api_Msg_api_Msg_ok : fnOk prog 28 [] (match fn119.body with | some c => c | none => .skip) = true := by kernel_rfl
theorem slices_Reverse_api_Msg_api_Msg_calls {t0 : Value} {w : World} {K : KV} (h : slices_Reverse_api_Msg_api_Msg t0 w K) : Cl prog 119 #[t0] w K :=
  ⟨by kernel_rfl, calls_of_F (fn := fn119) (nt := 28) (rs := []) mixed fnAt119 (by kernel_rfl) (by kernel_rfl) (by kernel_rfl) (Nat.le_of_ble_eq_true (by kernel_rfl)) slices_Reverse_api_Msg_api_Msg_ok (slices_Reverse_api_Msg_api_Msg_eq t0 w K) h⟩

/-- slices.rotateCmpFunc[paceline/gate.kept] -/
def slices_rotateCmpFunc_gate_kept (t0 t1 t2 t3 t4 : Value) (w : World) (K : KV) : Prop :=
  bi .sub .i64 t2 t1 w fun t14 w =>
  bi .sub .i64 t3 t2 w fun t17 w =>
  lp [t14, t17] w (b2 fun t10 t11 w g1 =>
  bi .neq .i64 t10 t11 w fun t20 w =>
  iff' t20
  (bi .gtr .i64 t10 t11 w fun t23 w =>
  iff' t23
  (bi .sub .i64 t2 t10 w fun t27 w =>
  Cl prog 121 #[t0, t27, t2, t11, t4] w fun _ w =>
  bi .sub .i64 t10 t11 w fun t34 w =>
  g1 [t34, t11] w)
  (bi .sub .i64 t2 t10 w fun t38 w =>
  bi .add .i64 t2 t11 w fun t41 w =>
  bi .sub .i64 t41 t10 w fun t43 w =>
  Cl prog 121 #[t0, t38, t43, t10, t4] w fun _ w =>
  bi .sub .i64 t11 t10 w fun t49 w =>
  g1 [t10, t49] w))
  (bi .sub .i64 t2 t10 w fun t53 w =>
  Cl prog 121 #[t0, t53, t2, t10, t4] w fun _ w =>
  K (Value.tuple #[]) w))
theorem slices_rotateCmpFunc_gate_kept_eq (t0 t1 t2 t3 t4 : Value) (w : World) (K : KV) : slices_rotateCmpFunc_gate_kept t0 t1 t2 t3 t4 w K = fnW prog 58 [] (match fn120.body with | some c => c | none => .skip) #[t0, t1, t2, t3, t4] w K := by kernel_rfl
theorem slices_rotateCmpFunc_gate_kept_ok : fnOk prog 58 [] (match fn120.body with | some c => c | none => .skip) = true := by kernel_rfl
theorem slices_rotateCmpFunc_gate_kept_calls {t0 t1 t2 t3 t4 : Value} {w : World} {K : KV} (h : slices_rotateCmpFunc_gate_kept t0 t1 t2 t3 t4 w K) : Cl prog 120 #[t0, t1, t2, t3, t4] w K :=
  ⟨by kernel_rfl, calls_of_F (fn := fn120) (nt := 58) (rs := []) mixed fnAt120 (by kernel_rfl) (by kernel_rfl) (by kernel_rfl) (Nat.le_of_ble_eq_true (by kernel_rfl)) slices_rotateCmpFunc_gate_kept_ok (slices_rotateCmpFunc_gate_kept_eq t0 t1 t2 t3 t4 w K) h⟩

/-- slices.swapRangeCmpFunc[paceline/gate.kept] -/
def slices_swapRangeCmpFunc_gate_kept (t0 t1 t2 t3 t4 : Value) (w : World) (K : KV) : Prop :=
  lp [(Value.int IntKind.i64 0)] w (b1 fun t10 w g1 =>
  bi .lss .i64 t10 t3 w fun t13 w =>
  iff' t13
  (dr w fun w =>
  bi .add .i64 t1 t10 w fun t19 _ =>
  bi .add .i64 t2 t10 w fun t23 _ =>
  bi .add .i64 t2 t10 w fun t27 _ =>
  ixS 9 t0 t27 w fun t28 _ =>
  ldN 9 t28 w fun t29 _ =>
  bi .add .i64 t1 t10 w fun t33 _ =>
  ixS 9 t0 t33 w fun t34 _ =>
  ldN 9 t34 w fun t35 _ =>
  ixS 9 t0 t19 w fun t36 _ =>
  stN 9 t36 t29 w fun _ w =>
  ixS 9 t0 t23 w fun t37 _ =>
  stN 9 t37 t35 w fun _ w =>
  bi .add .i64 t10 (Value.int IntKind.i64 1) w fun t15 w =>
  g1 [t15] w)
  (K (Value.tuple #[]) w))
theorem slices_swapRangeCmpFunc_gate_kept_eq (t0 t1 t2 t3 t4 : Value) (w : World) (K : KV) : slices_swapRangeCmpFunc_gate_kept t0 t1 t2 t3 t4 w K = fnW prog 38 [] (match fn121.body with | some c => c | none => .skip) #[t0, t1, t2, t3, t4] w K := by kernel_rfl
theorem slices_swapRangeCmpFunc_gate_kept_ok : fnOk prog 38 [] (match fn121.body with | some c => c | none => .skip) = true := by kernel_rfl
theorem slices_swapRangeCmpFunc_gate_kept_calls {t0 t1 t2 t3 t4 : Value} {w : World} {K : KV} (h : slices_swapRangeCmpFunc_gate_kept t0 t1 t2 t3 t4 w K) : Cl prog 121 #[t0, t1, t2, t3, t4] w K :=
  ⟨by kernel_rfl, calls_of_F (fn := fn121) (nt := 38) (rs := []) mixed fnAt121 (by kernel_rfl) (by kernel_rfl) (by kernel_rfl) (Nat.le_of_ble_eq_true (by kernel_rfl)) slices_swapRangeCmpFunc_gate_kept_ok (slices_swapRangeCmpFunc_gate_kept_eq t0 t1 t2 t3 t4 w K) h⟩

end Go.Proofs.Ytdiglafiimnfoaa
