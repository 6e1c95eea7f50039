/- Printed by prt.py: the Go functions of this seat as shallow predicate transformers. Conditions: none. -/
import Derived.Test.YtmgaooeeddmbmaaGreatDoorEngO
import Derived.Test.YtmgaooeeddmbmaaGreatDoorPfHead
import Derived.KernelRfl
namespace Go.Proofs.YtmgaooeeddmbmaaGreatDoor
open Go Go.E
set_option linter.unusedVariables false
set_option maxRecDepth 100000
/-- paceline/pacelinetop.TopLine -/
def pacelinetop_TopLine (t0 : Value) (w : World) (K : KV) : Prop :=
  lnS t0 w fun t23 w =>
  bi .add .i64 t23 (Value.int IntKind.i64 2) w fun t24 w =>
  mnI .i64 t24 (Value.int IntKind.i64 8) w fun t25 w =>
  bsl 3 1 0 #[] [] w fun t26 w =>
  lp [t26, (Value.int IntKind.i64 0)] w (b2 fun t4 t5 w g1 =>
  bi .lss .i64 t5 t25 w fun t29 w =>
  iff' t29
  (bsl 3 1 1 (zeroD prog 3) [(0, (Value.int IntKind.i64 (-1)))] w fun t33 w =>
  apS prog #[23, 23] 23 t4 t33 w fun t34 w =>
  bi .add .i64 t5 (Value.int IntKind.i64 1) w fun t31 w =>
  g1 [t34, t31] w)
  (Cl prog 4 #[t4] w fun t37 w =>
  xt 0 t37 w fun t38 w =>
  xt 1 t37 w fun t39 w =>
  bi .neq .i64 t39 (Value.int IntKind.i64 0) w fun t41 w =>
  gd t41 false (fun k => k t38 w) w fun t43 w =>
  gd t41 false (fun k => bn .eql t43 w k) w fun t44 w =>
  pk t41 (Value.bool true) t44 w fun t45 w =>
  iff' t45
  (K (Value.bool false) w)
  (bsl 3 1 0 #[] [] w fun t46 w =>
  lp [t46, (Value.int IntKind.i64 0)] w (b2 fun t8 t9 w g2 =>
  bi .lss .i64 t9 t25 w fun t49 w =>
  iff' t49
  (lnS t0 w fun t54 w =>
  bi .lss .i64 t9 t54 w fun t55 w =>
  J1 (fun t10 w =>
  bsl 3 1 1 (zeroD prog 3) [(0, t10)] w fun t64 w =>
  apS prog #[23, 23] 23 t8 t64 w fun t65 w =>
  Cl prog 5 #[t38, t9] w fun t68 w =>
  bi .neq .i64 t68 (Value.int IntKind.i64 0) w fun t69 w =>
  gd t69 false (fun k => k t38 w) w fun t71 w =>
  gd t69 false (fun k => k t9 w) w fun t72 w =>
  gd t69 false (fun k => k t9 w) w fun t73 w =>
  gd t69 false (fun k => Cl prog 6 #[t71, t72, t73, (Value.bool true)] w k) w fun t74 w =>
  gd t69 false (fun k => bi .neq .i64 t74 (Value.int IntKind.i64 0) w k) w fun t75 w =>
  pk t69 (Value.bool true) t75 w fun t76 w =>
  gd t76 false (fun k => k t9 w) w fun t78 w =>
  gd t76 false (fun k => bi .gtr .i64 t78 (Value.int IntKind.i64 0) w k) w fun t79 w =>
  gd t76 false (fun k => k t79 w) w fun t80 w =>
  gd t80 true (fun k => k t38 w) w fun t81 w =>
  gd t80 true (fun k => k t9 w) w fun t82 w =>
  gd t80 true (fun k => k t9 w) w fun t83 w =>
  gd t80 true (fun k => bi .sub .i64 t83 (Value.int IntKind.i64 1) w k) w fun t84 w =>
  gd t80 true (fun k => Cl prog 7 #[t81, t82, t84, (Value.bool true)] w k) w fun t85 w =>
  gd t80 true (fun k => bi .neq .i64 t85 (Value.int IntKind.i64 0) w k) w fun t86 w =>
  gd t76 false (fun k => pk t80 t86 (Value.bool false) w k) w fun t87 w =>
  pk t76 (Value.bool true) t87 w fun t88 w =>
  gd t88 false (fun k => k t38 w) w fun t90 w =>
  gd t88 false (fun k => k t9 w) w fun t91 w =>
  gd t88 false (fun k => k t10 w) w fun t92 w =>
  gd t88 false (fun k => Cl prog 8 #[t90, t91, t92] w k) w fun t93 w =>
  gd t88 false (fun k => bi .neq .i64 t93 (Value.int IntKind.i64 0) w k) w fun t94 w =>
  pk t88 (Value.bool true) t94 w fun t95 w =>
  iff' t95
  (K (Value.bool false) w)
  (bi .add .i64 t9 (Value.int IntKind.i64 1) w fun t51 w =>
  g2 [t65, t51] w)) fun k3 =>
  iff' t55
  (ixS 1 t0 t9 w fun t58 w =>
  ld1 t58 w fun t59 w =>
  cvI .i64 t59 w fun t60 w =>
  bi .add .i64 (Value.int IntKind.i64 1) t60 w fun t61 w =>
  k3 t61 w)
  (k3 (Value.int IntKind.i64 1) w))
  (lp [(Value.int IntKind.i64 1)] w (b1 fun t11 w g4 =>
  bi .lss .i64 t11 t25 w fun t98 w =>
  iff' t98
  (Cl prog 9 #[t38, t11] w fun t103 w =>
  bi .neq .i64 t103 (Value.int IntKind.i64 0) w fun t104 w =>
  iff' t104
  (K (Value.bool false) w)
  (bi .add .i64 t11 (Value.int IntKind.i64 1) w fun t100 w =>
  g4 [t100] w))
  (ixS 1 t8 (Value.int IntKind.i64 0) w fun t106 w =>
  ld1 t106 w fun t107 w =>
  Cl prog 10 #[t38, (Value.int IntKind.i64 0), (Value.int IntKind.i64 0), (Value.int IntKind.i64 1), t107, (Value.bool true)] w fun t111 w =>
  xt 0 t111 w fun _ w =>
  xt 1 t111 w fun t113 w =>
  bi .neq .i64 t113 (Value.int IntKind.i64 0) w fun t115 w =>
  iff' t115
  (K (Value.bool false) w)
  (lp [(Value.int IntKind.i64 0)] w (b1 fun t15 w g5 =>
  bi .lss .i64 t15 t25 w fun t118 w =>
  iff' t118
  (bi .eql .i64 t15 (Value.int IntKind.i64 0) w fun t122 w =>
  J1 (fun t16 w =>
  Cl prog 11 #[t38, t15, t16, (Value.int IntKind.i64 100000)] w fun t126 w =>
  bi .neq .i64 t126 (Value.int IntKind.i64 0) w fun t127 w =>
  iff' t127
  (K (Value.bool false) w)
  (bi .add .i64 t15 (Value.int IntKind.i64 1) w fun t120 w =>
  g5 [t120] w)) fun k6 =>
  iff' t122
  (k6 (Value.int IntKind.i64 1) w)
  (k6 (Value.int IntKind.i64 2) w))
  (lp [t107, (Value.int IntKind.i64 1)] w (b2 fun t12 t17 w g7 =>
  bi .lss .i64 t17 t25 w fun t130 w =>
  iff' t130
  (J1 (fun t12_1 w =>
  bi .add .i64 t17 (Value.int IntKind.i64 1) w fun t132 w =>
  g7 [t12_1, t132] w) fun k8 =>
  Cl prog 12 #[t38, t17] w fun t136 w =>
  xt 0 t136 w fun t137 w =>
  xt 1 t136 w fun t138 w =>
  al (zeroD prog 36) 36 w fun t18 w =>
  stN 4 t18 t137 w fun _ w =>
  bi .neq .i64 t138 (Value.int IntKind.i64 0) w fun t140 w =>
  gd t140 false (fun k => fld 2 t18 w k) w fun t142 w =>
  gd t140 false (fun k => ld1 t142 w k) w fun t143 w =>
  gd t140 false (fun k => bnot t143 w k) w fun t144 w =>
  pk t140 (Value.bool true) t144 w fun t145 w =>
  gd t145 false (fun k => fld 3 t18 w k) w fun t147 w =>
  gd t145 false (fun k => ld1 t147 w k) w fun t148 w =>
  gd t145 false (fun k => k t12 w) w fun t149 w =>
  gd t145 false (fun k => bi .neq .i64 t148 t149 w k) w fun t150 w =>
  pk t145 (Value.bool true) t150 w fun t151 w =>
  gd t151 false (fun k => fld 1 t18 w k) w fun t153 w =>
  gd t151 false (fun k => ld1 t153 w k) w fun t154 w =>
  gd t151 false (fun k => lnS t154 w k) w fun t155 w =>
  gd t151 false (fun k => bi .neq .i64 t155 (Value.int IntKind.i64 1) w k) w fun t156 w =>
  pk t151 (Value.bool true) t156 w fun t157 w =>
  gd t157 false (fun k => fld 1 t18 w k) w fun t159 w =>
  gd t157 false (fun k => ld1 t159 w k) w fun t160 w =>
  gd t157 false (fun k => ixS 6 t160 (Value.int IntKind.i64 0) w k) w fun t161 w =>
  gd t157 false (fun k => fld 5 t161 w k) w fun t162 w =>
  gd t157 false (fun k => ld1 t162 w k) w fun t163 w =>
  gd t157 false (fun k => k t17 w) w fun t164 w =>
  gd t157 false (fun k => bi .neq .i64 t163 t164 w k) w fun t165 w =>
  pk t157 (Value.bool true) t165 w fun t166 w =>
  iff' t166
  (K (Value.bool false) w)
  (bi .add .i64 t17 (Value.int IntKind.i64 1) w fun t168 w =>
  bi .lss .i64 t168 t25 w fun t170 w =>
  iff' t170
  (ixS 1 t8 t17 w fun t174 w =>
  ld1 t174 w fun t175 w =>
  bi .add .i64 t12 t175 w fun t176 w =>
  bi .add .i64 t17 (Value.int IntKind.i64 1) w fun t182 w =>
  Cl prog 10 #[t38, t17, t17, t182, t176, (Value.bool true)] w fun t184 w =>
  xt 0 t184 w fun _ w =>
  xt 1 t184 w fun t186 w =>
  bi .neq .i64 t186 (Value.int IntKind.i64 0) w fun t188 w =>
  gd t188 false (fun k => k t38 w) w fun t190 w =>
  gd t188 false (fun k => k t17 w) w fun t191 w =>
  gd t188 false (fun k => Cl prog 11 #[t190, t191, (Value.int IntKind.i64 2), (Value.int IntKind.i64 100000)] w k) w fun t192 w =>
  gd t188 false (fun k => bi .neq .i64 t192 (Value.int IntKind.i64 0) w k) w fun t193 w =>
  pk t188 (Value.bool true) t193 w fun t194 w =>
  iff' t194
  (K (Value.bool false) w)
  (k8 t176 w))
  (k8 t12 w)))
  (bi .sub .i64 t25 (Value.int IntKind.i64 1) w fun t197 w =>
  Cl prog 13 #[t38, t197] w fun t198 w =>
  bi .eql .i64 t198 t12 w fun t200 w =>
  K t200 w))))))))))))
theorem pacelinetop_TopLine_eq (t0 : Value) (w : World) (K : KV) : pacelinetop_TopLine t0 w K = fnW prog 201 [2] (match fn3.body with | some c => c | none => .skip) #[t0] w K := by kernel_rfl
theorem pacelinetop_TopLine_ok : fnOk prog 201 [2] (match fn3.body with | some c => c | none => .skip) = true := by kernel_rfl
theorem pacelinetop_TopLine_calls {t0 : Value} {w : World} {K : KV} (h : pacelinetop_TopLine t0 w K) : Cl prog 3 #[t0] w K :=
  Cl.mk (by kernel_rfl) (calls_of_F (fn := fn3) (nt := 201) (rs := [2]) mixed fnAt3 (by kernel_rfl) (by kernel_rfl) (by kernel_rfl) (Nat.le_of_ble_eq_true (by kernel_rfl)) pacelinetop_TopLine_ok (pacelinetop_TopLine_eq t0 w K) h)

/-- paceline/rti.New -/
def rti_New (t0 : Value) (w : World) (K : KV) : Prop :=
  Cl prog 14 #[t0] w fun t10 w =>
  xt 0 t10 w fun t11 w =>
  xt 1 t10 w fun t12 w =>
  bi .neq .i64 t12 (Value.int IntKind.i64 0) w fun t14 w =>
  iff' t14
  (K (Value.tuple #[(Value.pointer none), t12]) w)
  (Cl prog 15 #[t0] w fun t17 w =>
  bld (zeroD prog 55) #[(0, 1), (1, 1), (2, 80), (82, 1)] [(0, t17), (1, t11)] w fun t19 w =>
  al (Value.cells t19) 55 w fun t20 w =>
  lp [(Value.int IntKind.i64 0)] w (b1 fun t21 w g1 =>
  bi .lss .i64 t21 (Value.int IntKind.i64 8) w fun t22 w =>
  iff' t22
  (dr w fun w =>
  ncP t20 <|
  fld 2 t20 w fun t28 _ =>
  Cl prog 16 #[(Value.int IntKind.i64 64)] w fun t26 w =>
  ixA 8 10 t28 t21 w fun t29 _ =>
  fld 7 t29 w fun t30 _ =>
  stN 1 t30 t26 w fun _ w =>
  bi .add .i64 t21 (Value.int IntKind.i64 1) w fun t31 w =>
  g1 [t31] w)
  (K (Value.tuple #[t20, (Value.int IntKind.i64 0)]) w)))
theorem rti_New_eq (t0 : Value) (w : World) (K : KV) : rti_New t0 w K = fnW prog 33 [2, 3] (match fn4.body with | some c => c | none => .skip) #[t0] w K := by kernel_rfl
theorem rti_New_ok : fnOk prog 33 [2, 3] (match fn4.body with | some c => c | none => .skip) = true := by kernel_rfl
theorem rti_New_calls {t0 : Value} {w : World} {K : KV} (h : rti_New t0 w K) : Cl prog 4 #[t0] w K :=
  Cl.mk (by kernel_rfl) (calls_of_F (fn := fn4) (nt := 33) (rs := [2, 3]) mixed fnAt4 (by kernel_rfl) (by kernel_rfl) (by kernel_rfl) (Nat.le_of_ble_eq_true (by kernel_rfl)) rti_New_ok (rti_New_eq t0 w K) h)

/-- (*paceline/rti.Rti).Join -/
def rti_Rti_Join (t0 t1 : Value) (w : World) (K : KV) : Prop :=
  bi .lss .i64 t1 (Value.int IntKind.i64 0) w fun t7 w =>
  gd t7 false (fun k => k t1 w) w fun t9 w =>
  gd t7 false (fun k => bi .geq .i64 t9 (Value.int IntKind.i64 8) w k) w fun t10 w =>
  pk t7 (Value.bool true) t10 w fun t11 w =>
  iff' t11
  (K (Value.int IntKind.i64 1) w)
  (dr w fun w =>
  ncP t0 <|
  fld 82 t0 w fun t15 _ =>
  ld1 t15 w fun t16 _ =>
  bnot t16 w fun t17 _ =>
  ncP t0 <|
  fld 2 t0 w fun t22 _ =>
  ixA 8 10 t22 t1 w fun t23 _ =>
  fld 0 t23 w fun t24 _ =>
  ld1 t24 w fun t25 _ =>
  bnot t25 w fun t26 _ =>
  (bld (zeroD prog 61) #[(0, 1), (1, 1)] [(0, t17), (1, (Value.int IntKind.i64 212))] w fun t18 w =>
  (ld1 t24 w (fun v' w'' => v' = t25 ∧ w'' = w)) ∧ (bld (zeroD prog 61) #[(0, 1), (1, 1)] [(0, t26), (1, (Value.int IntKind.i64 200))] w fun t27 w =>
  (ld1 t15 w (fun v' w'' => v' = t16 ∧ w'' = w)) ∧ (bsl 61 2 2 (zeroD prog 61) [(0, t18), (1, t27)] w fun t28 w =>
  Cl prog 17 #[t1, t28] w fun t29 w =>
  bO prog .neq 58 (Operand.tmp 30) (Operand.const Value.nilIface) t29 Value.nilIface w fun t31 w =>
  iff' t31
  (Cl prog 18 #[t29] w fun t33 w =>
  K t33 w)
  (ncP t0 <|
  fld 2 t0 w fun t37 w =>
  ixA 8 10 t37 t1 w fun t38 w =>
  fld 0 t38 w fun t39 w =>
  stN 1 t39 (Value.bool true) w fun _ w =>
  K (Value.int IntKind.i64 0) w)))) ∧ (bld (zeroD prog 61) #[(0, 1), (1, 1)] [(0, t26), (1, (Value.int IntKind.i64 200))] w fun t27_1 w =>
  (ld1 t15 w (fun v' w'' => v' = t16 ∧ w'' = w)) ∧ (bld (zeroD prog 61) #[(0, 1), (1, 1)] [(0, t17), (1, (Value.int IntKind.i64 212))] w fun t18_1 w =>
  (ld1 t24 w (fun v' w'' => v' = t25 ∧ w'' = w)) ∧ (bsl 61 2 2 (zeroD prog 61) [(0, t18_1), (1, t27_1)] w fun t28_1 w =>
  Cl prog 17 #[t1, t28_1] w fun t29_1 w =>
  bO prog .neq 58 (Operand.tmp 30) (Operand.const Value.nilIface) t29_1 Value.nilIface w fun t31_1 w =>
  iff' t31_1
  (Cl prog 18 #[t29_1] w fun t33_1 w =>
  K t33_1 w)
  (ncP t0 <|
  fld 2 t0 w fun t37_1 w =>
  ixA 8 10 t37_1 t1 w fun t38_1 w =>
  fld 0 t38_1 w fun t39_1 w =>
  stN 1 t39_1 (Value.bool true) w fun _ w =>
  K (Value.int IntKind.i64 0) w)))))
theorem rti_Rti_Join_eq (t0 t1 : Value) (w : World) (K : KV) : rti_Rti_Join t0 t1 w K = fnW prog 40 [4] (match fn5.body with | some c => c | none => .skip) #[t0, t1] w K := by kernel_rfl
theorem rti_Rti_Join_ok : fnOk prog 40 [4] (match fn5.body with | some c => c | none => .skip) = true := by kernel_rfl
theorem rti_Rti_Join_calls {t0 t1 : Value} {w : World} {K : KV} (h : rti_Rti_Join t0 t1 w K) : Cl prog 5 #[t0, t1] w K :=
  Cl.mk (by kernel_rfl) (calls_of_F (fn := fn5) (nt := 40) (rs := [4]) mixed fnAt5 (by kernel_rfl) (by kernel_rfl) (by kernel_rfl) (Nat.le_of_ble_eq_true (by kernel_rfl)) rti_Rti_Join_ok (rti_Rti_Join_eq t0 t1 w K) h)

/-- (*paceline/rti.Rti).Publish -/
def rti_Rti_Publish (t0 t1 t2 t3 : Value) (w : World) (K : KV) : Prop :=
  Cl prog 19 #[t0, t1] w fun t12 w =>
  bO prog .neq 58 (Operand.tmp 13) (Operand.const Value.nilIface) t12 Value.nilIface w fun t14 w =>
  iff' t14
  (Cl prog 18 #[t12] w fun t16 w =>
  K t16 w)
  (ncP t0 <|
  fld 1 t0 w fun t19 w =>
  ld1 t19 w fun t20 w =>
  Cl prog 20 #[t20, t1, t2, t3] w fun t24 w =>
  K t24 w)
theorem rti_Rti_Publish_eq (t0 t1 t2 t3 : Value) (w : World) (K : KV) : rti_Rti_Publish t0 t1 t2 t3 w K = fnW prog 25 [8] (match fn6.body with | some c => c | none => .skip) #[t0, t1, t2, t3] w K := by kernel_rfl
theorem rti_Rti_Publish_ok : fnOk prog 25 [8] (match fn6.body with | some c => c | none => .skip) = true := by kernel_rfl
theorem rti_Rti_Publish_calls {t0 t1 t2 t3 : Value} {w : World} {K : KV} (h : rti_Rti_Publish t0 t1 t2 t3 w K) : Cl prog 6 #[t0, t1, t2, t3] w K :=
  Cl.mk (by kernel_rfl) (calls_of_F (fn := fn6) (nt := 25) (rs := [8]) mixed fnAt6 (by kernel_rfl) (by kernel_rfl) (by kernel_rfl) (Nat.le_of_ble_eq_true (by kernel_rfl)) rti_Rti_Publish_ok (rti_Rti_Publish_eq t0 t1 t2 t3 w K) h)

/-- (*paceline/rti.Rti).Subscribe -/
def rti_Rti_Subscribe (t0 t1 t2 t3 : Value) (w : World) (K : KV) : Prop :=
  Cl prog 19 #[t0, t1] w fun t12 w =>
  bO prog .neq 58 (Operand.tmp 13) (Operand.const Value.nilIface) t12 Value.nilIface w fun t14 w =>
  iff' t14
  (Cl prog 18 #[t12] w fun t16 w =>
  K t16 w)
  (Cl prog 21 #[t0, t1, t2, t3] w fun t21 w =>
  K t21 w)
theorem rti_Rti_Subscribe_eq (t0 t1 t2 t3 : Value) (w : World) (K : KV) : rti_Rti_Subscribe t0 t1 t2 t3 w K = fnW prog 22 [8] (match fn7.body with | some c => c | none => .skip) #[t0, t1, t2, t3] w K := by kernel_rfl
theorem rti_Rti_Subscribe_ok : fnOk prog 22 [8] (match fn7.body with | some c => c | none => .skip) = true := by kernel_rfl
theorem rti_Rti_Subscribe_calls {t0 t1 t2 t3 : Value} {w : World} {K : KV} (h : rti_Rti_Subscribe t0 t1 t2 t3 w K) : Cl prog 7 #[t0, t1, t2, t3] w K :=
  Cl.mk (by kernel_rfl) (calls_of_F (fn := fn7) (nt := 22) (rs := [8]) mixed fnAt7 (by kernel_rfl) (by kernel_rfl) (by kernel_rfl) (Nat.le_of_ble_eq_true (by kernel_rfl)) rti_Rti_Subscribe_ok (rti_Rti_Subscribe_eq t0 t1 t2 t3 w K) h)

/-- (*paceline/rti.Rti).Regulate -/
def rti_Rti_Regulate (t0 t1 t2 : Value) (w : World) (K : KV) : Prop :=
  Cl prog 19 #[t0, t1] w fun t15 w =>
  bO prog .neq 58 (Operand.tmp 16) (Operand.const Value.nilIface) t15 Value.nilIface w fun t17 w =>
  iff' t17
  (Cl prog 18 #[t15] w fun t19 w =>
  K t19 w)
  (ncP t0 <|
  fld 2 t0 w fun t23 w =>
  ixA 8 10 t23 t1 w fun t24 w =>
  ncP t0 <|
  fld 2 t0 w fun t27 w =>
  ldN 80 t27 w fun t28 w =>
  lp [(Value.bool false), (Value.int IntKind.i64 0)] w (b2 fun t9 t29 w g1 =>
  bi .lss .i64 t29 (Value.int IntKind.i64 8) w fun t30 w =>
  iff' t30
  (ixV prog 53 t28 t29 w fun t32 w =>
  al (zeroD prog 52) 52 w fun t11 w =>
  stN 10 t11 t32 w fun _ w =>
  dr w fun w =>
  gd t9 false (fun k => k t29 w) w fun t35 _ =>
  gd t9 false (fun k => k t1 w) w fun t36 _ =>
  gd t9 false (fun k => bi .neq .i64 t35 t36 w k) w fun t37 _ =>
  gd t9 false (fun k => k t37 w) w fun t38 _ =>
  gd t38 true (fun k => fld 1 t11 w k) w fun t39 _ =>
  gd t38 true (fun k => ld1 t39 w k) w fun t40 _ =>
  gd t9 false (fun k => pk t38 t40 (Value.bool false) w k) w fun t41 _ =>
  gd t9 false (fun k => k t41 w) w fun t42 _ =>
  gd t42 true (fun k => k t24 w) w fun t43 _ =>
  gd t42 true (fun k => nc t43 w k) w fun t44 _ =>
  gd t42 true (fun k => fld 2 t44 w k) w fun t45 _ =>
  gd t42 true (fun k => ld1 t45 w k) w fun t46 _ =>
  gd t42 true (fun k => k t2 w) w fun t47 _ =>
  gd t42 true (fun k => fld 2 t11 w k) w fun t49 _ =>
  gd t42 true (fun k => ld1 t49 w k) w fun t50 _ =>
  gd t42 true (fun k => Cl prog 22 #[t46, t47] w k) w fun t48 w =>
  (gd t42 true (fun k => ld1 t49 w k) w (fun v' w'' => v' = t50 ∧ w'' = w)) ∧ (gd t42 true (fun k => bi .leq .i64 t48 t50 w k) w fun t51 _ =>
  gd t9 false (fun k => pk t42 t51 (Value.bool false) w k) w fun t52 _ =>
  pk t9 (Value.bool true) t52 w fun t53 _ =>
  bi .add .i64 t29 (Value.int IntKind.i64 1) w fun t54 w =>
  g1 [t53, t54] w))
  (dr w fun w =>
  ncP t24 <|
  fld 3 t24 w fun t58 _ =>
  ld1 t58 w fun t59 _ =>
  bi .eql .i64 t59 (Value.int IntKind.i64 0) w fun t60 _ =>
  ncP t24 <|
  fld 4 t24 w fun t64 _ =>
  ld1 t64 w fun t65 _ =>
  bi .eql .i64 t65 (Value.int IntKind.i64 0) w fun t66 _ =>
  bi .geq .i64 t2 (Value.int IntKind.i64 1) w fun t69 _ =>
  gd t69 true (fun k => k t2 w) w fun t71 _ =>
  gd t69 true (fun k => bi .leq .i64 t71 (Value.int IntKind.i64 1048576) w k) w fun t72 _ =>
  pk t69 t72 (Value.bool false) w fun t73 _ =>
  bnot t9 w fun t76 _ =>
  (bld (zeroD prog 61) #[(0, 1), (1, 1)] [(0, t60), (1, (Value.int IntKind.i64 202))] w fun t61 w =>
  (ld1 t64 w (fun v' w'' => v' = t65 ∧ w'' = w)) ∧ ((bld (zeroD prog 61) #[(0, 1), (1, 1)] [(0, t66), (1, (Value.int IntKind.i64 206))] w fun t67 w =>
  (ld1 t58 w (fun v' w'' => v' = t59 ∧ w'' = w)) ∧ ((bld (zeroD prog 61) #[(0, 1), (1, 1)] [(0, t73), (1, (Value.int IntKind.i64 80))] w fun t74 w =>
  (ld1 t64 w (fun v' w'' => v' = t65 ∧ w'' = w)) ∧ ((ld1 t58 w (fun v' w'' => v' = t59 ∧ w'' = w)) ∧ (bld (zeroD prog 61) #[(0, 1), (1, 1)] [(0, t76), (1, (Value.int IntKind.i64 207))] w fun t77 w =>
  (ld1 t64 w (fun v' w'' => v' = t65 ∧ w'' = w)) ∧ ((ld1 t58 w (fun v' w'' => v' = t59 ∧ w'' = w)) ∧ (bsl 61 2 4 (zeroD prog 61) [(0, t61), (1, t67), (2, t74), (3, t77)] w fun t78 w =>
  Cl prog 17 #[t1, t78] w fun t79 w =>
  bO prog .neq 58 (Operand.tmp 80) (Operand.const Value.nilIface) t79 Value.nilIface w fun t81 w =>
  iff' t81
  (Cl prog 18 #[t79] w fun t83 w =>
  K t83 w)
  (ncP t24 <|
  fld 3 t24 w fun t87 w =>
  stN 1 t87 t2 w fun _ w =>
  K (Value.int IntKind.i64 0) w)))))) ∧ (bld (zeroD prog 61) #[(0, 1), (1, 1)] [(0, t76), (1, (Value.int IntKind.i64 207))] w fun t77_1 w =>
  (ld1 t64 w (fun v' w'' => v' = t65 ∧ w'' = w)) ∧ ((ld1 t58 w (fun v' w'' => v' = t59 ∧ w'' = w)) ∧ (bld (zeroD prog 61) #[(0, 1), (1, 1)] [(0, t73), (1, (Value.int IntKind.i64 80))] w fun t74_1 w =>
  (ld1 t64 w (fun v' w'' => v' = t65 ∧ w'' = w)) ∧ ((ld1 t58 w (fun v' w'' => v' = t59 ∧ w'' = w)) ∧ (bsl 61 2 4 (zeroD prog 61) [(0, t61), (1, t67), (2, t74_1), (3, t77_1)] w fun t78_1 w =>
  Cl prog 17 #[t1, t78_1] w fun t79_1 w =>
  bO prog .neq 58 (Operand.tmp 80) (Operand.const Value.nilIface) t79_1 Value.nilIface w fun t81_1 w =>
  iff' t81_1
  (Cl prog 18 #[t79_1] w fun t83_1 w =>
  K t83_1 w)
  (ncP t24 <|
  fld 3 t24 w fun t87_1 w =>
  stN 1 t87_1 t2 w fun _ w =>
  K (Value.int IntKind.i64 0) w)))))))) ∧ ((bld (zeroD prog 61) #[(0, 1), (1, 1)] [(0, t73), (1, (Value.int IntKind.i64 80))] w fun t74_2 w =>
  (ld1 t64 w (fun v' w'' => v' = t65 ∧ w'' = w)) ∧ ((ld1 t58 w (fun v' w'' => v' = t59 ∧ w'' = w)) ∧ ((bld (zeroD prog 61) #[(0, 1), (1, 1)] [(0, t66), (1, (Value.int IntKind.i64 206))] w fun t67_1 w =>
  (ld1 t58 w (fun v' w'' => v' = t59 ∧ w'' = w)) ∧ (bld (zeroD prog 61) #[(0, 1), (1, 1)] [(0, t76), (1, (Value.int IntKind.i64 207))] w fun t77_2 w =>
  (ld1 t64 w (fun v' w'' => v' = t65 ∧ w'' = w)) ∧ ((ld1 t58 w (fun v' w'' => v' = t59 ∧ w'' = w)) ∧ (bsl 61 2 4 (zeroD prog 61) [(0, t61), (1, t67_1), (2, t74_2), (3, t77_2)] w fun t78_2 w =>
  Cl prog 17 #[t1, t78_2] w fun t79_2 w =>
  bO prog .neq 58 (Operand.tmp 80) (Operand.const Value.nilIface) t79_2 Value.nilIface w fun t81_2 w =>
  iff' t81_2
  (Cl prog 18 #[t79_2] w fun t83_2 w =>
  K t83_2 w)
  (ncP t24 <|
  fld 3 t24 w fun t87_2 w =>
  stN 1 t87_2 t2 w fun _ w =>
  K (Value.int IntKind.i64 0) w))))) ∧ (bld (zeroD prog 61) #[(0, 1), (1, 1)] [(0, t76), (1, (Value.int IntKind.i64 207))] w fun t77_3 w =>
  (ld1 t64 w (fun v' w'' => v' = t65 ∧ w'' = w)) ∧ ((ld1 t58 w (fun v' w'' => v' = t59 ∧ w'' = w)) ∧ (bld (zeroD prog 61) #[(0, 1), (1, 1)] [(0, t66), (1, (Value.int IntKind.i64 206))] w fun t67_2 w =>
  (ld1 t58 w (fun v' w'' => v' = t59 ∧ w'' = w)) ∧ (bsl 61 2 4 (zeroD prog 61) [(0, t61), (1, t67_2), (2, t74_2), (3, t77_3)] w fun t78_3 w =>
  Cl prog 17 #[t1, t78_3] w fun t79_3 w =>
  bO prog .neq 58 (Operand.tmp 80) (Operand.const Value.nilIface) t79_3 Value.nilIface w fun t81_3 w =>
  iff' t81_3
  (Cl prog 18 #[t79_3] w fun t83_3 w =>
  K t83_3 w)
  (ncP t24 <|
  fld 3 t24 w fun t87_3 w =>
  stN 1 t87_3 t2 w fun _ w =>
  K (Value.int IntKind.i64 0) w)))))))) ∧ (bld (zeroD prog 61) #[(0, 1), (1, 1)] [(0, t76), (1, (Value.int IntKind.i64 207))] w fun t77_4 w =>
  (ld1 t64 w (fun v' w'' => v' = t65 ∧ w'' = w)) ∧ ((ld1 t58 w (fun v' w'' => v' = t59 ∧ w'' = w)) ∧ ((bld (zeroD prog 61) #[(0, 1), (1, 1)] [(0, t66), (1, (Value.int IntKind.i64 206))] w fun t67_3 w =>
  (ld1 t58 w (fun v' w'' => v' = t59 ∧ w'' = w)) ∧ (bld (zeroD prog 61) #[(0, 1), (1, 1)] [(0, t73), (1, (Value.int IntKind.i64 80))] w fun t74_3 w =>
  (ld1 t64 w (fun v' w'' => v' = t65 ∧ w'' = w)) ∧ ((ld1 t58 w (fun v' w'' => v' = t59 ∧ w'' = w)) ∧ (bsl 61 2 4 (zeroD prog 61) [(0, t61), (1, t67_3), (2, t74_3), (3, t77_4)] w fun t78_4 w =>
  Cl prog 17 #[t1, t78_4] w fun t79_4 w =>
  bO prog .neq 58 (Operand.tmp 80) (Operand.const Value.nilIface) t79_4 Value.nilIface w fun t81_4 w =>
  iff' t81_4
  (Cl prog 18 #[t79_4] w fun t83_4 w =>
  K t83_4 w)
  (ncP t24 <|
  fld 3 t24 w fun t87_4 w =>
  stN 1 t87_4 t2 w fun _ w =>
  K (Value.int IntKind.i64 0) w))))) ∧ (bld (zeroD prog 61) #[(0, 1), (1, 1)] [(0, t73), (1, (Value.int IntKind.i64 80))] w fun t74_4 w =>
  (ld1 t64 w (fun v' w'' => v' = t65 ∧ w'' = w)) ∧ ((ld1 t58 w (fun v' w'' => v' = t59 ∧ w'' = w)) ∧ (bld (zeroD prog 61) #[(0, 1), (1, 1)] [(0, t66), (1, (Value.int IntKind.i64 206))] w fun t67_4 w =>
  (ld1 t58 w (fun v' w'' => v' = t59 ∧ w'' = w)) ∧ (bsl 61 2 4 (zeroD prog 61) [(0, t61), (1, t67_4), (2, t74_4), (3, t77_4)] w fun t78_5 w =>
  Cl prog 17 #[t1, t78_5] w fun t79_5 w =>
  bO prog .neq 58 (Operand.tmp 80) (Operand.const Value.nilIface) t79_5 Value.nilIface w fun t81_5 w =>
  iff' t81_5
  (Cl prog 18 #[t79_5] w fun t83_5 w =>
  K t83_5 w)
  (ncP t24 <|
  fld 3 t24 w fun t87_5 w =>
  stN 1 t87_5 t2 w fun _ w =>
  K (Value.int IntKind.i64 0) w))))))))))) ∧ ((bld (zeroD prog 61) #[(0, 1), (1, 1)] [(0, t66), (1, (Value.int IntKind.i64 206))] w fun t67_5 w =>
  (ld1 t58 w (fun v' w'' => v' = t59 ∧ w'' = w)) ∧ ((bld (zeroD prog 61) #[(0, 1), (1, 1)] [(0, t60), (1, (Value.int IntKind.i64 202))] w fun t61_1 w =>
  (ld1 t64 w (fun v' w'' => v' = t65 ∧ w'' = w)) ∧ ((bld (zeroD prog 61) #[(0, 1), (1, 1)] [(0, t73), (1, (Value.int IntKind.i64 80))] w fun t74_5 w =>
  (ld1 t64 w (fun v' w'' => v' = t65 ∧ w'' = w)) ∧ ((ld1 t58 w (fun v' w'' => v' = t59 ∧ w'' = w)) ∧ (bld (zeroD prog 61) #[(0, 1), (1, 1)] [(0, t76), (1, (Value.int IntKind.i64 207))] w fun t77_5 w =>
  (ld1 t64 w (fun v' w'' => v' = t65 ∧ w'' = w)) ∧ ((ld1 t58 w (fun v' w'' => v' = t59 ∧ w'' = w)) ∧ (bsl 61 2 4 (zeroD prog 61) [(0, t61_1), (1, t67_5), (2, t74_5), (3, t77_5)] w fun t78_6 w =>
  Cl prog 17 #[t1, t78_6] w fun t79_6 w =>
  bO prog .neq 58 (Operand.tmp 80) (Operand.const Value.nilIface) t79_6 Value.nilIface w fun t81_6 w =>
  iff' t81_6
  (Cl prog 18 #[t79_6] w fun t83_6 w =>
  K t83_6 w)
  (ncP t24 <|
  fld 3 t24 w fun t87_6 w =>
  stN 1 t87_6 t2 w fun _ w =>
  K (Value.int IntKind.i64 0) w)))))) ∧ (bld (zeroD prog 61) #[(0, 1), (1, 1)] [(0, t76), (1, (Value.int IntKind.i64 207))] w fun t77_6 w =>
  (ld1 t64 w (fun v' w'' => v' = t65 ∧ w'' = w)) ∧ ((ld1 t58 w (fun v' w'' => v' = t59 ∧ w'' = w)) ∧ (bld (zeroD prog 61) #[(0, 1), (1, 1)] [(0, t73), (1, (Value.int IntKind.i64 80))] w fun t74_6 w =>
  (ld1 t64 w (fun v' w'' => v' = t65 ∧ w'' = w)) ∧ ((ld1 t58 w (fun v' w'' => v' = t59 ∧ w'' = w)) ∧ (bsl 61 2 4 (zeroD prog 61) [(0, t61_1), (1, t67_5), (2, t74_6), (3, t77_6)] w fun t78_7 w =>
  Cl prog 17 #[t1, t78_7] w fun t79_7 w =>
  bO prog .neq 58 (Operand.tmp 80) (Operand.const Value.nilIface) t79_7 Value.nilIface w fun t81_7 w =>
  iff' t81_7
  (Cl prog 18 #[t79_7] w fun t83_7 w =>
  K t83_7 w)
  (ncP t24 <|
  fld 3 t24 w fun t87_7 w =>
  stN 1 t87_7 t2 w fun _ w =>
  K (Value.int IntKind.i64 0) w)))))))) ∧ ((bld (zeroD prog 61) #[(0, 1), (1, 1)] [(0, t73), (1, (Value.int IntKind.i64 80))] w fun t74_7 w =>
  (ld1 t64 w (fun v' w'' => v' = t65 ∧ w'' = w)) ∧ ((ld1 t58 w (fun v' w'' => v' = t59 ∧ w'' = w)) ∧ ((bld (zeroD prog 61) #[(0, 1), (1, 1)] [(0, t60), (1, (Value.int IntKind.i64 202))] w fun t61_2 w =>
  (ld1 t64 w (fun v' w'' => v' = t65 ∧ w'' = w)) ∧ (bld (zeroD prog 61) #[(0, 1), (1, 1)] [(0, t76), (1, (Value.int IntKind.i64 207))] w fun t77_7 w =>
  (ld1 t64 w (fun v' w'' => v' = t65 ∧ w'' = w)) ∧ ((ld1 t58 w (fun v' w'' => v' = t59 ∧ w'' = w)) ∧ (bsl 61 2 4 (zeroD prog 61) [(0, t61_2), (1, t67_5), (2, t74_7), (3, t77_7)] w fun t78_8 w =>
  Cl prog 17 #[t1, t78_8] w fun t79_8 w =>
  bO prog .neq 58 (Operand.tmp 80) (Operand.const Value.nilIface) t79_8 Value.nilIface w fun t81_8 w =>
  iff' t81_8
  (Cl prog 18 #[t79_8] w fun t83_8 w =>
  K t83_8 w)
  (ncP t24 <|
  fld 3 t24 w fun t87_8 w =>
  stN 1 t87_8 t2 w fun _ w =>
  K (Value.int IntKind.i64 0) w))))) ∧ (bld (zeroD prog 61) #[(0, 1), (1, 1)] [(0, t76), (1, (Value.int IntKind.i64 207))] w fun t77_8 w =>
  (ld1 t64 w (fun v' w'' => v' = t65 ∧ w'' = w)) ∧ ((ld1 t58 w (fun v' w'' => v' = t59 ∧ w'' = w)) ∧ (bld (zeroD prog 61) #[(0, 1), (1, 1)] [(0, t60), (1, (Value.int IntKind.i64 202))] w fun t61_3 w =>
  (ld1 t64 w (fun v' w'' => v' = t65 ∧ w'' = w)) ∧ (bsl 61 2 4 (zeroD prog 61) [(0, t61_3), (1, t67_5), (2, t74_7), (3, t77_8)] w fun t78_9 w =>
  Cl prog 17 #[t1, t78_9] w fun t79_9 w =>
  bO prog .neq 58 (Operand.tmp 80) (Operand.const Value.nilIface) t79_9 Value.nilIface w fun t81_9 w =>
  iff' t81_9
  (Cl prog 18 #[t79_9] w fun t83_9 w =>
  K t83_9 w)
  (ncP t24 <|
  fld 3 t24 w fun t87_9 w =>
  stN 1 t87_9 t2 w fun _ w =>
  K (Value.int IntKind.i64 0) w)))))))) ∧ (bld (zeroD prog 61) #[(0, 1), (1, 1)] [(0, t76), (1, (Value.int IntKind.i64 207))] w fun t77_9 w =>
  (ld1 t64 w (fun v' w'' => v' = t65 ∧ w'' = w)) ∧ ((ld1 t58 w (fun v' w'' => v' = t59 ∧ w'' = w)) ∧ ((bld (zeroD prog 61) #[(0, 1), (1, 1)] [(0, t60), (1, (Value.int IntKind.i64 202))] w fun t61_4 w =>
  (ld1 t64 w (fun v' w'' => v' = t65 ∧ w'' = w)) ∧ (bld (zeroD prog 61) #[(0, 1), (1, 1)] [(0, t73), (1, (Value.int IntKind.i64 80))] w fun t74_8 w =>
  (ld1 t64 w (fun v' w'' => v' = t65 ∧ w'' = w)) ∧ ((ld1 t58 w (fun v' w'' => v' = t59 ∧ w'' = w)) ∧ (bsl 61 2 4 (zeroD prog 61) [(0, t61_4), (1, t67_5), (2, t74_8), (3, t77_9)] w fun t78_10 w =>
  Cl prog 17 #[t1, t78_10] w fun t79_10 w =>
  bO prog .neq 58 (Operand.tmp 80) (Operand.const Value.nilIface) t79_10 Value.nilIface w fun t81_10 w =>
  iff' t81_10
  (Cl prog 18 #[t79_10] w fun t83_10 w =>
  K t83_10 w)
  (ncP t24 <|
  fld 3 t24 w fun t87_10 w =>
  stN 1 t87_10 t2 w fun _ w =>
  K (Value.int IntKind.i64 0) w))))) ∧ (bld (zeroD prog 61) #[(0, 1), (1, 1)] [(0, t73), (1, (Value.int IntKind.i64 80))] w fun t74_9 w =>
  (ld1 t64 w (fun v' w'' => v' = t65 ∧ w'' = w)) ∧ ((ld1 t58 w (fun v' w'' => v' = t59 ∧ w'' = w)) ∧ (bld (zeroD prog 61) #[(0, 1), (1, 1)] [(0, t60), (1, (Value.int IntKind.i64 202))] w fun t61_5 w =>
  (ld1 t64 w (fun v' w'' => v' = t65 ∧ w'' = w)) ∧ (bsl 61 2 4 (zeroD prog 61) [(0, t61_5), (1, t67_5), (2, t74_9), (3, t77_9)] w fun t78_11 w =>
  Cl prog 17 #[t1, t78_11] w fun t79_11 w =>
  bO prog .neq 58 (Operand.tmp 80) (Operand.const Value.nilIface) t79_11 Value.nilIface w fun t81_11 w =>
  iff' t81_11
  (Cl prog 18 #[t79_11] w fun t83_11 w =>
  K t83_11 w)
  (ncP t24 <|
  fld 3 t24 w fun t87_11 w =>
  stN 1 t87_11 t2 w fun _ w =>
  K (Value.int IntKind.i64 0) w))))))))))) ∧ ((bld (zeroD prog 61) #[(0, 1), (1, 1)] [(0, t73), (1, (Value.int IntKind.i64 80))] w fun t74_10 w =>
  (ld1 t64 w (fun v' w'' => v' = t65 ∧ w'' = w)) ∧ ((ld1 t58 w (fun v' w'' => v' = t59 ∧ w'' = w)) ∧ ((bld (zeroD prog 61) #[(0, 1), (1, 1)] [(0, t60), (1, (Value.int IntKind.i64 202))] w fun t61_6 w =>
  (ld1 t64 w (fun v' w'' => v' = t65 ∧ w'' = w)) ∧ ((bld (zeroD prog 61) #[(0, 1), (1, 1)] [(0, t66), (1, (Value.int IntKind.i64 206))] w fun t67_6 w =>
  (ld1 t58 w (fun v' w'' => v' = t59 ∧ w'' = w)) ∧ (bld (zeroD prog 61) #[(0, 1), (1, 1)] [(0, t76), (1, (Value.int IntKind.i64 207))] w fun t77_10 w =>
  (ld1 t64 w (fun v' w'' => v' = t65 ∧ w'' = w)) ∧ ((ld1 t58 w (fun v' w'' => v' = t59 ∧ w'' = w)) ∧ (bsl 61 2 4 (zeroD prog 61) [(0, t61_6), (1, t67_6), (2, t74_10), (3, t77_10)] w fun t78_12 w =>
  Cl prog 17 #[t1, t78_12] w fun t79_12 w =>
  bO prog .neq 58 (Operand.tmp 80) (Operand.const Value.nilIface) t79_12 Value.nilIface w fun t81_12 w =>
  iff' t81_12
  (Cl prog 18 #[t79_12] w fun t83_12 w =>
  K t83_12 w)
  (ncP t24 <|
  fld 3 t24 w fun t87_12 w =>
  stN 1 t87_12 t2 w fun _ w =>
  K (Value.int IntKind.i64 0) w))))) ∧ (bld (zeroD prog 61) #[(0, 1), (1, 1)] [(0, t76), (1, (Value.int IntKind.i64 207))] w fun t77_11 w =>
  (ld1 t64 w (fun v' w'' => v' = t65 ∧ w'' = w)) ∧ ((ld1 t58 w (fun v' w'' => v' = t59 ∧ w'' = w)) ∧ (bld (zeroD prog 61) #[(0, 1), (1, 1)] [(0, t66), (1, (Value.int IntKind.i64 206))] w fun t67_7 w =>
  (ld1 t58 w (fun v' w'' => v' = t59 ∧ w'' = w)) ∧ (bsl 61 2 4 (zeroD prog 61) [(0, t61_6), (1, t67_7), (2, t74_10), (3, t77_11)] w fun t78_13 w =>
  Cl prog 17 #[t1, t78_13] w fun t79_13 w =>
  bO prog .neq 58 (Operand.tmp 80) (Operand.const Value.nilIface) t79_13 Value.nilIface w fun t81_13 w =>
  iff' t81_13
  (Cl prog 18 #[t79_13] w fun t83_13 w =>
  K t83_13 w)
  (ncP t24 <|
  fld 3 t24 w fun t87_13 w =>
  stN 1 t87_13 t2 w fun _ w =>
  K (Value.int IntKind.i64 0) w))))))) ∧ ((bld (zeroD prog 61) #[(0, 1), (1, 1)] [(0, t66), (1, (Value.int IntKind.i64 206))] w fun t67_8 w =>
  (ld1 t58 w (fun v' w'' => v' = t59 ∧ w'' = w)) ∧ ((bld (zeroD prog 61) #[(0, 1), (1, 1)] [(0, t60), (1, (Value.int IntKind.i64 202))] w fun t61_7 w =>
  (ld1 t64 w (fun v' w'' => v' = t65 ∧ w'' = w)) ∧ (bld (zeroD prog 61) #[(0, 1), (1, 1)] [(0, t76), (1, (Value.int IntKind.i64 207))] w fun t77_12 w =>
  (ld1 t64 w (fun v' w'' => v' = t65 ∧ w'' = w)) ∧ ((ld1 t58 w (fun v' w'' => v' = t59 ∧ w'' = w)) ∧ (bsl 61 2 4 (zeroD prog 61) [(0, t61_7), (1, t67_8), (2, t74_10), (3, t77_12)] w fun t78_14 w =>
  Cl prog 17 #[t1, t78_14] w fun t79_14 w =>
  bO prog .neq 58 (Operand.tmp 80) (Operand.const Value.nilIface) t79_14 Value.nilIface w fun t81_14 w =>
  iff' t81_14
  (Cl prog 18 #[t79_14] w fun t83_14 w =>
  K t83_14 w)
  (ncP t24 <|
  fld 3 t24 w fun t87_14 w =>
  stN 1 t87_14 t2 w fun _ w =>
  K (Value.int IntKind.i64 0) w))))) ∧ (bld (zeroD prog 61) #[(0, 1), (1, 1)] [(0, t76), (1, (Value.int IntKind.i64 207))] w fun t77_13 w =>
  (ld1 t64 w (fun v' w'' => v' = t65 ∧ w'' = w)) ∧ ((ld1 t58 w (fun v' w'' => v' = t59 ∧ w'' = w)) ∧ (bld (zeroD prog 61) #[(0, 1), (1, 1)] [(0, t60), (1, (Value.int IntKind.i64 202))] w fun t61_8 w =>
  (ld1 t64 w (fun v' w'' => v' = t65 ∧ w'' = w)) ∧ (bsl 61 2 4 (zeroD prog 61) [(0, t61_8), (1, t67_8), (2, t74_10), (3, t77_13)] w fun t78_15 w =>
  Cl prog 17 #[t1, t78_15] w fun t79_15 w =>
  bO prog .neq 58 (Operand.tmp 80) (Operand.const Value.nilIface) t79_15 Value.nilIface w fun t81_15 w =>
  iff' t81_15
  (Cl prog 18 #[t79_15] w fun t83_15 w =>
  K t83_15 w)
  (ncP t24 <|
  fld 3 t24 w fun t87_15 w =>
  stN 1 t87_15 t2 w fun _ w =>
  K (Value.int IntKind.i64 0) w))))))) ∧ (bld (zeroD prog 61) #[(0, 1), (1, 1)] [(0, t76), (1, (Value.int IntKind.i64 207))] w fun t77_14 w =>
  (ld1 t64 w (fun v' w'' => v' = t65 ∧ w'' = w)) ∧ ((ld1 t58 w (fun v' w'' => v' = t59 ∧ w'' = w)) ∧ ((bld (zeroD prog 61) #[(0, 1), (1, 1)] [(0, t60), (1, (Value.int IntKind.i64 202))] w fun t61_9 w =>
  (ld1 t64 w (fun v' w'' => v' = t65 ∧ w'' = w)) ∧ (bld (zeroD prog 61) #[(0, 1), (1, 1)] [(0, t66), (1, (Value.int IntKind.i64 206))] w fun t67_9 w =>
  (ld1 t58 w (fun v' w'' => v' = t59 ∧ w'' = w)) ∧ (bsl 61 2 4 (zeroD prog 61) [(0, t61_9), (1, t67_9), (2, t74_10), (3, t77_14)] w fun t78_16 w =>
  Cl prog 17 #[t1, t78_16] w fun t79_16 w =>
  bO prog .neq 58 (Operand.tmp 80) (Operand.const Value.nilIface) t79_16 Value.nilIface w fun t81_16 w =>
  iff' t81_16
  (Cl prog 18 #[t79_16] w fun t83_16 w =>
  K t83_16 w)
  (ncP t24 <|
  fld 3 t24 w fun t87_16 w =>
  stN 1 t87_16 t2 w fun _ w =>
  K (Value.int IntKind.i64 0) w)))) ∧ (bld (zeroD prog 61) #[(0, 1), (1, 1)] [(0, t66), (1, (Value.int IntKind.i64 206))] w fun t67_10 w =>
  (ld1 t58 w (fun v' w'' => v' = t59 ∧ w'' = w)) ∧ (bld (zeroD prog 61) #[(0, 1), (1, 1)] [(0, t60), (1, (Value.int IntKind.i64 202))] w fun t61_10 w =>
  (ld1 t64 w (fun v' w'' => v' = t65 ∧ w'' = w)) ∧ (bsl 61 2 4 (zeroD prog 61) [(0, t61_10), (1, t67_10), (2, t74_10), (3, t77_14)] w fun t78_17 w =>
  Cl prog 17 #[t1, t78_17] w fun t79_17 w =>
  bO prog .neq 58 (Operand.tmp 80) (Operand.const Value.nilIface) t79_17 Value.nilIface w fun t81_17 w =>
  iff' t81_17
  (Cl prog 18 #[t79_17] w fun t83_17 w =>
  K t83_17 w)
  (ncP t24 <|
  fld 3 t24 w fun t87_17 w =>
  stN 1 t87_17 t2 w fun _ w =>
  K (Value.int IntKind.i64 0) w))))))))))) ∧ (bld (zeroD prog 61) #[(0, 1), (1, 1)] [(0, t76), (1, (Value.int IntKind.i64 207))] w fun t77_15 w =>
  (ld1 t64 w (fun v' w'' => v' = t65 ∧ w'' = w)) ∧ ((ld1 t58 w (fun v' w'' => v' = t59 ∧ w'' = w)) ∧ ((bld (zeroD prog 61) #[(0, 1), (1, 1)] [(0, t60), (1, (Value.int IntKind.i64 202))] w fun t61_11 w =>
  (ld1 t64 w (fun v' w'' => v' = t65 ∧ w'' = w)) ∧ ((bld (zeroD prog 61) #[(0, 1), (1, 1)] [(0, t66), (1, (Value.int IntKind.i64 206))] w fun t67_11 w =>
  (ld1 t58 w (fun v' w'' => v' = t59 ∧ w'' = w)) ∧ (bld (zeroD prog 61) #[(0, 1), (1, 1)] [(0, t73), (1, (Value.int IntKind.i64 80))] w fun t74_11 w =>
  (ld1 t64 w (fun v' w'' => v' = t65 ∧ w'' = w)) ∧ ((ld1 t58 w (fun v' w'' => v' = t59 ∧ w'' = w)) ∧ (bsl 61 2 4 (zeroD prog 61) [(0, t61_11), (1, t67_11), (2, t74_11), (3, t77_15)] w fun t78_18 w =>
  Cl prog 17 #[t1, t78_18] w fun t79_18 w =>
  bO prog .neq 58 (Operand.tmp 80) (Operand.const Value.nilIface) t79_18 Value.nilIface w fun t81_18 w =>
  iff' t81_18
  (Cl prog 18 #[t79_18] w fun t83_18 w =>
  K t83_18 w)
  (ncP t24 <|
  fld 3 t24 w fun t87_18 w =>
  stN 1 t87_18 t2 w fun _ w =>
  K (Value.int IntKind.i64 0) w))))) ∧ (bld (zeroD prog 61) #[(0, 1), (1, 1)] [(0, t73), (1, (Value.int IntKind.i64 80))] w fun t74_12 w =>
  (ld1 t64 w (fun v' w'' => v' = t65 ∧ w'' = w)) ∧ ((ld1 t58 w (fun v' w'' => v' = t59 ∧ w'' = w)) ∧ (bld (zeroD prog 61) #[(0, 1), (1, 1)] [(0, t66), (1, (Value.int IntKind.i64 206))] w fun t67_12 w =>
  (ld1 t58 w (fun v' w'' => v' = t59 ∧ w'' = w)) ∧ (bsl 61 2 4 (zeroD prog 61) [(0, t61_11), (1, t67_12), (2, t74_12), (3, t77_15)] w fun t78_19 w =>
  Cl prog 17 #[t1, t78_19] w fun t79_19 w =>
  bO prog .neq 58 (Operand.tmp 80) (Operand.const Value.nilIface) t79_19 Value.nilIface w fun t81_19 w =>
  iff' t81_19
  (Cl prog 18 #[t79_19] w fun t83_19 w =>
  K t83_19 w)
  (ncP t24 <|
  fld 3 t24 w fun t87_19 w =>
  stN 1 t87_19 t2 w fun _ w =>
  K (Value.int IntKind.i64 0) w))))))) ∧ ((bld (zeroD prog 61) #[(0, 1), (1, 1)] [(0, t66), (1, (Value.int IntKind.i64 206))] w fun t67_13 w =>
  (ld1 t58 w (fun v' w'' => v' = t59 ∧ w'' = w)) ∧ ((bld (zeroD prog 61) #[(0, 1), (1, 1)] [(0, t60), (1, (Value.int IntKind.i64 202))] w fun t61_12 w =>
  (ld1 t64 w (fun v' w'' => v' = t65 ∧ w'' = w)) ∧ (bld (zeroD prog 61) #[(0, 1), (1, 1)] [(0, t73), (1, (Value.int IntKind.i64 80))] w fun t74_13 w =>
  (ld1 t64 w (fun v' w'' => v' = t65 ∧ w'' = w)) ∧ ((ld1 t58 w (fun v' w'' => v' = t59 ∧ w'' = w)) ∧ (bsl 61 2 4 (zeroD prog 61) [(0, t61_12), (1, t67_13), (2, t74_13), (3, t77_15)] w fun t78_20 w =>
  Cl prog 17 #[t1, t78_20] w fun t79_20 w =>
  bO prog .neq 58 (Operand.tmp 80) (Operand.const Value.nilIface) t79_20 Value.nilIface w fun t81_20 w =>
  iff' t81_20
  (Cl prog 18 #[t79_20] w fun t83_20 w =>
  K t83_20 w)
  (ncP t24 <|
  fld 3 t24 w fun t87_20 w =>
  stN 1 t87_20 t2 w fun _ w =>
  K (Value.int IntKind.i64 0) w))))) ∧ (bld (zeroD prog 61) #[(0, 1), (1, 1)] [(0, t73), (1, (Value.int IntKind.i64 80))] w fun t74_14 w =>
  (ld1 t64 w (fun v' w'' => v' = t65 ∧ w'' = w)) ∧ ((ld1 t58 w (fun v' w'' => v' = t59 ∧ w'' = w)) ∧ (bld (zeroD prog 61) #[(0, 1), (1, 1)] [(0, t60), (1, (Value.int IntKind.i64 202))] w fun t61_13 w =>
  (ld1 t64 w (fun v' w'' => v' = t65 ∧ w'' = w)) ∧ (bsl 61 2 4 (zeroD prog 61) [(0, t61_13), (1, t67_13), (2, t74_14), (3, t77_15)] w fun t78_21 w =>
  Cl prog 17 #[t1, t78_21] w fun t79_21 w =>
  bO prog .neq 58 (Operand.tmp 80) (Operand.const Value.nilIface) t79_21 Value.nilIface w fun t81_21 w =>
  iff' t81_21
  (Cl prog 18 #[t79_21] w fun t83_21 w =>
  K t83_21 w)
  (ncP t24 <|
  fld 3 t24 w fun t87_21 w =>
  stN 1 t87_21 t2 w fun _ w =>
  K (Value.int IntKind.i64 0) w))))))) ∧ (bld (zeroD prog 61) #[(0, 1), (1, 1)] [(0, t73), (1, (Value.int IntKind.i64 80))] w fun t74_15 w =>
  (ld1 t64 w (fun v' w'' => v' = t65 ∧ w'' = w)) ∧ ((ld1 t58 w (fun v' w'' => v' = t59 ∧ w'' = w)) ∧ ((bld (zeroD prog 61) #[(0, 1), (1, 1)] [(0, t60), (1, (Value.int IntKind.i64 202))] w fun t61_14 w =>
  (ld1 t64 w (fun v' w'' => v' = t65 ∧ w'' = w)) ∧ (bld (zeroD prog 61) #[(0, 1), (1, 1)] [(0, t66), (1, (Value.int IntKind.i64 206))] w fun t67_14 w =>
  (ld1 t58 w (fun v' w'' => v' = t59 ∧ w'' = w)) ∧ (bsl 61 2 4 (zeroD prog 61) [(0, t61_14), (1, t67_14), (2, t74_15), (3, t77_15)] w fun t78_22 w =>
  Cl prog 17 #[t1, t78_22] w fun t79_22 w =>
  bO prog .neq 58 (Operand.tmp 80) (Operand.const Value.nilIface) t79_22 Value.nilIface w fun t81_22 w =>
  iff' t81_22
  (Cl prog 18 #[t79_22] w fun t83_22 w =>
  K t83_22 w)
  (ncP t24 <|
  fld 3 t24 w fun t87_22 w =>
  stN 1 t87_22 t2 w fun _ w =>
  K (Value.int IntKind.i64 0) w)))) ∧ (bld (zeroD prog 61) #[(0, 1), (1, 1)] [(0, t66), (1, (Value.int IntKind.i64 206))] w fun t67_15 w =>
  (ld1 t58 w (fun v' w'' => v' = t59 ∧ w'' = w)) ∧ (bld (zeroD prog 61) #[(0, 1), (1, 1)] [(0, t60), (1, (Value.int IntKind.i64 202))] w fun t61_15 w =>
  (ld1 t64 w (fun v' w'' => v' = t65 ∧ w'' = w)) ∧ (bsl 61 2 4 (zeroD prog 61) [(0, t61_15), (1, t67_15), (2, t74_15), (3, t77_15)] w fun t78_23 w =>
  Cl prog 17 #[t1, t78_23] w fun t79_23 w =>
  bO prog .neq 58 (Operand.tmp 80) (Operand.const Value.nilIface) t79_23 Value.nilIface w fun t81_23 w =>
  iff' t81_23
  (Cl prog 18 #[t79_23] w fun t83_23 w =>
  K t83_23 w)
  (ncP t24 <|
  fld 3 t24 w fun t87_23 w =>
  stN 1 t87_23 t2 w fun _ w =>
  K (Value.int IntKind.i64 0) w))))))))))))))))
theorem rti_Rti_Regulate_eq (t0 t1 t2 : Value) (w : World) (K : KV) : rti_Rti_Regulate t0 t1 t2 w K = fnW prog 88 [6] (match fn8.body with | some c => c | none => .skip) #[t0, t1, t2] w K := by kernel_rfl
theorem rti_Rti_Regulate_ok : fnOk prog 88 [6] (match fn8.body with | some c => c | none => .skip) = true := by kernel_rfl
theorem rti_Rti_Regulate_calls {t0 t1 t2 : Value} {w : World} {K : KV} (h : rti_Rti_Regulate t0 t1 t2 w K) : Cl prog 8 #[t0, t1, t2] w K :=
  Cl.mk (by kernel_rfl) (calls_of_F (fn := fn8) (nt := 88) (rs := [6]) mixed fnAt8 (by kernel_rfl) (by kernel_rfl) (by kernel_rfl) (Nat.le_of_ble_eq_true (by kernel_rfl)) rti_Rti_Regulate_ok (rti_Rti_Regulate_eq t0 t1 t2 w K) h)

/-- (*paceline/rti.Rti).Constrain -/
def rti_Rti_Constrain (t0 t1 : Value) (w : World) (K : KV) : Prop :=
  Cl prog 19 #[t0, t1] w fun t9 w =>
  bO prog .neq 58 (Operand.tmp 10) (Operand.const Value.nilIface) t9 Value.nilIface w fun t11 w =>
  iff' t11
  (Cl prog 18 #[t9] w fun t13 w =>
  K t13 w)
  (dr w fun w =>
  ncP t0 <|
  fld 2 t0 w fun t18 _ =>
  ixA 8 10 t18 t1 w fun t19 _ =>
  fld 1 t19 w fun t20 _ =>
  ld1 t20 w fun t21 _ =>
  bnot t21 w fun t22 _ =>
  ncP t0 <|
  fld 2 t0 w fun t27 _ =>
  ixA 8 10 t27 t1 w fun t28 _ =>
  fld 4 t28 w fun t29 _ =>
  ld1 t29 w fun t30 _ =>
  bi .eql .i64 t30 (Value.int IntKind.i64 0) w fun t31 _ =>
  ncP t0 <|
  fld 2 t0 w fun t39 _ =>
  ixA 8 10 t39 t1 w fun t40 _ =>
  fld 2 t40 w fun t41 _ =>
  ld1 t41 w fun t42 _ =>
  (bld (zeroD prog 61) #[(0, 1), (1, 1)] [(0, t22), (1, (Value.int IntKind.i64 204))] w fun t23 w =>
  (ld1 t41 w (fun v' w'' => v' = t42 ∧ w'' = w)) ∧ ((ld1 t29 w (fun v' w'' => v' = t30 ∧ w'' = w)) ∧ ((bld (zeroD prog 61) #[(0, 1), (1, 1)] [(0, t31), (1, (Value.int IntKind.i64 206))] w fun t32 w =>
  (ld1 t41 w (fun v' w'' => v' = t42 ∧ w'' = w)) ∧ ((ld1 t20 w (fun v' w'' => v' = t21 ∧ w'' = w)) ∧ (Cl prog 23 #[t0, t1] w fun t35 w =>
  (ld1 t41 w (fun v' w'' => v' = t42 ∧ w'' = w)) ∧ ((ld1 t29 w (fun v' w'' => v' = t30 ∧ w'' = w)) ∧ ((ld1 t20 w (fun v' w'' => v' = t21 ∧ w'' = w)) ∧ (bi .gtr .i64 t35 t42 w fun t43 _ =>
  bld (zeroD prog 61) #[(0, 1), (1, 1)] [(0, t43), (1, (Value.int IntKind.i64 207))] w fun t44 w =>
  (ld1 t29 w (fun v' w'' => v' = t30 ∧ w'' = w)) ∧ ((ld1 t20 w (fun v' w'' => v' = t21 ∧ w'' = w)) ∧ (bsl 61 2 3 (zeroD prog 61) [(0, t23), (1, t32), (2, t44)] w fun t45 w =>
  Cl prog 17 #[t1, t45] w fun t46 w =>
  bO prog .neq 58 (Operand.tmp 47) (Operand.const Value.nilIface) t46 Value.nilIface w fun t48 w =>
  iff' t48
  (Cl prog 18 #[t46] w fun t50 w =>
  K t50 w)
  (ncP t0 <|
  fld 2 t0 w fun t54 w =>
  ixA 8 10 t54 t1 w fun t55 w =>
  fld 1 t55 w fun t56 w =>
  stN 1 t56 (Value.bool true) w fun _ w =>
  K (Value.int IntKind.i64 0) w))))))))) ∧ (Cl prog 23 #[t0, t1] w fun t35_1 w =>
  (ld1 t41 w (fun v' w'' => v' = t42 ∧ w'' = w)) ∧ ((ld1 t29 w (fun v' w'' => v' = t30 ∧ w'' = w)) ∧ ((ld1 t20 w (fun v' w'' => v' = t21 ∧ w'' = w)) ∧ (bi .gtr .i64 t35_1 t42 w fun t43_1 _ =>
  (bld (zeroD prog 61) #[(0, 1), (1, 1)] [(0, t31), (1, (Value.int IntKind.i64 206))] w fun t32_1 w =>
  (ld1 t41 w (fun v' w'' => v' = t42 ∧ w'' = w)) ∧ ((ld1 t20 w (fun v' w'' => v' = t21 ∧ w'' = w)) ∧ (bld (zeroD prog 61) #[(0, 1), (1, 1)] [(0, t43_1), (1, (Value.int IntKind.i64 207))] w fun t44_1 w =>
  (ld1 t29 w (fun v' w'' => v' = t30 ∧ w'' = w)) ∧ ((ld1 t20 w (fun v' w'' => v' = t21 ∧ w'' = w)) ∧ (bsl 61 2 3 (zeroD prog 61) [(0, t23), (1, t32_1), (2, t44_1)] w fun t45_1 w =>
  Cl prog 17 #[t1, t45_1] w fun t46_1 w =>
  bO prog .neq 58 (Operand.tmp 47) (Operand.const Value.nilIface) t46_1 Value.nilIface w fun t48_1 w =>
  iff' t48_1
  (Cl prog 18 #[t46_1] w fun t50_1 w =>
  K t50_1 w)
  (ncP t0 <|
  fld 2 t0 w fun t54_1 w =>
  ixA 8 10 t54_1 t1 w fun t55_1 w =>
  fld 1 t55_1 w fun t56_1 w =>
  stN 1 t56_1 (Value.bool true) w fun _ w =>
  K (Value.int IntKind.i64 0) w)))))) ∧ (bld (zeroD prog 61) #[(0, 1), (1, 1)] [(0, t43_1), (1, (Value.int IntKind.i64 207))] w fun t44_2 w =>
  (ld1 t29 w (fun v' w'' => v' = t30 ∧ w'' = w)) ∧ ((ld1 t20 w (fun v' w'' => v' = t21 ∧ w'' = w)) ∧ (bld (zeroD prog 61) #[(0, 1), (1, 1)] [(0, t31), (1, (Value.int IntKind.i64 206))] w fun t32_2 w =>
  (ld1 t41 w (fun v' w'' => v' = t42 ∧ w'' = w)) ∧ ((ld1 t20 w (fun v' w'' => v' = t21 ∧ w'' = w)) ∧ (bsl 61 2 3 (zeroD prog 61) [(0, t23), (1, t32_2), (2, t44_2)] w fun t45_2 w =>
  Cl prog 17 #[t1, t45_2] w fun t46_2 w =>
  bO prog .neq 58 (Operand.tmp 47) (Operand.const Value.nilIface) t46_2 Value.nilIface w fun t48_2 w =>
  iff' t48_2
  (Cl prog 18 #[t46_2] w fun t50_2 w =>
  K t50_2 w)
  (ncP t0 <|
  fld 2 t0 w fun t54_2 w =>
  ixA 8 10 t54_2 t1 w fun t55_2 w =>
  fld 1 t55_2 w fun t56_2 w =>
  stN 1 t56_2 (Value.bool true) w fun _ w =>
  K (Value.int IntKind.i64 0) w))))))))))))) ∧ ((bld (zeroD prog 61) #[(0, 1), (1, 1)] [(0, t31), (1, (Value.int IntKind.i64 206))] w fun t32_3 w =>
  (ld1 t41 w (fun v' w'' => v' = t42 ∧ w'' = w)) ∧ ((ld1 t20 w (fun v' w'' => v' = t21 ∧ w'' = w)) ∧ ((bld (zeroD prog 61) #[(0, 1), (1, 1)] [(0, t22), (1, (Value.int IntKind.i64 204))] w fun t23_1 w =>
  (ld1 t41 w (fun v' w'' => v' = t42 ∧ w'' = w)) ∧ ((ld1 t29 w (fun v' w'' => v' = t30 ∧ w'' = w)) ∧ (Cl prog 23 #[t0, t1] w fun t35_2 w =>
  (ld1 t41 w (fun v' w'' => v' = t42 ∧ w'' = w)) ∧ ((ld1 t29 w (fun v' w'' => v' = t30 ∧ w'' = w)) ∧ ((ld1 t20 w (fun v' w'' => v' = t21 ∧ w'' = w)) ∧ (bi .gtr .i64 t35_2 t42 w fun t43_2 _ =>
  bld (zeroD prog 61) #[(0, 1), (1, 1)] [(0, t43_2), (1, (Value.int IntKind.i64 207))] w fun t44_3 w =>
  (ld1 t29 w (fun v' w'' => v' = t30 ∧ w'' = w)) ∧ ((ld1 t20 w (fun v' w'' => v' = t21 ∧ w'' = w)) ∧ (bsl 61 2 3 (zeroD prog 61) [(0, t23_1), (1, t32_3), (2, t44_3)] w fun t45_3 w =>
  Cl prog 17 #[t1, t45_3] w fun t46_3 w =>
  bO prog .neq 58 (Operand.tmp 47) (Operand.const Value.nilIface) t46_3 Value.nilIface w fun t48_3 w =>
  iff' t48_3
  (Cl prog 18 #[t46_3] w fun t50_3 w =>
  K t50_3 w)
  (ncP t0 <|
  fld 2 t0 w fun t54_3 w =>
  ixA 8 10 t54_3 t1 w fun t55_3 w =>
  fld 1 t55_3 w fun t56_3 w =>
  stN 1 t56_3 (Value.bool true) w fun _ w =>
  K (Value.int IntKind.i64 0) w))))))))) ∧ (Cl prog 23 #[t0, t1] w fun t35_3 w =>
  (ld1 t41 w (fun v' w'' => v' = t42 ∧ w'' = w)) ∧ ((ld1 t29 w (fun v' w'' => v' = t30 ∧ w'' = w)) ∧ ((ld1 t20 w (fun v' w'' => v' = t21 ∧ w'' = w)) ∧ (bi .gtr .i64 t35_3 t42 w fun t43_3 _ =>
  (bld (zeroD prog 61) #[(0, 1), (1, 1)] [(0, t22), (1, (Value.int IntKind.i64 204))] w fun t23_2 w =>
  (ld1 t41 w (fun v' w'' => v' = t42 ∧ w'' = w)) ∧ ((ld1 t29 w (fun v' w'' => v' = t30 ∧ w'' = w)) ∧ (bld (zeroD prog 61) #[(0, 1), (1, 1)] [(0, t43_3), (1, (Value.int IntKind.i64 207))] w fun t44_4 w =>
  (ld1 t29 w (fun v' w'' => v' = t30 ∧ w'' = w)) ∧ ((ld1 t20 w (fun v' w'' => v' = t21 ∧ w'' = w)) ∧ (bsl 61 2 3 (zeroD prog 61) [(0, t23_2), (1, t32_3), (2, t44_4)] w fun t45_4 w =>
  Cl prog 17 #[t1, t45_4] w fun t46_4 w =>
  bO prog .neq 58 (Operand.tmp 47) (Operand.const Value.nilIface) t46_4 Value.nilIface w fun t48_4 w =>
  iff' t48_4
  (Cl prog 18 #[t46_4] w fun t50_4 w =>
  K t50_4 w)
  (ncP t0 <|
  fld 2 t0 w fun t54_4 w =>
  ixA 8 10 t54_4 t1 w fun t55_4 w =>
  fld 1 t55_4 w fun t56_4 w =>
  stN 1 t56_4 (Value.bool true) w fun _ w =>
  K (Value.int IntKind.i64 0) w)))))) ∧ (bld (zeroD prog 61) #[(0, 1), (1, 1)] [(0, t43_3), (1, (Value.int IntKind.i64 207))] w fun t44_5 w =>
  (ld1 t29 w (fun v' w'' => v' = t30 ∧ w'' = w)) ∧ ((ld1 t20 w (fun v' w'' => v' = t21 ∧ w'' = w)) ∧ (bld (zeroD prog 61) #[(0, 1), (1, 1)] [(0, t22), (1, (Value.int IntKind.i64 204))] w fun t23_3 w =>
  (ld1 t41 w (fun v' w'' => v' = t42 ∧ w'' = w)) ∧ ((ld1 t29 w (fun v' w'' => v' = t30 ∧ w'' = w)) ∧ (bsl 61 2 3 (zeroD prog 61) [(0, t23_3), (1, t32_3), (2, t44_5)] w fun t45_5 w =>
  Cl prog 17 #[t1, t45_5] w fun t46_5 w =>
  bO prog .neq 58 (Operand.tmp 47) (Operand.const Value.nilIface) t46_5 Value.nilIface w fun t48_5 w =>
  iff' t48_5
  (Cl prog 18 #[t46_5] w fun t50_5 w =>
  K t50_5 w)
  (ncP t0 <|
  fld 2 t0 w fun t54_5 w =>
  ixA 8 10 t54_5 t1 w fun t55_5 w =>
  fld 1 t55_5 w fun t56_5 w =>
  stN 1 t56_5 (Value.bool true) w fun _ w =>
  K (Value.int IntKind.i64 0) w))))))))))))) ∧ (Cl prog 23 #[t0, t1] w fun t35_4 w =>
  (ld1 t41 w (fun v' w'' => v' = t42 ∧ w'' = w)) ∧ ((ld1 t29 w (fun v' w'' => v' = t30 ∧ w'' = w)) ∧ ((ld1 t20 w (fun v' w'' => v' = t21 ∧ w'' = w)) ∧ (bi .gtr .i64 t35_4 t42 w fun t43_4 _ =>
  (bld (zeroD prog 61) #[(0, 1), (1, 1)] [(0, t22), (1, (Value.int IntKind.i64 204))] w fun t23_4 w =>
  (ld1 t41 w (fun v' w'' => v' = t42 ∧ w'' = w)) ∧ ((ld1 t29 w (fun v' w'' => v' = t30 ∧ w'' = w)) ∧ ((bld (zeroD prog 61) #[(0, 1), (1, 1)] [(0, t31), (1, (Value.int IntKind.i64 206))] w fun t32_4 w =>
  (ld1 t41 w (fun v' w'' => v' = t42 ∧ w'' = w)) ∧ ((ld1 t20 w (fun v' w'' => v' = t21 ∧ w'' = w)) ∧ (bld (zeroD prog 61) #[(0, 1), (1, 1)] [(0, t43_4), (1, (Value.int IntKind.i64 207))] w fun t44_6 w =>
  (ld1 t29 w (fun v' w'' => v' = t30 ∧ w'' = w)) ∧ ((ld1 t20 w (fun v' w'' => v' = t21 ∧ w'' = w)) ∧ (bsl 61 2 3 (zeroD prog 61) [(0, t23_4), (1, t32_4), (2, t44_6)] w fun t45_6 w =>
  Cl prog 17 #[t1, t45_6] w fun t46_6 w =>
  bO prog .neq 58 (Operand.tmp 47) (Operand.const Value.nilIface) t46_6 Value.nilIface w fun t48_6 w =>
  iff' t48_6
  (Cl prog 18 #[t46_6] w fun t50_6 w =>
  K t50_6 w)
  (ncP t0 <|
  fld 2 t0 w fun t54_6 w =>
  ixA 8 10 t54_6 t1 w fun t55_6 w =>
  fld 1 t55_6 w fun t56_6 w =>
  stN 1 t56_6 (Value.bool true) w fun _ w =>
  K (Value.int IntKind.i64 0) w)))))) ∧ (bld (zeroD prog 61) #[(0, 1), (1, 1)] [(0, t43_4), (1, (Value.int IntKind.i64 207))] w fun t44_7 w =>
  (ld1 t29 w (fun v' w'' => v' = t30 ∧ w'' = w)) ∧ ((ld1 t20 w (fun v' w'' => v' = t21 ∧ w'' = w)) ∧ (bld (zeroD prog 61) #[(0, 1), (1, 1)] [(0, t31), (1, (Value.int IntKind.i64 206))] w fun t32_5 w =>
  (ld1 t41 w (fun v' w'' => v' = t42 ∧ w'' = w)) ∧ ((ld1 t20 w (fun v' w'' => v' = t21 ∧ w'' = w)) ∧ (bsl 61 2 3 (zeroD prog 61) [(0, t23_4), (1, t32_5), (2, t44_7)] w fun t45_7 w =>
  Cl prog 17 #[t1, t45_7] w fun t46_7 w =>
  bO prog .neq 58 (Operand.tmp 47) (Operand.const Value.nilIface) t46_7 Value.nilIface w fun t48_7 w =>
  iff' t48_7
  (Cl prog 18 #[t46_7] w fun t50_7 w =>
  K t50_7 w)
  (ncP t0 <|
  fld 2 t0 w fun t54_7 w =>
  ixA 8 10 t54_7 t1 w fun t55_7 w =>
  fld 1 t55_7 w fun t56_7 w =>
  stN 1 t56_7 (Value.bool true) w fun _ w =>
  K (Value.int IntKind.i64 0) w))))))))) ∧ ((bld (zeroD prog 61) #[(0, 1), (1, 1)] [(0, t31), (1, (Value.int IntKind.i64 206))] w fun t32_6 w =>
  (ld1 t41 w (fun v' w'' => v' = t42 ∧ w'' = w)) ∧ ((ld1 t20 w (fun v' w'' => v' = t21 ∧ w'' = w)) ∧ ((bld (zeroD prog 61) #[(0, 1), (1, 1)] [(0, t22), (1, (Value.int IntKind.i64 204))] w fun t23_5 w =>
  (ld1 t41 w (fun v' w'' => v' = t42 ∧ w'' = w)) ∧ ((ld1 t29 w (fun v' w'' => v' = t30 ∧ w'' = w)) ∧ (bld (zeroD prog 61) #[(0, 1), (1, 1)] [(0, t43_4), (1, (Value.int IntKind.i64 207))] w fun t44_8 w =>
  (ld1 t29 w (fun v' w'' => v' = t30 ∧ w'' = w)) ∧ ((ld1 t20 w (fun v' w'' => v' = t21 ∧ w'' = w)) ∧ (bsl 61 2 3 (zeroD prog 61) [(0, t23_5), (1, t32_6), (2, t44_8)] w fun t45_8 w =>
  Cl prog 17 #[t1, t45_8] w fun t46_8 w =>
  bO prog .neq 58 (Operand.tmp 47) (Operand.const Value.nilIface) t46_8 Value.nilIface w fun t48_8 w =>
  iff' t48_8
  (Cl prog 18 #[t46_8] w fun t50_8 w =>
  K t50_8 w)
  (ncP t0 <|
  fld 2 t0 w fun t54_8 w =>
  ixA 8 10 t54_8 t1 w fun t55_8 w =>
  fld 1 t55_8 w fun t56_8 w =>
  stN 1 t56_8 (Value.bool true) w fun _ w =>
  K (Value.int IntKind.i64 0) w)))))) ∧ (bld (zeroD prog 61) #[(0, 1), (1, 1)] [(0, t43_4), (1, (Value.int IntKind.i64 207))] w fun t44_9 w =>
  (ld1 t29 w (fun v' w'' => v' = t30 ∧ w'' = w)) ∧ ((ld1 t20 w (fun v' w'' => v' = t21 ∧ w'' = w)) ∧ (bld (zeroD prog 61) #[(0, 1), (1, 1)] [(0, t22), (1, (Value.int IntKind.i64 204))] w fun t23_6 w =>
  (ld1 t41 w (fun v' w'' => v' = t42 ∧ w'' = w)) ∧ ((ld1 t29 w (fun v' w'' => v' = t30 ∧ w'' = w)) ∧ (bsl 61 2 3 (zeroD prog 61) [(0, t23_6), (1, t32_6), (2, t44_9)] w fun t45_9 w =>
  Cl prog 17 #[t1, t45_9] w fun t46_9 w =>
  bO prog .neq 58 (Operand.tmp 47) (Operand.const Value.nilIface) t46_9 Value.nilIface w fun t48_9 w =>
  iff' t48_9
  (Cl prog 18 #[t46_9] w fun t50_9 w =>
  K t50_9 w)
  (ncP t0 <|
  fld 2 t0 w fun t54_9 w =>
  ixA 8 10 t54_9 t1 w fun t55_9 w =>
  fld 1 t55_9 w fun t56_9 w =>
  stN 1 t56_9 (Value.bool true) w fun _ w =>
  K (Value.int IntKind.i64 0) w))))))))) ∧ (bld (zeroD prog 61) #[(0, 1), (1, 1)] [(0, t43_4), (1, (Value.int IntKind.i64 207))] w fun t44_10 w =>
  (ld1 t29 w (fun v' w'' => v' = t30 ∧ w'' = w)) ∧ ((ld1 t20 w (fun v' w'' => v' = t21 ∧ w'' = w)) ∧ ((bld (zeroD prog 61) #[(0, 1), (1, 1)] [(0, t22), (1, (Value.int IntKind.i64 204))] w fun t23_7 w =>
  (ld1 t41 w (fun v' w'' => v' = t42 ∧ w'' = w)) ∧ ((ld1 t29 w (fun v' w'' => v' = t30 ∧ w'' = w)) ∧ (bld (zeroD prog 61) #[(0, 1), (1, 1)] [(0, t31), (1, (Value.int IntKind.i64 206))] w fun t32_7 w =>
  (ld1 t41 w (fun v' w'' => v' = t42 ∧ w'' = w)) ∧ ((ld1 t20 w (fun v' w'' => v' = t21 ∧ w'' = w)) ∧ (bsl 61 2 3 (zeroD prog 61) [(0, t23_7), (1, t32_7), (2, t44_10)] w fun t45_10 w =>
  Cl prog 17 #[t1, t45_10] w fun t46_10 w =>
  bO prog .neq 58 (Operand.tmp 47) (Operand.const Value.nilIface) t46_10 Value.nilIface w fun t48_10 w =>
  iff' t48_10
  (Cl prog 18 #[t46_10] w fun t50_10 w =>
  K t50_10 w)
  (ncP t0 <|
  fld 2 t0 w fun t54_10 w =>
  ixA 8 10 t54_10 t1 w fun t55_10 w =>
  fld 1 t55_10 w fun t56_10 w =>
  stN 1 t56_10 (Value.bool true) w fun _ w =>
  K (Value.int IntKind.i64 0) w)))))) ∧ (bld (zeroD prog 61) #[(0, 1), (1, 1)] [(0, t31), (1, (Value.int IntKind.i64 206))] w fun t32_8 w =>
  (ld1 t41 w (fun v' w'' => v' = t42 ∧ w'' = w)) ∧ ((ld1 t20 w (fun v' w'' => v' = t21 ∧ w'' = w)) ∧ (bld (zeroD prog 61) #[(0, 1), (1, 1)] [(0, t22), (1, (Value.int IntKind.i64 204))] w fun t23_8 w =>
  (ld1 t41 w (fun v' w'' => v' = t42 ∧ w'' = w)) ∧ ((ld1 t29 w (fun v' w'' => v' = t30 ∧ w'' = w)) ∧ (bsl 61 2 3 (zeroD prog 61) [(0, t23_8), (1, t32_8), (2, t44_10)] w fun t45_11 w =>
  Cl prog 17 #[t1, t45_11] w fun t46_11 w =>
  bO prog .neq 58 (Operand.tmp 47) (Operand.const Value.nilIface) t46_11 Value.nilIface w fun t48_11 w =>
  iff' t48_11
  (Cl prog 18 #[t46_11] w fun t50_11 w =>
  K t50_11 w)
  (ncP t0 <|
  fld 2 t0 w fun t54_11 w =>
  ixA 8 10 t54_11 t1 w fun t55_11 w =>
  fld 1 t55_11 w fun t56_11 w =>
  stN 1 t56_11 (Value.bool true) w fun _ w =>
  K (Value.int IntKind.i64 0) w))))))))))))))))
theorem rti_Rti_Constrain_eq (t0 t1 : Value) (w : World) (K : KV) : rti_Rti_Constrain t0 t1 w K = fnW prog 57 [4] (match fn9.body with | some c => c | none => .skip) #[t0, t1] w K := by kernel_rfl
theorem rti_Rti_Constrain_ok : fnOk prog 57 [4] (match fn9.body with | some c => c | none => .skip) = true := by kernel_rfl
theorem rti_Rti_Constrain_calls {t0 t1 : Value} {w : World} {K : KV} (h : rti_Rti_Constrain t0 t1 w K) : Cl prog 9 #[t0, t1] w K :=
  Cl.mk (by kernel_rfl) (calls_of_F (fn := fn9) (nt := 57) (rs := [4]) mixed fnAt9 (by kernel_rfl) (by kernel_rfl) (by kernel_rfl) (Nat.le_of_ble_eq_true (by kernel_rfl)) rti_Rti_Constrain_ok (rti_Rti_Constrain_eq t0 t1 w K) h)

/-- (*paceline/rti.Rti).Send -/
def rti_Rti_Send (t0 t1 t2 t3 t4 t5 : Value) (w : World) (K : KV) : Prop :=
  Cl prog 19 #[t0, t1] w fun t30 w =>
  bO prog .neq 58 (Operand.tmp 31) (Operand.const Value.nilIface) t30 Value.nilIface w fun t32 w =>
  iff' t32
  (Cl prog 18 #[t30] w fun t34 w =>
  K (Value.tuple #[(Value.int IntKind.i64 0), t34]) w)
  (ncP t0 <|
  fld 1 t0 w fun t38 w =>
  ld1 t38 w fun t39 w =>
  Cl prog 24 #[t39, t1, t2] w fun t42 w =>
  xt 0 t42 w fun t43 w =>
  xt 1 t42 w fun t44 w =>
  bi .neq .i64 t44 (Value.int IntKind.i64 0) w fun t46 w =>
  iff' t46
  (K (Value.tuple #[(Value.int IntKind.i64 0), t44]) w)
  (ncP t0 <|
  fld 2 t0 w fun t51 w =>
  ixA 8 10 t51 t1 w fun t52 w =>
  gd t5 true (fun k => k t52 w) w fun t55 w =>
  gd t5 true (fun k => nc t55 w k) w fun t56 w =>
  gd t5 true (fun k => fld 3 t56 w k) w fun t57 w =>
  gd t5 true (fun k => ld1 t57 w k) w fun t58 w =>
  gd t5 true (fun k => bi .gtr .i64 t58 (Value.int IntKind.i64 0) w k) w fun t59 w =>
  pk t5 t59 (Value.bool false) w fun t60 w =>
  lnS t43 w fun t62 w =>
  lp [(Value.bool false), (Value.int IntKind.i64 0)] w (b2 fun t19 t63 w g1 =>
  bi .lss .i64 t63 t62 w fun t64 w =>
  iff' t64
  (J1 (fun t19_1 w =>
  bi .add .i64 t63 (Value.int IntKind.i64 1) w fun t97 w =>
  g1 [t19_1, t97] w) fun k2 =>
  ixS 1 t43 t63 w fun t65 w =>
  ld1 t65 w fun t66 w =>
  ncP t0 <|
  fld 2 t0 w fun t70 w =>
  ixA 8 10 t70 t66 w fun t71 w =>
  gd t60 true (fun k => k t71 w) w fun t74 w =>
  gd t60 true (fun k => nc t74 w k) w fun t75 w =>
  gd t60 true (fun k => fld 1 t75 w k) w fun t76 w =>
  gd t60 true (fun k => ld1 t76 w k) w fun t77 w =>
  pk t60 t77 (Value.bool false) w fun t78 w =>
  iff' t78
  (gd t19 false (fun k => k t71 w) w fun t81 w =>
  gd t19 false (fun k => nc t81 w k) w fun t82 w =>
  gd t19 false (fun k => fld 7 t82 w k) w fun t83 w =>
  gd t19 false (fun k => ld1 t83 w k) w fun t84 w =>
  gd t19 false (fun k => Cl prog 25 #[t84] w k) w fun t85 w =>
  gd t19 false (fun k => bi .geq .i64 t85 (Value.int IntKind.i64 64) w k) w fun t86 w =>
  pk t19 (Value.bool true) t86 w fun t87 w =>
  k2 t87 w)
  (gd t19 false (fun k => k t71 w) w fun t90 w =>
  gd t19 false (fun k => nc t90 w k) w fun t91 w =>
  gd t19 false (fun k => fld 8 t91 w k) w fun t92 w =>
  gd t19 false (fun k => ld1 t92 w k) w fun t93 w =>
  gd t19 false (fun k => lnS t93 w k) w fun t94 w =>
  gd t19 false (fun k => bi .geq .i64 t94 (Value.int IntKind.i64 64) w k) w fun t95 w =>
  pk t19 (Value.bool true) t95 w fun t96 w =>
  k2 t96 w))
  (bi .geq .i64 t3 (Value.int IntKind.i64 0) w fun t100 w =>
  gd t100 true (fun k => k t3 w) w fun t102 w =>
  gd t100 true (fun k => bi .lss .i64 t102 (Value.int IntKind.i64 1000) w k) w fun t103 w =>
  pk t100 t103 (Value.bool false) w fun t104 w =>
  bld (zeroD prog 61) #[(0, 1), (1, 1)] [(0, t104), (1, (Value.int IntKind.i64 1))] w fun t105 w =>
  bnot t5 w fun t107 w =>
  gd t107 false (fun k => k t4 w) w fun t109 w =>
  gd t107 false (fun k => bi .geq .i64 t109 (Value.int IntKind.i64 0) w k) w fun t110 w =>
  gd t107 false (fun k => k t110 w) w fun t111 w =>
  gd t111 true (fun k => k t4 w) w fun t112 w =>
  gd t111 true (fun k => bi .leq .i64 t112 (Value.int IntKind.i64 1099511627776) w k) w fun t113 w =>
  gd t107 false (fun k => pk t111 t113 (Value.bool false) w k) w fun t114 w =>
  pk t107 (Value.bool true) t114 w fun t115 w =>
  bld (zeroD prog 61) #[(0, 1), (1, 1)] [(0, t115), (1, (Value.int IntKind.i64 208))] w fun t116 w =>
  bnot t60 w fun t118 w =>
  gd t118 false (fun k => k t4 w) w fun t120 w =>
  gd t118 false (fun k => k t0 w) w fun t121 w =>
  gd t118 false (fun k => Cl prog 27 #[t121] w k) w fun t122 w =>
  gd t118 false (fun k => Cl prog 26 #[t122] w k) w fun t123 w =>
  gd t118 false (fun k => k t1 w) w fun t124 w =>
  gd t118 false (fun k => ixS 1 t123 t124 w k) w fun t125 w =>
  gd t118 false (fun k => ld1 t125 w k) w fun t126 w =>
  gd t118 false (fun k => bi .geq .i64 t120 t126 w k) w fun t127 w =>
  pk t118 (Value.bool true) t127 w fun t128 w =>
  bld (zeroD prog 61) #[(0, 1), (1, 1)] [(0, t128), (1, (Value.int IntKind.i64 110))] w fun t129 w =>
  bnot t19 w fun t131 w =>
  bld (zeroD prog 61) #[(0, 1), (1, 1)] [(0, t131), (1, (Value.int IntKind.i64 2))] w fun t132 w =>
  bsl 61 2 4 (zeroD prog 61) [(0, t105), (1, t116), (2, t129), (3, t132)] w fun t133 w =>
  Cl prog 17 #[t1, t133] w fun t134 w =>
  bO prog .neq 58 (Operand.tmp 135) (Operand.const Value.nilIface) t134 Value.nilIface w fun t136 w =>
  iff' t136
  (Cl prog 18 #[t134] w fun t138 w =>
  K (Value.tuple #[(Value.int IntKind.i64 0), t138]) w)
  (bnot t5 w fun t140 w =>
  J1 (fun t4_1 w =>
  ncP t52 <|
  fld 6 t52 w fun t145 w =>
  ld1 t145 w fun t146 w =>
  bld (zeroD prog 40) #[(0, 1), (1, 1), (2, 1)] [(0, t4_1), (1, t1), (2, t146)] w fun t147 w =>
  bld (zeroD prog 42) #[(0, 3), (3, 1), (4, 1), (5, 1)] [(0, t147), (2, t2), (3, t3)] w fun t150 w =>
  al (zeroD prog 42) 42 w fun t24 w =>
  stN 6 t24 t150 w fun _ w =>
  lnS t43 w fun t152 w =>
  lp [(Value.int IntKind.i64 0)] w (b1 fun t153 w g4 =>
  bi .lss .i64 t153 t152 w fun t154 w =>
  iff' t154
  (J0 (fun w =>
  bi .add .i64 t153 (Value.int IntKind.i64 1) w fun t187 w =>
  g4 [t187] w) fun k5 =>
  ixS 1 t43 t153 w fun t155 w =>
  ld1 t155 w fun t156 w =>
  fld 3 t24 w fun t158 w =>
  stN 1 t158 t156 w fun _ w =>
  ncP t0 <|
  fld 2 t0 w fun t162 w =>
  ixA 8 10 t162 t156 w fun t163 w =>
  gd t60 true (fun k => k t163 w) w fun t166 w =>
  gd t60 true (fun k => nc t166 w k) w fun t167 w =>
  gd t60 true (fun k => fld 1 t167 w k) w fun t168 w =>
  gd t60 true (fun k => ld1 t168 w k) w fun t169 w =>
  pk t60 t169 (Value.bool false) w fun t170 w =>
  iff' t170
  (dr w fun w =>
  ncP t163 <|
  fld 7 t163 w fun t173 _ =>
  ld1 t173 w fun t174 _ =>
  ldN 6 t24 w fun t175 _ =>
  Cl prog 28 #[t174, t175] w fun _ w =>
  k5 w)
  (dr w fun w =>
  ncP t163 <|
  fld 8 t163 w fun t180 _ =>
  ld1 t180 w fun t181 _ =>
  ldN 6 t24 w fun t182 _ =>
  bsl 42 6 1 (zeroD prog 42) [(0, t182)] w fun t183 w =>
  (ld1 t180 w (fun v' w'' => v' = t181 ∧ w'' = w)) ∧ (apS prog #[34, 34] 34 t181 t183 w fun t184 w =>
  ncP t163 <|
  fld 8 t163 w fun t186 _ =>
  stN 1 t186 t184 w fun _ w =>
  k5 w)))
  (bnot t5 w fun t189 w =>
  iff' t189
  (K (Value.tuple #[(Value.int IntKind.i64 0), (Value.int IntKind.i64 0)]) w)
  (ncP t52 <|
  fld 6 t52 w fun t192 w =>
  ld1 t192 w fun t193 w =>
  bi .add .i64 t193 (Value.int IntKind.i64 1) w fun t194 w =>
  ncP t52 <|
  fld 6 t52 w fun t196 w =>
  stN 1 t196 t194 w fun _ w =>
  fld 0 t24 w fun t197 w =>
  fld 2 t197 w fun t198 w =>
  ld1 t198 w fun t199 w =>
  K (Value.tuple #[t199, (Value.int IntKind.i64 0)]) w)))) fun k3 =>
  iff' t140
  (k3 (Value.int IntKind.i64 0) w)
  (k3 t4 w))))))
theorem rti_Rti_Send_eq (t0 t1 t2 t3 t4 t5 : Value) (w : World) (K : KV) : rti_Rti_Send t0 t1 t2 t3 t4 t5 w K = fnW prog 200 [12, 13] (match fn10.body with | some c => c | none => .skip) #[t0, t1, t2, t3, t4, t5] w K := by kernel_rfl
theorem rti_Rti_Send_ok : fnOk prog 200 [12, 13] (match fn10.body with | some c => c | none => .skip) = true := by kernel_rfl
theorem rti_Rti_Send_calls {t0 t1 t2 t3 t4 t5 : Value} {w : World} {K : KV} (h : rti_Rti_Send t0 t1 t2 t3 t4 t5 w K) : Cl prog 10 #[t0, t1, t2, t3, t4, t5] w K :=
  Cl.mk (by kernel_rfl) (calls_of_F (fn := fn10) (nt := 200) (rs := [12, 13]) mixed fnAt10 (by kernel_rfl) (by kernel_rfl) (by kernel_rfl) (Nat.le_of_ble_eq_true (by kernel_rfl)) rti_Rti_Send_ok (rti_Rti_Send_eq t0 t1 t2 t3 t4 t5 w K) h)

/-- (*paceline/rti.Rti).Ask -/
def rti_Rti_Ask (t0 t1 t2 t3 : Value) (w : World) (K : KV) : Prop :=
  Cl prog 19 #[t0, t1] w fun t14 w =>
  bO prog .neq 58 (Operand.tmp 15) (Operand.const Value.nilIface) t14 Value.nilIface w fun t16 w =>
  iff' t16
  (Cl prog 18 #[t14] w fun t18 w =>
  K t18 w)
  (ncP t0 <|
  fld 2 t0 w fun t22 w =>
  ixA 8 10 t22 t1 w fun t23 w =>
  dr w fun w =>
  bi .geq .i64 t2 (Value.int IntKind.i64 1) w fun t26 _ =>
  gd t26 true (fun k => k t2 w) w fun t28 _ =>
  gd t26 true (fun k => bi .leq .i64 t28 (Value.int IntKind.i64 3) w k) w fun t29 _ =>
  pk t26 t29 (Value.bool false) w fun t30 _ =>
  ncP t23 <|
  fld 4 t23 w fun t34 _ =>
  ld1 t34 w fun t35 _ =>
  bi .eql .i64 t35 (Value.int IntKind.i64 0) w fun t36 _ =>
  bi .geq .i64 t3 (Value.int IntKind.i64 0) w fun t39 _ =>
  gd t39 true (fun k => k t3 w) w fun t41 _ =>
  gd t39 true (fun k => bi .leq .i64 t41 (Value.int IntKind.i64 1099511627776) w k) w fun t42 _ =>
  pk t39 t42 (Value.bool false) w fun t43 _ =>
  ncP t23 <|
  fld 2 t23 w fun t48 _ =>
  ld1 t48 w fun t49 _ =>
  bi .geq .i64 t3 t49 w fun t50 _ =>
  (bld (zeroD prog 61) #[(0, 1), (1, 1)] [(0, t30), (1, (Value.int IntKind.i64 1))] w fun t31 w =>
  (ld1 t48 w (fun v' w'' => v' = t49 ∧ w'' = w)) ∧ ((ld1 t34 w (fun v' w'' => v' = t35 ∧ w'' = w)) ∧ ((bld (zeroD prog 61) #[(0, 1), (1, 1)] [(0, t36), (1, (Value.int IntKind.i64 206))] w fun t37 w =>
  (ld1 t48 w (fun v' w'' => v' = t49 ∧ w'' = w)) ∧ ((bld (zeroD prog 61) #[(0, 1), (1, 1)] [(0, t43), (1, (Value.int IntKind.i64 208))] w fun t44 w =>
  (ld1 t48 w (fun v' w'' => v' = t49 ∧ w'' = w)) ∧ ((ld1 t34 w (fun v' w'' => v' = t35 ∧ w'' = w)) ∧ (bld (zeroD prog 61) #[(0, 1), (1, 1)] [(0, t50), (1, (Value.int IntKind.i64 207))] w fun t51 w =>
  (ld1 t34 w (fun v' w'' => v' = t35 ∧ w'' = w)) ∧ (bsl 61 2 4 (zeroD prog 61) [(0, t31), (1, t37), (2, t44), (3, t51)] w fun t52 w =>
  Cl prog 17 #[t1, t52] w fun t53 w =>
  bO prog .neq 58 (Operand.tmp 54) (Operand.const Value.nilIface) t53 Value.nilIface w fun t55 w =>
  iff' t55
  (Cl prog 18 #[t53] w fun t57 w =>
  K t57 w)
  (ncP t23 <|
  fld 4 t23 w fun t63 w =>
  stN 1 t63 t2 w fun _ w =>
  ncP t23 <|
  fld 5 t23 w fun t65 w =>
  stN 1 t65 t3 w fun _ w =>
  K (Value.int IntKind.i64 0) w))))) ∧ (bld (zeroD prog 61) #[(0, 1), (1, 1)] [(0, t50), (1, (Value.int IntKind.i64 207))] w fun t51_1 w =>
  (ld1 t34 w (fun v' w'' => v' = t35 ∧ w'' = w)) ∧ (bld (zeroD prog 61) #[(0, 1), (1, 1)] [(0, t43), (1, (Value.int IntKind.i64 208))] w fun t44_1 w =>
  (ld1 t48 w (fun v' w'' => v' = t49 ∧ w'' = w)) ∧ ((ld1 t34 w (fun v' w'' => v' = t35 ∧ w'' = w)) ∧ (bsl 61 2 4 (zeroD prog 61) [(0, t31), (1, t37), (2, t44_1), (3, t51_1)] w fun t52_1 w =>
  Cl prog 17 #[t1, t52_1] w fun t53_1 w =>
  bO prog .neq 58 (Operand.tmp 54) (Operand.const Value.nilIface) t53_1 Value.nilIface w fun t55_1 w =>
  iff' t55_1
  (Cl prog 18 #[t53_1] w fun t57_1 w =>
  K t57_1 w)
  (ncP t23 <|
  fld 4 t23 w fun t63_1 w =>
  stN 1 t63_1 t2 w fun _ w =>
  ncP t23 <|
  fld 5 t23 w fun t65_1 w =>
  stN 1 t65_1 t3 w fun _ w =>
  K (Value.int IntKind.i64 0) w))))))) ∧ ((bld (zeroD prog 61) #[(0, 1), (1, 1)] [(0, t43), (1, (Value.int IntKind.i64 208))] w fun t44_2 w =>
  (ld1 t48 w (fun v' w'' => v' = t49 ∧ w'' = w)) ∧ ((ld1 t34 w (fun v' w'' => v' = t35 ∧ w'' = w)) ∧ ((bld (zeroD prog 61) #[(0, 1), (1, 1)] [(0, t36), (1, (Value.int IntKind.i64 206))] w fun t37_1 w =>
  (ld1 t48 w (fun v' w'' => v' = t49 ∧ w'' = w)) ∧ (bld (zeroD prog 61) #[(0, 1), (1, 1)] [(0, t50), (1, (Value.int IntKind.i64 207))] w fun t51_2 w =>
  (ld1 t34 w (fun v' w'' => v' = t35 ∧ w'' = w)) ∧ (bsl 61 2 4 (zeroD prog 61) [(0, t31), (1, t37_1), (2, t44_2), (3, t51_2)] w fun t52_2 w =>
  Cl prog 17 #[t1, t52_2] w fun t53_2 w =>
  bO prog .neq 58 (Operand.tmp 54) (Operand.const Value.nilIface) t53_2 Value.nilIface w fun t55_2 w =>
  iff' t55_2
  (Cl prog 18 #[t53_2] w fun t57_2 w =>
  K t57_2 w)
  (ncP t23 <|
  fld 4 t23 w fun t63_2 w =>
  stN 1 t63_2 t2 w fun _ w =>
  ncP t23 <|
  fld 5 t23 w fun t65_2 w =>
  stN 1 t65_2 t3 w fun _ w =>
  K (Value.int IntKind.i64 0) w)))) ∧ (bld (zeroD prog 61) #[(0, 1), (1, 1)] [(0, t50), (1, (Value.int IntKind.i64 207))] w fun t51_3 w =>
  (ld1 t34 w (fun v' w'' => v' = t35 ∧ w'' = w)) ∧ (bld (zeroD prog 61) #[(0, 1), (1, 1)] [(0, t36), (1, (Value.int IntKind.i64 206))] w fun t37_2 w =>
  (ld1 t48 w (fun v' w'' => v' = t49 ∧ w'' = w)) ∧ (bsl 61 2 4 (zeroD prog 61) [(0, t31), (1, t37_2), (2, t44_2), (3, t51_3)] w fun t52_3 w =>
  Cl prog 17 #[t1, t52_3] w fun t53_3 w =>
  bO prog .neq 58 (Operand.tmp 54) (Operand.const Value.nilIface) t53_3 Value.nilIface w fun t55_3 w =>
  iff' t55_3
  (Cl prog 18 #[t53_3] w fun t57_3 w =>
  K t57_3 w)
  (ncP t23 <|
  fld 4 t23 w fun t63_3 w =>
  stN 1 t63_3 t2 w fun _ w =>
  ncP t23 <|
  fld 5 t23 w fun t65_3 w =>
  stN 1 t65_3 t3 w fun _ w =>
  K (Value.int IntKind.i64 0) w))))))) ∧ (bld (zeroD prog 61) #[(0, 1), (1, 1)] [(0, t50), (1, (Value.int IntKind.i64 207))] w fun t51_4 w =>
  (ld1 t34 w (fun v' w'' => v' = t35 ∧ w'' = w)) ∧ ((bld (zeroD prog 61) #[(0, 1), (1, 1)] [(0, t36), (1, (Value.int IntKind.i64 206))] w fun t37_3 w =>
  (ld1 t48 w (fun v' w'' => v' = t49 ∧ w'' = w)) ∧ (bld (zeroD prog 61) #[(0, 1), (1, 1)] [(0, t43), (1, (Value.int IntKind.i64 208))] w fun t44_3 w =>
  (ld1 t48 w (fun v' w'' => v' = t49 ∧ w'' = w)) ∧ ((ld1 t34 w (fun v' w'' => v' = t35 ∧ w'' = w)) ∧ (bsl 61 2 4 (zeroD prog 61) [(0, t31), (1, t37_3), (2, t44_3), (3, t51_4)] w fun t52_4 w =>
  Cl prog 17 #[t1, t52_4] w fun t53_4 w =>
  bO prog .neq 58 (Operand.tmp 54) (Operand.const Value.nilIface) t53_4 Value.nilIface w fun t55_4 w =>
  iff' t55_4
  (Cl prog 18 #[t53_4] w fun t57_4 w =>
  K t57_4 w)
  (ncP t23 <|
  fld 4 t23 w fun t63_4 w =>
  stN 1 t63_4 t2 w fun _ w =>
  ncP t23 <|
  fld 5 t23 w fun t65_4 w =>
  stN 1 t65_4 t3 w fun _ w =>
  K (Value.int IntKind.i64 0) w))))) ∧ (bld (zeroD prog 61) #[(0, 1), (1, 1)] [(0, t43), (1, (Value.int IntKind.i64 208))] w fun t44_4 w =>
  (ld1 t48 w (fun v' w'' => v' = t49 ∧ w'' = w)) ∧ ((ld1 t34 w (fun v' w'' => v' = t35 ∧ w'' = w)) ∧ (bld (zeroD prog 61) #[(0, 1), (1, 1)] [(0, t36), (1, (Value.int IntKind.i64 206))] w fun t37_4 w =>
  (ld1 t48 w (fun v' w'' => v' = t49 ∧ w'' = w)) ∧ (bsl 61 2 4 (zeroD prog 61) [(0, t31), (1, t37_4), (2, t44_4), (3, t51_4)] w fun t52_5 w =>
  Cl prog 17 #[t1, t52_5] w fun t53_5 w =>
  bO prog .neq 58 (Operand.tmp 54) (Operand.const Value.nilIface) t53_5 Value.nilIface w fun t55_5 w =>
  iff' t55_5
  (Cl prog 18 #[t53_5] w fun t57_5 w =>
  K t57_5 w)
  (ncP t23 <|
  fld 4 t23 w fun t63_5 w =>
  stN 1 t63_5 t2 w fun _ w =>
  ncP t23 <|
  fld 5 t23 w fun t65_5 w =>
  stN 1 t65_5 t3 w fun _ w =>
  K (Value.int IntKind.i64 0) w))))))))))) ∧ ((bld (zeroD prog 61) #[(0, 1), (1, 1)] [(0, t36), (1, (Value.int IntKind.i64 206))] w fun t37_5 w =>
  (ld1 t48 w (fun v' w'' => v' = t49 ∧ w'' = w)) ∧ ((bld (zeroD prog 61) #[(0, 1), (1, 1)] [(0, t30), (1, (Value.int IntKind.i64 1))] w fun t31_1 w =>
  (ld1 t48 w (fun v' w'' => v' = t49 ∧ w'' = w)) ∧ ((ld1 t34 w (fun v' w'' => v' = t35 ∧ w'' = w)) ∧ ((bld (zeroD prog 61) #[(0, 1), (1, 1)] [(0, t43), (1, (Value.int IntKind.i64 208))] w fun t44_5 w =>
  (ld1 t48 w (fun v' w'' => v' = t49 ∧ w'' = w)) ∧ ((ld1 t34 w (fun v' w'' => v' = t35 ∧ w'' = w)) ∧ (bld (zeroD prog 61) #[(0, 1), (1, 1)] [(0, t50), (1, (Value.int IntKind.i64 207))] w fun t51_5 w =>
  (ld1 t34 w (fun v' w'' => v' = t35 ∧ w'' = w)) ∧ (bsl 61 2 4 (zeroD prog 61) [(0, t31_1), (1, t37_5), (2, t44_5), (3, t51_5)] w fun t52_6 w =>
  Cl prog 17 #[t1, t52_6] w fun t53_6 w =>
  bO prog .neq 58 (Operand.tmp 54) (Operand.const Value.nilIface) t53_6 Value.nilIface w fun t55_6 w =>
  iff' t55_6
  (Cl prog 18 #[t53_6] w fun t57_6 w =>
  K t57_6 w)
  (ncP t23 <|
  fld 4 t23 w fun t63_6 w =>
  stN 1 t63_6 t2 w fun _ w =>
  ncP t23 <|
  fld 5 t23 w fun t65_6 w =>
  stN 1 t65_6 t3 w fun _ w =>
  K (Value.int IntKind.i64 0) w))))) ∧ (bld (zeroD prog 61) #[(0, 1), (1, 1)] [(0, t50), (1, (Value.int IntKind.i64 207))] w fun t51_6 w =>
  (ld1 t34 w (fun v' w'' => v' = t35 ∧ w'' = w)) ∧ (bld (zeroD prog 61) #[(0, 1), (1, 1)] [(0, t43), (1, (Value.int IntKind.i64 208))] w fun t44_6 w =>
  (ld1 t48 w (fun v' w'' => v' = t49 ∧ w'' = w)) ∧ ((ld1 t34 w (fun v' w'' => v' = t35 ∧ w'' = w)) ∧ (bsl 61 2 4 (zeroD prog 61) [(0, t31_1), (1, t37_5), (2, t44_6), (3, t51_6)] w fun t52_7 w =>
  Cl prog 17 #[t1, t52_7] w fun t53_7 w =>
  bO prog .neq 58 (Operand.tmp 54) (Operand.const Value.nilIface) t53_7 Value.nilIface w fun t55_7 w =>
  iff' t55_7
  (Cl prog 18 #[t53_7] w fun t57_7 w =>
  K t57_7 w)
  (ncP t23 <|
  fld 4 t23 w fun t63_7 w =>
  stN 1 t63_7 t2 w fun _ w =>
  ncP t23 <|
  fld 5 t23 w fun t65_7 w =>
  stN 1 t65_7 t3 w fun _ w =>
  K (Value.int IntKind.i64 0) w)))))))) ∧ ((bld (zeroD prog 61) #[(0, 1), (1, 1)] [(0, t43), (1, (Value.int IntKind.i64 208))] w fun t44_7 w =>
  (ld1 t48 w (fun v' w'' => v' = t49 ∧ w'' = w)) ∧ ((ld1 t34 w (fun v' w'' => v' = t35 ∧ w'' = w)) ∧ ((bld (zeroD prog 61) #[(0, 1), (1, 1)] [(0, t30), (1, (Value.int IntKind.i64 1))] w fun t31_2 w =>
  (ld1 t48 w (fun v' w'' => v' = t49 ∧ w'' = w)) ∧ ((ld1 t34 w (fun v' w'' => v' = t35 ∧ w'' = w)) ∧ (bld (zeroD prog 61) #[(0, 1), (1, 1)] [(0, t50), (1, (Value.int IntKind.i64 207))] w fun t51_7 w =>
  (ld1 t34 w (fun v' w'' => v' = t35 ∧ w'' = w)) ∧ (bsl 61 2 4 (zeroD prog 61) [(0, t31_2), (1, t37_5), (2, t44_7), (3, t51_7)] w fun t52_8 w =>
  Cl prog 17 #[t1, t52_8] w fun t53_8 w =>
  bO prog .neq 58 (Operand.tmp 54) (Operand.const Value.nilIface) t53_8 Value.nilIface w fun t55_8 w =>
  iff' t55_8
  (Cl prog 18 #[t53_8] w fun t57_8 w =>
  K t57_8 w)
  (ncP t23 <|
  fld 4 t23 w fun t63_8 w =>
  stN 1 t63_8 t2 w fun _ w =>
  ncP t23 <|
  fld 5 t23 w fun t65_8 w =>
  stN 1 t65_8 t3 w fun _ w =>
  K (Value.int IntKind.i64 0) w))))) ∧ (bld (zeroD prog 61) #[(0, 1), (1, 1)] [(0, t50), (1, (Value.int IntKind.i64 207))] w fun t51_8 w =>
  (ld1 t34 w (fun v' w'' => v' = t35 ∧ w'' = w)) ∧ (bld (zeroD prog 61) #[(0, 1), (1, 1)] [(0, t30), (1, (Value.int IntKind.i64 1))] w fun t31_3 w =>
  (ld1 t48 w (fun v' w'' => v' = t49 ∧ w'' = w)) ∧ ((ld1 t34 w (fun v' w'' => v' = t35 ∧ w'' = w)) ∧ (bsl 61 2 4 (zeroD prog 61) [(0, t31_3), (1, t37_5), (2, t44_7), (3, t51_8)] w fun t52_9 w =>
  Cl prog 17 #[t1, t52_9] w fun t53_9 w =>
  bO prog .neq 58 (Operand.tmp 54) (Operand.const Value.nilIface) t53_9 Value.nilIface w fun t55_9 w =>
  iff' t55_9
  (Cl prog 18 #[t53_9] w fun t57_9 w =>
  K t57_9 w)
  (ncP t23 <|
  fld 4 t23 w fun t63_9 w =>
  stN 1 t63_9 t2 w fun _ w =>
  ncP t23 <|
  fld 5 t23 w fun t65_9 w =>
  stN 1 t65_9 t3 w fun _ w =>
  K (Value.int IntKind.i64 0) w)))))))) ∧ (bld (zeroD prog 61) #[(0, 1), (1, 1)] [(0, t50), (1, (Value.int IntKind.i64 207))] w fun t51_9 w =>
  (ld1 t34 w (fun v' w'' => v' = t35 ∧ w'' = w)) ∧ ((bld (zeroD prog 61) #[(0, 1), (1, 1)] [(0, t30), (1, (Value.int IntKind.i64 1))] w fun t31_4 w =>
  (ld1 t48 w (fun v' w'' => v' = t49 ∧ w'' = w)) ∧ ((ld1 t34 w (fun v' w'' => v' = t35 ∧ w'' = w)) ∧ (bld (zeroD prog 61) #[(0, 1), (1, 1)] [(0, t43), (1, (Value.int IntKind.i64 208))] w fun t44_8 w =>
  (ld1 t48 w (fun v' w'' => v' = t49 ∧ w'' = w)) ∧ ((ld1 t34 w (fun v' w'' => v' = t35 ∧ w'' = w)) ∧ (bsl 61 2 4 (zeroD prog 61) [(0, t31_4), (1, t37_5), (2, t44_8), (3, t51_9)] w fun t52_10 w =>
  Cl prog 17 #[t1, t52_10] w fun t53_10 w =>
  bO prog .neq 58 (Operand.tmp 54) (Operand.const Value.nilIface) t53_10 Value.nilIface w fun t55_10 w =>
  iff' t55_10
  (Cl prog 18 #[t53_10] w fun t57_10 w =>
  K t57_10 w)
  (ncP t23 <|
  fld 4 t23 w fun t63_10 w =>
  stN 1 t63_10 t2 w fun _ w =>
  ncP t23 <|
  fld 5 t23 w fun t65_10 w =>
  stN 1 t65_10 t3 w fun _ w =>
  K (Value.int IntKind.i64 0) w)))))) ∧ (bld (zeroD prog 61) #[(0, 1), (1, 1)] [(0, t43), (1, (Value.int IntKind.i64 208))] w fun t44_9 w =>
  (ld1 t48 w (fun v' w'' => v' = t49 ∧ w'' = w)) ∧ ((ld1 t34 w (fun v' w'' => v' = t35 ∧ w'' = w)) ∧ (bld (zeroD prog 61) #[(0, 1), (1, 1)] [(0, t30), (1, (Value.int IntKind.i64 1))] w fun t31_5 w =>
  (ld1 t48 w (fun v' w'' => v' = t49 ∧ w'' = w)) ∧ ((ld1 t34 w (fun v' w'' => v' = t35 ∧ w'' = w)) ∧ (bsl 61 2 4 (zeroD prog 61) [(0, t31_5), (1, t37_5), (2, t44_9), (3, t51_9)] w fun t52_11 w =>
  Cl prog 17 #[t1, t52_11] w fun t53_11 w =>
  bO prog .neq 58 (Operand.tmp 54) (Operand.const Value.nilIface) t53_11 Value.nilIface w fun t55_11 w =>
  iff' t55_11
  (Cl prog 18 #[t53_11] w fun t57_11 w =>
  K t57_11 w)
  (ncP t23 <|
  fld 4 t23 w fun t63_11 w =>
  stN 1 t63_11 t2 w fun _ w =>
  ncP t23 <|
  fld 5 t23 w fun t65_11 w =>
  stN 1 t65_11 t3 w fun _ w =>
  K (Value.int IntKind.i64 0) w))))))))))) ∧ ((bld (zeroD prog 61) #[(0, 1), (1, 1)] [(0, t43), (1, (Value.int IntKind.i64 208))] w fun t44_10 w =>
  (ld1 t48 w (fun v' w'' => v' = t49 ∧ w'' = w)) ∧ ((ld1 t34 w (fun v' w'' => v' = t35 ∧ w'' = w)) ∧ ((bld (zeroD prog 61) #[(0, 1), (1, 1)] [(0, t30), (1, (Value.int IntKind.i64 1))] w fun t31_6 w =>
  (ld1 t48 w (fun v' w'' => v' = t49 ∧ w'' = w)) ∧ ((ld1 t34 w (fun v' w'' => v' = t35 ∧ w'' = w)) ∧ ((bld (zeroD prog 61) #[(0, 1), (1, 1)] [(0, t36), (1, (Value.int IntKind.i64 206))] w fun t37_6 w =>
  (ld1 t48 w (fun v' w'' => v' = t49 ∧ w'' = w)) ∧ (bld (zeroD prog 61) #[(0, 1), (1, 1)] [(0, t50), (1, (Value.int IntKind.i64 207))] w fun t51_10 w =>
  (ld1 t34 w (fun v' w'' => v' = t35 ∧ w'' = w)) ∧ (bsl 61 2 4 (zeroD prog 61) [(0, t31_6), (1, t37_6), (2, t44_10), (3, t51_10)] w fun t52_12 w =>
  Cl prog 17 #[t1, t52_12] w fun t53_12 w =>
  bO prog .neq 58 (Operand.tmp 54) (Operand.const Value.nilIface) t53_12 Value.nilIface w fun t55_12 w =>
  iff' t55_12
  (Cl prog 18 #[t53_12] w fun t57_12 w =>
  K t57_12 w)
  (ncP t23 <|
  fld 4 t23 w fun t63_12 w =>
  stN 1 t63_12 t2 w fun _ w =>
  ncP t23 <|
  fld 5 t23 w fun t65_12 w =>
  stN 1 t65_12 t3 w fun _ w =>
  K (Value.int IntKind.i64 0) w)))) ∧ (bld (zeroD prog 61) #[(0, 1), (1, 1)] [(0, t50), (1, (Value.int IntKind.i64 207))] w fun t51_11 w =>
  (ld1 t34 w (fun v' w'' => v' = t35 ∧ w'' = w)) ∧ (bld (zeroD prog 61) #[(0, 1), (1, 1)] [(0, t36), (1, (Value.int IntKind.i64 206))] w fun t37_7 w =>
  (ld1 t48 w (fun v' w'' => v' = t49 ∧ w'' = w)) ∧ (bsl 61 2 4 (zeroD prog 61) [(0, t31_6), (1, t37_7), (2, t44_10), (3, t51_11)] w fun t52_13 w =>
  Cl prog 17 #[t1, t52_13] w fun t53_13 w =>
  bO prog .neq 58 (Operand.tmp 54) (Operand.const Value.nilIface) t53_13 Value.nilIface w fun t55_13 w =>
  iff' t55_13
  (Cl prog 18 #[t53_13] w fun t57_13 w =>
  K t57_13 w)
  (ncP t23 <|
  fld 4 t23 w fun t63_13 w =>
  stN 1 t63_13 t2 w fun _ w =>
  ncP t23 <|
  fld 5 t23 w fun t65_13 w =>
  stN 1 t65_13 t3 w fun _ w =>
  K (Value.int IntKind.i64 0) w))))))) ∧ ((bld (zeroD prog 61) #[(0, 1), (1, 1)] [(0, t36), (1, (Value.int IntKind.i64 206))] w fun t37_8 w =>
  (ld1 t48 w (fun v' w'' => v' = t49 ∧ w'' = w)) ∧ ((bld (zeroD prog 61) #[(0, 1), (1, 1)] [(0, t30), (1, (Value.int IntKind.i64 1))] w fun t31_7 w =>
  (ld1 t48 w (fun v' w'' => v' = t49 ∧ w'' = w)) ∧ ((ld1 t34 w (fun v' w'' => v' = t35 ∧ w'' = w)) ∧ (bld (zeroD prog 61) #[(0, 1), (1, 1)] [(0, t50), (1, (Value.int IntKind.i64 207))] w fun t51_12 w =>
  (ld1 t34 w (fun v' w'' => v' = t35 ∧ w'' = w)) ∧ (bsl 61 2 4 (zeroD prog 61) [(0, t31_7), (1, t37_8), (2, t44_10), (3, t51_12)] w fun t52_14 w =>
  Cl prog 17 #[t1, t52_14] w fun t53_14 w =>
  bO prog .neq 58 (Operand.tmp 54) (Operand.const Value.nilIface) t53_14 Value.nilIface w fun t55_14 w =>
  iff' t55_14
  (Cl prog 18 #[t53_14] w fun t57_14 w =>
  K t57_14 w)
  (ncP t23 <|
  fld 4 t23 w fun t63_14 w =>
  stN 1 t63_14 t2 w fun _ w =>
  ncP t23 <|
  fld 5 t23 w fun t65_14 w =>
  stN 1 t65_14 t3 w fun _ w =>
  K (Value.int IntKind.i64 0) w))))) ∧ (bld (zeroD prog 61) #[(0, 1), (1, 1)] [(0, t50), (1, (Value.int IntKind.i64 207))] w fun t51_13 w =>
  (ld1 t34 w (fun v' w'' => v' = t35 ∧ w'' = w)) ∧ (bld (zeroD prog 61) #[(0, 1), (1, 1)] [(0, t30), (1, (Value.int IntKind.i64 1))] w fun t31_8 w =>
  (ld1 t48 w (fun v' w'' => v' = t49 ∧ w'' = w)) ∧ ((ld1 t34 w (fun v' w'' => v' = t35 ∧ w'' = w)) ∧ (bsl 61 2 4 (zeroD prog 61) [(0, t31_8), (1, t37_8), (2, t44_10), (3, t51_13)] w fun t52_15 w =>
  Cl prog 17 #[t1, t52_15] w fun t53_15 w =>
  bO prog .neq 58 (Operand.tmp 54) (Operand.const Value.nilIface) t53_15 Value.nilIface w fun t55_15 w =>
  iff' t55_15
  (Cl prog 18 #[t53_15] w fun t57_15 w =>
  K t57_15 w)
  (ncP t23 <|
  fld 4 t23 w fun t63_15 w =>
  stN 1 t63_15 t2 w fun _ w =>
  ncP t23 <|
  fld 5 t23 w fun t65_15 w =>
  stN 1 t65_15 t3 w fun _ w =>
  K (Value.int IntKind.i64 0) w))))))) ∧ (bld (zeroD prog 61) #[(0, 1), (1, 1)] [(0, t50), (1, (Value.int IntKind.i64 207))] w fun t51_14 w =>
  (ld1 t34 w (fun v' w'' => v' = t35 ∧ w'' = w)) ∧ ((bld (zeroD prog 61) #[(0, 1), (1, 1)] [(0, t30), (1, (Value.int IntKind.i64 1))] w fun t31_9 w =>
  (ld1 t48 w (fun v' w'' => v' = t49 ∧ w'' = w)) ∧ ((ld1 t34 w (fun v' w'' => v' = t35 ∧ w'' = w)) ∧ (bld (zeroD prog 61) #[(0, 1), (1, 1)] [(0, t36), (1, (Value.int IntKind.i64 206))] w fun t37_9 w =>
  (ld1 t48 w (fun v' w'' => v' = t49 ∧ w'' = w)) ∧ (bsl 61 2 4 (zeroD prog 61) [(0, t31_9), (1, t37_9), (2, t44_10), (3, t51_14)] w fun t52_16 w =>
  Cl prog 17 #[t1, t52_16] w fun t53_16 w =>
  bO prog .neq 58 (Operand.tmp 54) (Operand.const Value.nilIface) t53_16 Value.nilIface w fun t55_16 w =>
  iff' t55_16
  (Cl prog 18 #[t53_16] w fun t57_16 w =>
  K t57_16 w)
  (ncP t23 <|
  fld 4 t23 w fun t63_16 w =>
  stN 1 t63_16 t2 w fun _ w =>
  ncP t23 <|
  fld 5 t23 w fun t65_16 w =>
  stN 1 t65_16 t3 w fun _ w =>
  K (Value.int IntKind.i64 0) w))))) ∧ (bld (zeroD prog 61) #[(0, 1), (1, 1)] [(0, t36), (1, (Value.int IntKind.i64 206))] w fun t37_10 w =>
  (ld1 t48 w (fun v' w'' => v' = t49 ∧ w'' = w)) ∧ (bld (zeroD prog 61) #[(0, 1), (1, 1)] [(0, t30), (1, (Value.int IntKind.i64 1))] w fun t31_10 w =>
  (ld1 t48 w (fun v' w'' => v' = t49 ∧ w'' = w)) ∧ ((ld1 t34 w (fun v' w'' => v' = t35 ∧ w'' = w)) ∧ (bsl 61 2 4 (zeroD prog 61) [(0, t31_10), (1, t37_10), (2, t44_10), (3, t51_14)] w fun t52_17 w =>
  Cl prog 17 #[t1, t52_17] w fun t53_17 w =>
  bO prog .neq 58 (Operand.tmp 54) (Operand.const Value.nilIface) t53_17 Value.nilIface w fun t55_17 w =>
  iff' t55_17
  (Cl prog 18 #[t53_17] w fun t57_17 w =>
  K t57_17 w)
  (ncP t23 <|
  fld 4 t23 w fun t63_17 w =>
  stN 1 t63_17 t2 w fun _ w =>
  ncP t23 <|
  fld 5 t23 w fun t65_17 w =>
  stN 1 t65_17 t3 w fun _ w =>
  K (Value.int IntKind.i64 0) w))))))))))) ∧ (bld (zeroD prog 61) #[(0, 1), (1, 1)] [(0, t50), (1, (Value.int IntKind.i64 207))] w fun t51_15 w =>
  (ld1 t34 w (fun v' w'' => v' = t35 ∧ w'' = w)) ∧ ((bld (zeroD prog 61) #[(0, 1), (1, 1)] [(0, t30), (1, (Value.int IntKind.i64 1))] w fun t31_11 w =>
  (ld1 t48 w (fun v' w'' => v' = t49 ∧ w'' = w)) ∧ ((ld1 t34 w (fun v' w'' => v' = t35 ∧ w'' = w)) ∧ ((bld (zeroD prog 61) #[(0, 1), (1, 1)] [(0, t36), (1, (Value.int IntKind.i64 206))] w fun t37_11 w =>
  (ld1 t48 w (fun v' w'' => v' = t49 ∧ w'' = w)) ∧ (bld (zeroD prog 61) #[(0, 1), (1, 1)] [(0, t43), (1, (Value.int IntKind.i64 208))] w fun t44_11 w =>
  (ld1 t48 w (fun v' w'' => v' = t49 ∧ w'' = w)) ∧ ((ld1 t34 w (fun v' w'' => v' = t35 ∧ w'' = w)) ∧ (bsl 61 2 4 (zeroD prog 61) [(0, t31_11), (1, t37_11), (2, t44_11), (3, t51_15)] w fun t52_18 w =>
  Cl prog 17 #[t1, t52_18] w fun t53_18 w =>
  bO prog .neq 58 (Operand.tmp 54) (Operand.const Value.nilIface) t53_18 Value.nilIface w fun t55_18 w =>
  iff' t55_18
  (Cl prog 18 #[t53_18] w fun t57_18 w =>
  K t57_18 w)
  (ncP t23 <|
  fld 4 t23 w fun t63_18 w =>
  stN 1 t63_18 t2 w fun _ w =>
  ncP t23 <|
  fld 5 t23 w fun t65_18 w =>
  stN 1 t65_18 t3 w fun _ w =>
  K (Value.int IntKind.i64 0) w))))) ∧ (bld (zeroD prog 61) #[(0, 1), (1, 1)] [(0, t43), (1, (Value.int IntKind.i64 208))] w fun t44_12 w =>
  (ld1 t48 w (fun v' w'' => v' = t49 ∧ w'' = w)) ∧ ((ld1 t34 w (fun v' w'' => v' = t35 ∧ w'' = w)) ∧ (bld (zeroD prog 61) #[(0, 1), (1, 1)] [(0, t36), (1, (Value.int IntKind.i64 206))] w fun t37_12 w =>
  (ld1 t48 w (fun v' w'' => v' = t49 ∧ w'' = w)) ∧ (bsl 61 2 4 (zeroD prog 61) [(0, t31_11), (1, t37_12), (2, t44_12), (3, t51_15)] w fun t52_19 w =>
  Cl prog 17 #[t1, t52_19] w fun t53_19 w =>
  bO prog .neq 58 (Operand.tmp 54) (Operand.const Value.nilIface) t53_19 Value.nilIface w fun t55_19 w =>
  iff' t55_19
  (Cl prog 18 #[t53_19] w fun t57_19 w =>
  K t57_19 w)
  (ncP t23 <|
  fld 4 t23 w fun t63_19 w =>
  stN 1 t63_19 t2 w fun _ w =>
  ncP t23 <|
  fld 5 t23 w fun t65_19 w =>
  stN 1 t65_19 t3 w fun _ w =>
  K (Value.int IntKind.i64 0) w)))))))) ∧ ((bld (zeroD prog 61) #[(0, 1), (1, 1)] [(0, t36), (1, (Value.int IntKind.i64 206))] w fun t37_13 w =>
  (ld1 t48 w (fun v' w'' => v' = t49 ∧ w'' = w)) ∧ ((bld (zeroD prog 61) #[(0, 1), (1, 1)] [(0, t30), (1, (Value.int IntKind.i64 1))] w fun t31_12 w =>
  (ld1 t48 w (fun v' w'' => v' = t49 ∧ w'' = w)) ∧ ((ld1 t34 w (fun v' w'' => v' = t35 ∧ w'' = w)) ∧ (bld (zeroD prog 61) #[(0, 1), (1, 1)] [(0, t43), (1, (Value.int IntKind.i64 208))] w fun t44_13 w =>
  (ld1 t48 w (fun v' w'' => v' = t49 ∧ w'' = w)) ∧ ((ld1 t34 w (fun v' w'' => v' = t35 ∧ w'' = w)) ∧ (bsl 61 2 4 (zeroD prog 61) [(0, t31_12), (1, t37_13), (2, t44_13), (3, t51_15)] w fun t52_20 w =>
  Cl prog 17 #[t1, t52_20] w fun t53_20 w =>
  bO prog .neq 58 (Operand.tmp 54) (Operand.const Value.nilIface) t53_20 Value.nilIface w fun t55_20 w =>
  iff' t55_20
  (Cl prog 18 #[t53_20] w fun t57_20 w =>
  K t57_20 w)
  (ncP t23 <|
  fld 4 t23 w fun t63_20 w =>
  stN 1 t63_20 t2 w fun _ w =>
  ncP t23 <|
  fld 5 t23 w fun t65_20 w =>
  stN 1 t65_20 t3 w fun _ w =>
  K (Value.int IntKind.i64 0) w)))))) ∧ (bld (zeroD prog 61) #[(0, 1), (1, 1)] [(0, t43), (1, (Value.int IntKind.i64 208))] w fun t44_14 w =>
  (ld1 t48 w (fun v' w'' => v' = t49 ∧ w'' = w)) ∧ ((ld1 t34 w (fun v' w'' => v' = t35 ∧ w'' = w)) ∧ (bld (zeroD prog 61) #[(0, 1), (1, 1)] [(0, t30), (1, (Value.int IntKind.i64 1))] w fun t31_13 w =>
  (ld1 t48 w (fun v' w'' => v' = t49 ∧ w'' = w)) ∧ ((ld1 t34 w (fun v' w'' => v' = t35 ∧ w'' = w)) ∧ (bsl 61 2 4 (zeroD prog 61) [(0, t31_13), (1, t37_13), (2, t44_14), (3, t51_15)] w fun t52_21 w =>
  Cl prog 17 #[t1, t52_21] w fun t53_21 w =>
  bO prog .neq 58 (Operand.tmp 54) (Operand.const Value.nilIface) t53_21 Value.nilIface w fun t55_21 w =>
  iff' t55_21
  (Cl prog 18 #[t53_21] w fun t57_21 w =>
  K t57_21 w)
  (ncP t23 <|
  fld 4 t23 w fun t63_21 w =>
  stN 1 t63_21 t2 w fun _ w =>
  ncP t23 <|
  fld 5 t23 w fun t65_21 w =>
  stN 1 t65_21 t3 w fun _ w =>
  K (Value.int IntKind.i64 0) w)))))))) ∧ (bld (zeroD prog 61) #[(0, 1), (1, 1)] [(0, t43), (1, (Value.int IntKind.i64 208))] w fun t44_15 w =>
  (ld1 t48 w (fun v' w'' => v' = t49 ∧ w'' = w)) ∧ ((ld1 t34 w (fun v' w'' => v' = t35 ∧ w'' = w)) ∧ ((bld (zeroD prog 61) #[(0, 1), (1, 1)] [(0, t30), (1, (Value.int IntKind.i64 1))] w fun t31_14 w =>
  (ld1 t48 w (fun v' w'' => v' = t49 ∧ w'' = w)) ∧ ((ld1 t34 w (fun v' w'' => v' = t35 ∧ w'' = w)) ∧ (bld (zeroD prog 61) #[(0, 1), (1, 1)] [(0, t36), (1, (Value.int IntKind.i64 206))] w fun t37_14 w =>
  (ld1 t48 w (fun v' w'' => v' = t49 ∧ w'' = w)) ∧ (bsl 61 2 4 (zeroD prog 61) [(0, t31_14), (1, t37_14), (2, t44_15), (3, t51_15)] w fun t52_22 w =>
  Cl prog 17 #[t1, t52_22] w fun t53_22 w =>
  bO prog .neq 58 (Operand.tmp 54) (Operand.const Value.nilIface) t53_22 Value.nilIface w fun t55_22 w =>
  iff' t55_22
  (Cl prog 18 #[t53_22] w fun t57_22 w =>
  K t57_22 w)
  (ncP t23 <|
  fld 4 t23 w fun t63_22 w =>
  stN 1 t63_22 t2 w fun _ w =>
  ncP t23 <|
  fld 5 t23 w fun t65_22 w =>
  stN 1 t65_22 t3 w fun _ w =>
  K (Value.int IntKind.i64 0) w))))) ∧ (bld (zeroD prog 61) #[(0, 1), (1, 1)] [(0, t36), (1, (Value.int IntKind.i64 206))] w fun t37_15 w =>
  (ld1 t48 w (fun v' w'' => v' = t49 ∧ w'' = w)) ∧ (bld (zeroD prog 61) #[(0, 1), (1, 1)] [(0, t30), (1, (Value.int IntKind.i64 1))] w fun t31_15 w =>
  (ld1 t48 w (fun v' w'' => v' = t49 ∧ w'' = w)) ∧ ((ld1 t34 w (fun v' w'' => v' = t35 ∧ w'' = w)) ∧ (bsl 61 2 4 (zeroD prog 61) [(0, t31_15), (1, t37_15), (2, t44_15), (3, t51_15)] w fun t52_23 w =>
  Cl prog 17 #[t1, t52_23] w fun t53_23 w =>
  bO prog .neq 58 (Operand.tmp 54) (Operand.const Value.nilIface) t53_23 Value.nilIface w fun t55_23 w =>
  iff' t55_23
  (Cl prog 18 #[t53_23] w fun t57_23 w =>
  K t57_23 w)
  (ncP t23 <|
  fld 4 t23 w fun t63_23 w =>
  stN 1 t63_23 t2 w fun _ w =>
  ncP t23 <|
  fld 5 t23 w fun t65_23 w =>
  stN 1 t65_23 t3 w fun _ w =>
  K (Value.int IntKind.i64 0) w))))))))))))))
theorem rti_Rti_Ask_eq (t0 t1 t2 t3 : Value) (w : World) (K : KV) : rti_Rti_Ask t0 t1 t2 t3 w K = fnW prog 66 [8] (match fn11.body with | some c => c | none => .skip) #[t0, t1, t2, t3] w K := by kernel_rfl
theorem rti_Rti_Ask_ok : fnOk prog 66 [8] (match fn11.body with | some c => c | none => .skip) = true := by kernel_rfl
theorem rti_Rti_Ask_calls {t0 t1 t2 t3 : Value} {w : World} {K : KV} (h : rti_Rti_Ask t0 t1 t2 t3 w K) : Cl prog 11 #[t0, t1, t2, t3] w K :=
  Cl.mk (by kernel_rfl) (calls_of_F (fn := fn11) (nt := 66) (rs := [8]) mixed fnAt11 (by kernel_rfl) (by kernel_rfl) (by kernel_rfl) (Nat.le_of_ble_eq_true (by kernel_rfl)) rti_Rti_Ask_ok (rti_Rti_Ask_eq t0 t1 t2 t3 w K) h)

/-- (*paceline/rti.Rti).Look -/
def rti_Rti_Look (t0 t1 : Value) (w : World) (K : KV) : Prop :=
  al (zeroD prog 36) 36 w fun t4 w =>
  Cl prog 19 #[t0, t1] w fun t20 w =>
  bO prog .neq 58 (Operand.tmp 21) (Operand.const Value.nilIface) t20 Value.nilIface w fun t22 w =>
  iff' t22
  (bld (zeroD prog 36) #[(0, 1), (1, 1), (2, 1), (3, 1)] [] w fun t23 w =>
  Cl prog 18 #[t20] w fun t25 w =>
  stN 4 t4 t23 w fun _ w =>
  ldN 4 t4 w fun r0 _ =>
  K (Value.tuple #[r0, t25]) w)
  (ncP t0 <|
  fld 2 t0 w fun t29 w =>
  ixA 8 10 t29 t1 w fun t30 w =>
  dr w fun w =>
  ncP t30 <|
  fld 8 t30 w fun t33 _ =>
  ld1 t33 w fun t34 _ =>
  ncP t30 <|
  fld 2 t30 w fun t37 _ =>
  ld1 t37 w fun t38 _ =>
  (bld (zeroD prog 36) #[(0, 1), (1, 1), (2, 1), (3, 1)] [(0, t34), (3, t38)] w fun t39 w =>
  al (zeroD prog 36) 36 w fun t8 w =>
  (ld1 t37 w (fun v' w'' => v' = t38 ∧ w'' = w)) ∧ ((ld1 t33 w (fun v' w'' => v' = t34 ∧ w'' = w)) ∧ (stN 4 t8 t39 w fun _ w =>
  ncP t30 <|
  fld 8 t30 w fun t42 w =>
  stN 1 t42 (Value.slice none 0 0) w fun _ w =>
  ncP t30 <|
  fld 4 t30 w fun t45 w =>
  ld1 t45 w fun t46 w =>
  bi .eql .i64 t46 (Value.int IntKind.i64 0) w fun t47 w =>
  iff' t47
  (ldN 4 t8 w fun t48 w =>
  stN 4 t4 t48 w fun _ w =>
  ldN 4 t4 w fun r0 _ =>
  K (Value.tuple #[r0, (Value.int IntKind.i64 0)]) w)
  (ncP t30 <|
  fld 1 t30 w fun t51 w =>
  ld1 t51 w fun t52 w =>
  J1 (fun t9 w =>
  ncP t30 <|
  fld 7 t30 w fun t58 w =>
  ld1 t58 w fun t59 w =>
  Cl prog 29 #[t59] w fun t60 w =>
  lnS t60 w fun t61 w =>
  lp [(Value.slice none 0 0), (Value.int IntKind.i64 0)] w (b2 fun t10 t62 w g2 =>
  bi .lss .i64 t62 t61 w fun t63 w =>
  iff' t63
  (ixS 6 t60 t62 w fun t64 w =>
  ldN 6 t64 w fun t65 w =>
  al (zeroD prog 42) 42 w fun t12 w =>
  stN 6 t12 t65 w fun _ w =>
  fld 0 t12 w fun t67 w =>
  fld 0 t67 w fun t68 w =>
  ld1 t68 w fun t69 w =>
  bsl 3 1 1 (zeroD prog 3) [(0, t69)] w fun t70 w =>
  apS prog #[23, 23] 23 t10 t70 w fun t71 w =>
  bi .add .i64 t62 (Value.int IntKind.i64 1) w fun t72 w =>
  g2 [t71, t72] w)
  (dr w fun w =>
  ncP t30 <|
  fld 4 t30 w fun t76 _ =>
  ld1 t76 w fun t77 _ =>
  ncP t30 <|
  fld 5 t30 w fun t80 _ =>
  ld1 t80 w fun t81 _ =>
  ncP t30 <|
  fld 2 t30 w fun t84 _ =>
  ld1 t84 w fun t85 _ =>
  Cl prog 30 #[t77, t81, t85, t9, t10] w fun t88 w =>
  xt 0 t88 w fun t89 _ =>
  xt 1 t88 w fun t90 _ =>
  xt 2 t88 w fun t91 _ =>
  bnot t89 w fun t93 w =>
  iff' t93
  (ldN 4 t8 w fun t94 w =>
  stN 4 t4 t94 w fun _ w =>
  ldN 4 t4 w fun r0 _ =>
  K (Value.tuple #[r0, (Value.int IntKind.i64 0)]) w)
  (lp [(Value.int IntKind.i64 0)] w (b1 fun t96 w g3 =>
  bi .lss .i64 t96 t91 w fun t97 w =>
  iff' t97
  (ncP t30 <|
  fld 7 t30 w fun t101 w =>
  ld1 t101 w fun t102 w =>
  Cl prog 31 #[t102] w fun t103 w =>
  xt 0 t103 w fun t104 w =>
  xt 1 t103 w fun _ w =>
  al (zeroD prog 42) 42 w fun t16 w =>
  stN 6 t16 t104 w fun _ w =>
  fld 1 t8 w fun t106 w =>
  ld1 t106 w fun t107 w =>
  ldN 6 t16 w fun t108 w =>
  bsl 42 6 1 (zeroD prog 42) [(0, t108)] w fun t109 w =>
  apS prog #[34, 34] 34 t107 t109 w fun t110 w =>
  fld 1 t8 w fun t111 w =>
  stN 1 t111 t110 w fun _ w =>
  bi .add .i64 t96 (Value.int IntKind.i64 1) w fun t112 w =>
  g3 [t112] w)
  (fld 2 t8 w fun t114 w =>
  stN 1 t114 (Value.bool true) w fun _ w =>
  fld 3 t8 w fun t115 w =>
  stN 1 t115 t90 w fun _ w =>
  ncP t30 <|
  fld 2 t30 w fun t121 w =>
  stN 1 t121 t90 w fun _ w =>
  ncP t30 <|
  fld 4 t30 w fun t123 w =>
  stN 1 t123 (Value.int IntKind.i64 0) w fun _ w =>
  ncP t30 <|
  fld 5 t30 w fun t125 w =>
  stN 1 t125 (Value.int IntKind.i64 0) w fun _ w =>
  ldN 4 t8 w fun t126 w =>
  stN 4 t4 t126 w fun _ w =>
  ldN 4 t4 w fun r0 _ =>
  K (Value.tuple #[r0, (Value.int IntKind.i64 0)]) w)))))) fun k1 =>
  iff' t52
  (Cl prog 23 #[t0, t1] w fun t55 w =>
  k1 t55 w)
  (k1 (Value.int IntKind.i64 1125899906842624) w))))) ∧ (al (zeroD prog 36) 36 w fun t8_1 w =>
  (ld1 t37 w (fun v' w'' => v' = t38 ∧ w'' = w)) ∧ ((ld1 t33 w (fun v' w'' => v' = t34 ∧ w'' = w)) ∧ (bld (zeroD prog 36) #[(0, 1), (1, 1), (2, 1), (3, 1)] [(0, t34), (3, t38)] w fun t39_1 w =>
  stN 4 t8_1 t39_1 w fun _ w =>
  ncP t30 <|
  fld 8 t30 w fun t42_1 w =>
  stN 1 t42_1 (Value.slice none 0 0) w fun _ w =>
  ncP t30 <|
  fld 4 t30 w fun t45_1 w =>
  ld1 t45_1 w fun t46_1 w =>
  bi .eql .i64 t46_1 (Value.int IntKind.i64 0) w fun t47_1 w =>
  iff' t47_1
  (ldN 4 t8_1 w fun t48_1 w =>
  stN 4 t4 t48_1 w fun _ w =>
  ldN 4 t4 w fun r0 _ =>
  K (Value.tuple #[r0, (Value.int IntKind.i64 0)]) w)
  (ncP t30 <|
  fld 1 t30 w fun t51_1 w =>
  ld1 t51_1 w fun t52_1 w =>
  J1 (fun t9_1 w =>
  ncP t30 <|
  fld 7 t30 w fun t58_1 w =>
  ld1 t58_1 w fun t59_1 w =>
  Cl prog 29 #[t59_1] w fun t60_1 w =>
  lnS t60_1 w fun t61_1 w =>
  lp [(Value.slice none 0 0), (Value.int IntKind.i64 0)] w (b2 fun t10_1 t62_1 w g5 =>
  bi .lss .i64 t62_1 t61_1 w fun t63_1 w =>
  iff' t63_1
  (ixS 6 t60_1 t62_1 w fun t64_1 w =>
  ldN 6 t64_1 w fun t65_1 w =>
  al (zeroD prog 42) 42 w fun t12_1 w =>
  stN 6 t12_1 t65_1 w fun _ w =>
  fld 0 t12_1 w fun t67_1 w =>
  fld 0 t67_1 w fun t68_1 w =>
  ld1 t68_1 w fun t69_1 w =>
  bsl 3 1 1 (zeroD prog 3) [(0, t69_1)] w fun t70_1 w =>
  apS prog #[23, 23] 23 t10_1 t70_1 w fun t71_1 w =>
  bi .add .i64 t62_1 (Value.int IntKind.i64 1) w fun t72_1 w =>
  g5 [t71_1, t72_1] w)
  (dr w fun w =>
  ncP t30 <|
  fld 4 t30 w fun t76_1 _ =>
  ld1 t76_1 w fun t77_1 _ =>
  ncP t30 <|
  fld 5 t30 w fun t80_1 _ =>
  ld1 t80_1 w fun t81_1 _ =>
  ncP t30 <|
  fld 2 t30 w fun t84_1 _ =>
  ld1 t84_1 w fun t85_1 _ =>
  Cl prog 30 #[t77_1, t81_1, t85_1, t9_1, t10_1] w fun t88_1 w =>
  xt 0 t88_1 w fun t89_1 _ =>
  xt 1 t88_1 w fun t90_1 _ =>
  xt 2 t88_1 w fun t91_1 _ =>
  bnot t89_1 w fun t93_1 w =>
  iff' t93_1
  (ldN 4 t8_1 w fun t94_1 w =>
  stN 4 t4 t94_1 w fun _ w =>
  ldN 4 t4 w fun r0 _ =>
  K (Value.tuple #[r0, (Value.int IntKind.i64 0)]) w)
  (lp [(Value.int IntKind.i64 0)] w (b1 fun t96_1 w g6 =>
  bi .lss .i64 t96_1 t91_1 w fun t97_1 w =>
  iff' t97_1
  (ncP t30 <|
  fld 7 t30 w fun t101_1 w =>
  ld1 t101_1 w fun t102_1 w =>
  Cl prog 31 #[t102_1] w fun t103_1 w =>
  xt 0 t103_1 w fun t104_1 w =>
  xt 1 t103_1 w fun _ w =>
  al (zeroD prog 42) 42 w fun t16_1 w =>
  stN 6 t16_1 t104_1 w fun _ w =>
  fld 1 t8_1 w fun t106_1 w =>
  ld1 t106_1 w fun t107_1 w =>
  ldN 6 t16_1 w fun t108_1 w =>
  bsl 42 6 1 (zeroD prog 42) [(0, t108_1)] w fun t109_1 w =>
  apS prog #[34, 34] 34 t107_1 t109_1 w fun t110_1 w =>
  fld 1 t8_1 w fun t111_1 w =>
  stN 1 t111_1 t110_1 w fun _ w =>
  bi .add .i64 t96_1 (Value.int IntKind.i64 1) w fun t112_1 w =>
  g6 [t112_1] w)
  (fld 2 t8_1 w fun t114_1 w =>
  stN 1 t114_1 (Value.bool true) w fun _ w =>
  fld 3 t8_1 w fun t115_1 w =>
  stN 1 t115_1 t90_1 w fun _ w =>
  ncP t30 <|
  fld 2 t30 w fun t121_1 w =>
  stN 1 t121_1 t90_1 w fun _ w =>
  ncP t30 <|
  fld 4 t30 w fun t123_1 w =>
  stN 1 t123_1 (Value.int IntKind.i64 0) w fun _ w =>
  ncP t30 <|
  fld 5 t30 w fun t125_1 w =>
  stN 1 t125_1 (Value.int IntKind.i64 0) w fun _ w =>
  ldN 4 t8_1 w fun t126_1 w =>
  stN 4 t4 t126_1 w fun _ w =>
  ldN 4 t4 w fun r0 _ =>
  K (Value.tuple #[r0, (Value.int IntKind.i64 0)]) w)))))) fun k4 =>
  iff' t52_1
  (Cl prog 23 #[t0, t1] w fun t55_1 w =>
  k4 t55_1 w)
  (k4 (Value.int IntKind.i64 1125899906842624) w))))))
theorem rti_Rti_Look_eq (t0 t1 : Value) (w : World) (K : KV) : rti_Rti_Look t0 t1 w K = fnWC prog 127 [(4, some 36), (5, none)] (match fn12.body with | some c => c | none => .skip) #[t0, t1] w K := by kernel_rfl
theorem rti_Rti_Look_ok : fnOkC prog 127 [(4, some 36), (5, none)] (match fn12.body with | some c => c | none => .skip) = true := by kernel_rfl
theorem rti_Rti_Look_calls {t0 t1 : Value} {w : World} {K : KV} (h : rti_Rti_Look t0 t1 w K) : Cl prog 12 #[t0, t1] w K :=
  Cl.mk (by kernel_rfl) (calls_of_FC (fn := fn12) (nt := 127) (rs := [(4, some 36), (5, none)]) mixed fnAt12 (by kernel_rfl) (by kernel_rfl) (by kernel_rfl) (Nat.le_of_ble_eq_true (by kernel_rfl)) rti_Rti_Look_ok (rti_Rti_Look_eq t0 t1 w K) h)

/-- (*paceline/rti.Rti).Time -/
def rti_Rti_Time (t0 t1 : Value) (w : World) (K : KV) : Prop :=
  bi .lss .i64 t1 (Value.int IntKind.i64 0) w fun t6 w =>
  gd t6 false (fun k => k t1 w) w fun t8 w =>
  gd t6 false (fun k => bi .geq .i64 t8 (Value.int IntKind.i64 8) w k) w fun t9 w =>
  pk t6 (Value.bool true) t9 w fun t10 w =>
  gd t10 false (fun k => k t0 w) w fun t12 w =>
  gd t10 false (fun k => k t1 w) w fun t13 w =>
  gd t10 false (fun k => nc t12 w k) w fun t14 w =>
  gd t10 false (fun k => fld 2 t14 w k) w fun t15 w =>
  gd t10 false (fun k => ixA 8 10 t15 t13 w k) w fun t16 w =>
  gd t10 false (fun k => fld 0 t16 w k) w fun t17 w =>
  gd t10 false (fun k => ld1 t17 w k) w fun t18 w =>
  gd t10 false (fun k => bnot t18 w k) w fun t19 w =>
  pk t10 (Value.bool true) t19 w fun t20 w =>
  iff' t20
  (K (Value.int IntKind.i64 (-1)) w)
  (ncP t0 <|
  fld 2 t0 w fun t24 w =>
  ixA 8 10 t24 t1 w fun t25 w =>
  fld 2 t25 w fun t26 w =>
  ld1 t26 w fun t27 w =>
  K t27 w)
theorem rti_Rti_Time_eq (t0 t1 : Value) (w : World) (K : KV) : rti_Rti_Time t0 t1 w K = fnW prog 28 [4] (match fn13.body with | some c => c | none => .skip) #[t0, t1] w K := by kernel_rfl
theorem rti_Rti_Time_ok : fnOk prog 28 [4] (match fn13.body with | some c => c | none => .skip) = true := by kernel_rfl
theorem rti_Rti_Time_calls {t0 t1 : Value} {w : World} {K : KV} (h : rti_Rti_Time t0 t1 w K) : Cl prog 13 #[t0, t1] w K :=
  Cl.mk (by kernel_rfl) (calls_of_F (fn := fn13) (nt := 28) (rs := [4]) mixed fnAt13 (by kernel_rfl) (by kernel_rfl) (by kernel_rfl) (Nat.le_of_ble_eq_true (by kernel_rfl)) rti_Rti_Time_ok (rti_Rti_Time_eq t0 t1 w K) h)

/-- paceline/pubsub.New -/
def pubsub_New (t0 : Value) (w : World) (K : KV) : Prop :=
  Cl prog 32 #[t0] w fun t10 w =>
  bi .neq .i64 t10 (Value.int IntKind.i64 0) w fun t12 w =>
  iff' t12
  (K (Value.tuple #[(Value.pointer none), t10]) w)
  (bld (zeroD prog 82) #[(0, 1), (1, 8), (9, 8)] [] w fun t14 w =>
  al (Value.cells t14) 82 w fun t15 w =>
  lnS t0 w fun t17 w =>
  lp [(Value.int IntKind.i64 0)] w (b1 fun t18 w g1 =>
  bi .lss .i64 t18 t17 w fun t19 w =>
  iff' t19
  (ixS 1 t0 t18 w fun t21 w =>
  ld1 t21 w fun t22 w =>
  cvI .u64 t18 w fun t24 w =>
  bO prog .shl 50 (Operand.const (Value.int IntKind.u32 1)) (Operand.tmp 24) (Value.int IntKind.u32 1) t24 w fun t25 w =>
  bi .geq .i64 t22 (Value.int IntKind.i64 0) w fun t27 w =>
  J1 (fun t8 w =>
  ncP t15 <|
  fld 0 t15 w fun t40 w =>
  ld1 t40 w fun t41 w =>
  bsl 50 1 1 (zeroD prog 50) [(0, t8)] w fun t43 w =>
  apS prog #[79, 79] 79 t41 t43 w fun t44 w =>
  ncP t15 <|
  fld 0 t15 w fun t46 w =>
  stN 1 t46 t44 w fun _ w =>
  bi .add .i64 t18 (Value.int IntKind.i64 1) w fun t47 w =>
  g1 [t47] w) fun k2 =>
  iff' t27
  (ncP t15 <|
  fld 0 t15 w fun t31 w =>
  ld1 t31 w fun t32 w =>
  ixS 1 t32 t22 w fun t34 w =>
  ld1 t34 w fun t35 w =>
  bO prog .or 50 (Operand.tmp 28) (Operand.tmp 35) t25 t35 w fun t36 w =>
  k2 t36 w)
  (k2 t25 w))
  (K (Value.tuple #[t15, (Value.int IntKind.i64 0)]) w)))
theorem pubsub_New_eq (t0 : Value) (w : World) (K : KV) : pubsub_New t0 w K = fnW prog 49 [2, 3] (match fn14.body with | some c => c | none => .skip) #[t0] w K := by kernel_rfl
theorem pubsub_New_ok : fnOk prog 49 [2, 3] (match fn14.body with | some c => c | none => .skip) = true := by kernel_rfl
theorem pubsub_New_calls {t0 : Value} {w : World} {K : KV} (h : pubsub_New t0 w K) : Cl prog 14 #[t0] w K :=
  Cl.mk (by kernel_rfl) (calls_of_F (fn := fn14) (nt := 49) (rs := [2, 3]) mixed fnAt14 (by kernel_rfl) (by kernel_rfl) (by kernel_rfl) (Nat.le_of_ble_eq_true (by kernel_rfl)) pubsub_New_ok (pubsub_New_eq t0 w K) h)

/-- slices.Clone[[]int,int] -/
def slices_Clone_int_int (t0 : Value) (w : World) (K : KV) : Prop :=
  bO prog .eql 23 (Operand.tmp 3) (Operand.const (Value.slice none 0 0)) t0 (Value.slice none 0 0) w fun t4 w =>
  iff' t4
  (K (Value.slice none 0 0) w)
  (bsl 3 1 0 #[] [] w fun t5 w =>
  apS prog #[23, 23] 23 t5 t0 w fun t7 w =>
  K t7 w)
theorem slices_Clone_int_int_eq (t0 : Value) (w : World) (K : KV) : slices_Clone_int_int t0 w K = fnW prog 8 [2] (match fn15.body with | some c => c | none => .skip) #[t0] w K := by kernel_rfl
theorem slices_Clone_int_int_ok : fnOk prog 8 [2] (match fn15.body with | some c => c | none => .skip) = true := by kernel_rfl
theorem slices_Clone_int_int_calls {t0 : Value} {w : World} {K : KV} (h : slices_Clone_int_int t0 w K) : Cl prog 15 #[t0] w K :=
  Cl.mk (by kernel_rfl) (calls_of_F (fn := fn15) (nt := 8) (rs := [2]) mixed fnAt15 (by kernel_rfl) (by kernel_rfl) (by kernel_rfl) (Nat.le_of_ble_eq_true (by kernel_rfl)) slices_Clone_int_int_ok (slices_Clone_int_int_eq t0 w K) h)

/-- paceline/prio.New -/
def prio_New (t0 : Value) (w : World) (K : KV) : Prop :=
  mnI .i64 t0 (Value.int IntKind.i64 64) w fun t4 w =>
  mxI .i64 (Value.int IntKind.i64 0) t4 w fun t5 w =>
  mkMap w fun t6 w =>
  bld (zeroD prog 86) #[(0, 1), (1, 1), (2, 1)] [(0, t5), (2, t6)] w fun t7 w =>
  al (Value.cells t7) 86 w fun t8 w =>
  K t8 w
theorem prio_New_eq (t0 : Value) (w : World) (K : KV) : prio_New t0 w K = fnW prog 9 [2] (match fn16.body with | some c => c | none => .skip) #[t0] w K := by kernel_rfl
theorem prio_New_ok : fnOk prog 9 [2] (match fn16.body with | some c => c | none => .skip) = true := by kernel_rfl
theorem prio_New_calls {t0 : Value} {w : World} {K : KV} (h : prio_New t0 w K) : Cl prog 16 #[t0] w K :=
  Cl.mk (by kernel_rfl) (calls_of_F (fn := fn16) (nt := 9) (rs := [2]) mixed fnAt16 (by kernel_rfl) (by kernel_rfl) (by kernel_rfl) (Nat.le_of_ble_eq_true (by kernel_rfl)) prio_New_ok (prio_New_eq t0 w K) h)

/-- paceline/rti.all -/
def rti_all (t0 t1 : Value) (w : World) (K : KV) : Prop :=
  lnS t1 w fun t8 w =>
  lp [(Value.int IntKind.i64 0)] w (b1 fun t9 w g1 =>
  bi .lss .i64 t9 t8 w fun t10 w =>
  iff' t10
  (ixS 2 t1 t9 w fun t11 w =>
  ldN 2 t11 w fun t12 w =>
  al (zeroD prog 61) 61 w fun t6 w =>
  stN 2 t6 t12 w fun _ w =>
  fld 0 t6 w fun t13 w =>
  ld1 t13 w fun t14 w =>
  bnot t14 w fun t15 w =>
  iff' t15
  (fld 1 t6 w fun t17 w =>
  ld1 t17 w fun t18 w =>
  bld (zeroD prog 90) #[(0, 1), (1, 1)] [(0, t0), (1, (Value.iface 25 t18))] w fun t20 w =>
  al (Value.cells t20) 90 w fun t21 w =>
  K (Value.iface 88 t21) w)
  (bi .add .i64 t9 (Value.int IntKind.i64 1) w fun t23 w =>
  g1 [t23] w))
  (K Value.nilIface w))
theorem rti_all_eq (t0 t1 : Value) (w : World) (K : KV) : rti_all t0 t1 w K = fnW prog 24 [4] (match fn17.body with | some c => c | none => .skip) #[t0, t1] w K := by kernel_rfl
theorem rti_all_ok : fnOk prog 24 [4] (match fn17.body with | some c => c | none => .skip) = true := by kernel_rfl
theorem rti_all_calls {t0 t1 : Value} {w : World} {K : KV} (h : rti_all t0 t1 w K) : Cl prog 17 #[t0, t1] w K :=
  Cl.mk (by kernel_rfl) (calls_of_F (fn := fn17) (nt := 24) (rs := [4]) mixed fnAt17 (by kernel_rfl) (by kernel_rfl) (by kernel_rfl) (Nat.le_of_ble_eq_true (by kernel_rfl)) rti_all_ok (rti_all_eq t0 t1 w K) h)

/-- (*paceline/rti.Rti).by -/
def rti_Rti_by (t0 t1 : Value) (w : World) (K : KV) : Prop :=
  bi .lss .i64 t1 (Value.int IntKind.i64 0) w fun t6 w =>
  gd t6 false (fun k => k t1 w) w fun t8 w =>
  gd t6 false (fun k => bi .geq .i64 t8 (Value.int IntKind.i64 8) w k) w fun t9 w =>
  pk t6 (Value.bool true) t9 w fun t10 w =>
  iff' t10
  (bld (zeroD prog 90) #[(0, 1), (1, 1)] [(0, t1), (1, (Value.iface 25 (Value.int IntKind.i64 1)))] w fun t13 w =>
  al (Value.cells t13) 90 w fun t14 w =>
  K (Value.iface 88 t14) w)
  (dr w fun w =>
  ncP t0 <|
  fld 2 t0 w fun t20 _ =>
  ixA 8 10 t20 t1 w fun t21 _ =>
  fld 0 t21 w fun t22 _ =>
  ld1 t22 w fun t23 _ =>
  ncP t0 <|
  fld 82 t0 w fun t27 _ =>
  ld1 t27 w fun t28 _ =>
  bnot t28 w fun t29 _ =>
  (bld (zeroD prog 61) #[(0, 1), (1, 1)] [(0, t23), (1, (Value.int IntKind.i64 201))] w fun t24 w =>
  (ld1 t27 w (fun v' w'' => v' = t28 ∧ w'' = w)) ∧ (bld (zeroD prog 61) #[(0, 1), (1, 1)] [(0, t29), (1, (Value.int IntKind.i64 212))] w fun t30 w =>
  (ld1 t22 w (fun v' w'' => v' = t23 ∧ w'' = w)) ∧ (bsl 61 2 2 (zeroD prog 61) [(0, t24), (1, t30)] w fun t31 w =>
  Cl prog 17 #[t1, t31] w fun t32 w =>
  K t32 w))) ∧ (bld (zeroD prog 61) #[(0, 1), (1, 1)] [(0, t29), (1, (Value.int IntKind.i64 212))] w fun t30_1 w =>
  (ld1 t22 w (fun v' w'' => v' = t23 ∧ w'' = w)) ∧ (bld (zeroD prog 61) #[(0, 1), (1, 1)] [(0, t23), (1, (Value.int IntKind.i64 201))] w fun t24_1 w =>
  (ld1 t27 w (fun v' w'' => v' = t28 ∧ w'' = w)) ∧ (bsl 61 2 2 (zeroD prog 61) [(0, t24_1), (1, t30_1)] w fun t31_1 w =>
  Cl prog 17 #[t1, t31_1] w fun t32_1 w =>
  K t32_1 w))))
theorem rti_Rti_by_eq (t0 t1 : Value) (w : World) (K : KV) : rti_Rti_by t0 t1 w K = fnW prog 33 [4] (match fn19.body with | some c => c | none => .skip) #[t0, t1] w K := by kernel_rfl
theorem rti_Rti_by_ok : fnOk prog 33 [4] (match fn19.body with | some c => c | none => .skip) = true := by kernel_rfl
theorem rti_Rti_by_calls {t0 t1 : Value} {w : World} {K : KV} (h : rti_Rti_by t0 t1 w K) : Cl prog 19 #[t0, t1] w K :=
  Cl.mk (by kernel_rfl) (calls_of_F (fn := fn19) (nt := 33) (rs := [4]) mixed fnAt19 (by kernel_rfl) (by kernel_rfl) (by kernel_rfl) (Nat.le_of_ble_eq_true (by kernel_rfl)) rti_Rti_by_ok (rti_Rti_by_eq t0 t1 w K) h)

end Go.Proofs.YtmgaooeeddmbmaaGreatDoor
