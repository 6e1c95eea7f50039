/- Printed by prt.py: the Go functions of this seat as shallow predicate transformers. Conditions: none. -/
import Derived.Test.YtcocbmbadigjbaaEngO
import Derived.Test.YtcocbmbadigjbaaEngY
import Derived.Test.YtcocbmbadigjbaaPfHead
import Derived.KernelRfl
namespace Go.Proofs.Ytcocbmbadigjbaa
open Go Go.E
set_option linter.unusedVariables false
set_option maxRecDepth 100000
/-- paceline/pacelinelaw10.LinkCounts -/
def pacelinelaw10_LinkCounts (t0 : Value) (w : World) (K : KV) : Prop :=
  lnS t0 w fun t17 w =>
  bi .gtr .i64 t17 (Value.int IntKind.i64 200) w fun t18 w =>
  iff' t18
  (K (Value.bool true) w)
  (Cl prog 6 #[(Value.int IntKind.i64 4), (Value.int IntKind.i64 16)] w fun t20 w =>
  xt 0 t20 w fun t21 w =>
  xt 1 t20 w fun t22 w =>
  bi .neq .i64 t22 (Value.int IntKind.i64 0) w fun t24 w =>
  gd t24 false (fun k => k t21 w) w fun t26 w =>
  gd t24 false (fun k => bn .eql t26 w k) w fun t27 w =>
  pk t24 (Value.bool true) t27 w fun t28 w =>
  iff' t28
  (K (Value.bool false) w)
  (bsl 33 8 0 #[] [] w fun t29 w =>
  lp [t29, (Value.int IntKind.i64 0)] w (b2 fun t5 t6 w g1 =>
  lnS t0 w fun t32 w =>
  bi .lss .i64 t6 t32 w fun t33 w =>
  iff' t33
  (ixS 11 t0 t6 w fun t38 w =>
  ldN 11 t38 w fun t39 w =>
  al (zeroD prog 35) 35 w fun t7 w =>
  stN 11 t7 t39 w fun _ w =>
  fld 3 t7 w fun t41 w =>
  fld 1 t41 w fun t42 w =>
  fld 5 t42 w fun t43 w =>
  stN 1 t43 t6 w fun _ w =>
  fld 0 t7 w fun t44 w =>
  ld1 t44 w fun t45 w =>
  bi .eql .i64 t45 (Value.int IntKind.i64 0) w fun t46 w =>
  gd t46 true (fun k => k t21 w) w fun t48 w =>
  gd t46 true (fun k => fld 1 t7 w k) w fun t49 w =>
  gd t46 true (fun k => ld1 t49 w k) w fun t50 w =>
  gd t46 true (fun k => fld 2 t7 w k) w fun t51 w =>
  gd t46 true (fun k => ld1 t51 w k) w fun t52 w =>
  gd t46 true (fun k => fld 3 t7 w k) w fun t53 w =>
  gd t46 true (fun k => ldN 8 t53 w k) w fun t54 w =>
  gd t46 true (fun k => Cl prog 7 #[t48, t50, t52, t54] w k) w fun t55 w =>
  gd t46 true (fun k => bi .eql .i64 t55 (Value.int IntKind.i64 0) w k) w fun t56 w =>
  pk t46 t56 (Value.bool false) w fun t57 w =>
  J1 (fun t5_1 w =>
  fld 0 t7 w fun t63 w =>
  ld1 t63 w fun t64 w =>
  bi .eql .i64 t64 (Value.int IntKind.i64 1) w fun t65 w =>
  J1 (fun t5_2 w =>
  lp [(Value.int IntKind.i64 0), (Value.int IntKind.i64 0), (Value.int IntKind.i64 1125899906842624), (Value.int IntKind.i64 0)] w (b4 fun t12 t13 t14 t15 w g4 =>
  lnS t5_2 w fun t111 w =>
  bi .lss .i64 t15 t111 w fun t112 w =>
  iff' t112
  (J3 (fun t12_1 t13_1 t14_1 w =>
  bi .add .i64 t15 (Value.int IntKind.i64 1) w fun t114 w =>
  g4 [t12_1, t13_1, t14_1, t114] w) fun k5 =>
  ixS 8 t5_2 t15 w fun t117 w =>
  fld 0 t117 w fun t118 w =>
  ld1 t118 w fun t119 w =>
  bi .neq .i64 t119 (Value.int IntKind.i64 2) w fun t120 w =>
  iff' t120
  (ixS 8 t5_2 t15 w fun t123 w =>
  fld 7 t123 w fun t124 w =>
  ld1 t124 w fun t125 w =>
  bi .eql .i64 t125 (Value.int IntKind.i64 0) w fun t126 w =>
  J2 (fun t12_2 t13_2 w =>
  ixS 8 t5_2 t15 w fun t134 w =>
  fld 1 t134 w fun t135 w =>
  fld 0 t135 w fun t136 w =>
  fld 0 t136 w fun t137 w =>
  ld1 t137 w fun t138 w =>
  mxI .i64 (Value.int IntKind.i64 0) t138 w fun t139 w =>
  mnI .i64 t14 t139 w fun t140 w =>
  k5 t12_2 t13_2 t140 w) fun k6 =>
  iff' t126
  (bi .add .i64 t12 (Value.int IntKind.i64 1) w fun t128 w =>
  k6 t128 t13 w)
  (bi .add .i64 t13 (Value.int IntKind.i64 1) w fun t130 w =>
  k6 t12 t130 w))
  (k5 t12 t13 t14 w))
  (Cl prog 9 #[t21, (Value.int IntKind.i64 0)] w fun t142 w =>
  bi .neq .i64 t142 t12 w fun t144 w =>
  gd t144 false (fun k => k t21 w) w fun t146 w =>
  gd t144 false (fun k => Cl prog 9 #[t146, (Value.int IntKind.i64 1)] w k) w fun t147 w =>
  gd t144 false (fun k => k t13 w) w fun t148 w =>
  gd t144 false (fun k => bi .neq .i64 t147 t148 w k) w fun t149 w =>
  pk t144 (Value.bool true) t149 w fun t150 w =>
  gd t150 false (fun k => k t21 w) w fun t152 w =>
  gd t150 false (fun k => Cl prog 10 #[t152] w k) w fun t153 w =>
  gd t150 false (fun k => k t5_2 w) w fun t154 w =>
  gd t150 false (fun k => lnS t154 w k) w fun t155 w =>
  gd t150 false (fun k => bi .neq .i64 t153 t155 w k) w fun t156 w =>
  pk t150 (Value.bool true) t156 w fun t157 w =>
  gd t157 false (fun k => k t21 w) w fun t159 w =>
  gd t157 false (fun k => Cl prog 11 #[t159] w k) w fun t160 w =>
  gd t157 false (fun k => k t14 w) w fun t161 w =>
  gd t157 false (fun k => bi .neq .i64 t160 t161 w k) w fun t162 w =>
  gd t157 false (fun k => k t162 w) w fun t163 w =>
  gd t163 true (fun k => k t14 w) w fun t164 w =>
  gd t163 true (fun k => bi .leq .i64 t164 (Value.int IntKind.i64 1099511627776) w k) w fun t165 w =>
  gd t157 false (fun k => pk t163 t165 (Value.bool false) w k) w fun t166 w =>
  pk t157 (Value.bool true) t166 w fun t167 w =>
  iff' t167
  (K (Value.bool false) w)
  (bi .add .i64 t6 (Value.int IntKind.i64 1) w fun t35 w =>
  g1 [t5_2, t35] w)))) fun k3 =>
  iff' t65
  (fld 1 t7 w fun t68 w =>
  ld1 t68 w fun t69 w =>
  fld 2 t7 w fun t70 w =>
  ld1 t70 w fun t71 w =>
  Cl prog 8 #[t21, t69, t71] w fun t72 w =>
  xt 0 t72 w fun t73 w =>
  xt 1 t72 w fun t74 w =>
  al (zeroD prog 33) 33 w fun t8 w =>
  stN 8 t8 t73 w fun _ w =>
  bsl 33 8 0 #[] [] w fun t75 w =>
  lp [t75, (Value.int IntKind.i64 0)] w (b2 fun t10 t11 w g7 =>
  lnS t5_1 w fun t78 w =>
  bi .lss .i64 t11 t78 w fun t79 w =>
  iff' t79
  (J1 (fun t10_1 w =>
  bi .add .i64 t11 (Value.int IntKind.i64 1) w fun t81 w =>
  g7 [t10_1, t81] w) fun k8 =>
  dr w fun w =>
  bnot t74 w fun t83 _ =>
  gd t83 false (fun k => k t5_1 w) w fun t85 _ =>
  gd t83 false (fun k => k t11 w) w fun t86 _ =>
  gd t83 false (fun k => ixS 8 t85 t86 w k) w fun t87 _ =>
  gd t83 false (fun k => ldN 8 t87 w k) w fun t88 _ =>
  gd t83 false (fun k => ldN 8 t8 w k) w fun t89 _ =>
  gd t83 false (fun k => bO prog .neq 33 (Operand.tmp 88) (Operand.tmp 89) t88 t89 w k) w fun t90 w =>
  pk t83 (Value.bool true) t90 w fun t91 _ =>
  iff' t91
  (ixS 8 t5_1 t11 w fun t95 w =>
  ldN 8 t95 w fun t96 w =>
  bsl 33 8 1 (zeroD prog 33) [(0, t96)] w fun t97 w =>
  apS prog #[27, 27] 27 t10 t97 w fun t98 w =>
  k8 t98 w)
  (k8 t10 w))
  (gd t74 true (fun k => k t10 w) w fun t101 w =>
  gd t74 true (fun k => lnS t101 w k) w fun t102 w =>
  gd t74 true (fun k => k t5_1 w) w fun t103 w =>
  gd t74 true (fun k => lnS t103 w k) w fun t104 w =>
  gd t74 true (fun k => bi .sub .i64 t104 (Value.int IntKind.i64 1) w k) w fun t105 w =>
  gd t74 true (fun k => bi .neq .i64 t102 t105 w k) w fun t106 w =>
  pk t74 t106 (Value.bool false) w fun t107 w =>
  iff' t107
  (K (Value.bool false) w)
  (k3 t10 w))))
  (k3 t5_1 w)) fun k2 =>
  iff' t57
  (fld 3 t7 w fun t59 w =>
  ldN 8 t59 w fun t60 w =>
  bsl 33 8 1 (zeroD prog 33) [(0, t60)] w fun t61 w =>
  apS prog #[27, 27] 27 t5 t61 w fun t62 w =>
  k2 t62 w)
  (k2 t5 w))
  (bld (zeroD prog 33) #[(0, 1), (1, 6), (7, 1)] [] w fun t169 w =>
  Cl prog 7 #[t21, (Value.int IntKind.i64 0), (Value.int IntKind.i64 0), t169] w fun t170 w =>
  bi .eql .i64 t170 (Value.int IntKind.i64 1) w fun t171 w =>
  K t171 w))))
theorem pacelinelaw10_LinkCounts_eq (t0 : Value) (w : World) (K : KV) : pacelinelaw10_LinkCounts t0 w K = fnW prog 172 [2] (match fn3.body with | some c => c | none => .skip) #[t0] w K := by kernel_rfl
theorem pacelinelaw10_LinkCounts_ok : fnOk prog 172 [2] (match fn3.body with | some c => c | none => .skip) = true := by kernel_rfl
theorem pacelinelaw10_LinkCounts_calls {t0 : Value} {w : World} {K : KV} (h : pacelinelaw10_LinkCounts t0 w K) : Cl prog 3 #[t0] w K :=
  Cl.mk (by kernel_rfl) (calls_of_F (fn := fn3) (nt := 172) (rs := [2]) mixed fnAt3 (by kernel_rfl) (by kernel_rfl) (by kernel_rfl) (Nat.le_of_ble_eq_true (by kernel_rfl)) pacelinelaw10_LinkCounts_ok (pacelinelaw10_LinkCounts_eq t0 w K) h)

/-- paceline/pacelinelaw10.LinkFull -/
def pacelinelaw10_LinkFull (t0 t1 : Value) (w : World) (K : KV) : Prop :=
  cvI .i64 t0 w fun t16 w =>
  bi .rem .i64 t16 (Value.int IntKind.i64 16) w fun t17 w =>
  bi .add .i64 (Value.int IntKind.i64 1) t17 w fun t18 w =>
  Cl prog 6 #[(Value.int IntKind.i64 2), t18] w fun t21 w =>
  xt 0 t21 w fun t22 w =>
  xt 1 t21 w fun t23 w =>
  bi .neq .i64 t23 (Value.int IntKind.i64 0) w fun t25 w =>
  gd t25 false (fun k => k t22 w) w fun t27 w =>
  gd t25 false (fun k => bn .eql t27 w k) w fun t28 w =>
  pk t25 (Value.bool true) t28 w fun t29 w =>
  iff' t29
  (K (Value.bool false) w)
  (lp [(Value.int IntKind.i64 0)] w (b1 fun t8 w g1 =>
  cvI .i64 t1 w fun t32 w =>
  bi .rem .i64 t32 (Value.int IntKind.i64 6) w fun t33 w =>
  bi .add .i64 (Value.int IntKind.i64 1) t33 w fun t34 w =>
  bi .lss .i64 t8 t34 w fun t35 w =>
  iff' t35
  (lp [(Value.int IntKind.i64 0)] w (b1 fun t9 w g2 =>
  bi .lss .i64 t9 t18 w fun t40 w =>
  iff' t40
  (Cl prog 12 #[t22, (Value.int IntKind.i64 0), (Value.int IntKind.i64 1)] w fun t44 w =>
  bi .sub .i64 t18 t9 w fun t47 w =>
  bi .neq .i64 t44 t47 w fun t48 w =>
  gd t48 false (fun k => k t22 w) w fun t50 w =>
  gd t48 false (fun k => k t9 w) w fun t51 w =>
  gd t48 false (fun k => bld (zeroD prog 31) #[(0, 3), (3, 1), (4, 1), (5, 1)] [(3, t51)] w k) w fun t52 w =>
  gd t48 false (fun k => bld (zeroD prog 33) #[(0, 1), (1, 6), (7, 1)] [(1, t52)] w k) w fun t53 w =>
  gd t48 false (fun k => Cl prog 7 #[t50, (Value.int IntKind.i64 0), (Value.int IntKind.i64 1), t53] w k) w fun t54 w =>
  gd t48 false (fun k => bi .neq .i64 t54 (Value.int IntKind.i64 0) w k) w fun t55 w =>
  pk t48 (Value.bool true) t55 w fun t56 w =>
  iff' t56
  (K (Value.bool false) w)
  (bi .add .i64 t9 (Value.int IntKind.i64 1) w fun t42 w =>
  g2 [t42] w))
  (bld (zeroD prog 33) #[(0, 1), (1, 6), (7, 1)] [] w fun t58 w =>
  Cl prog 7 #[t22, (Value.int IntKind.i64 0), (Value.int IntKind.i64 1), t58] w fun t59 w =>
  bi .neq .i64 t59 (Value.int IntKind.i64 2) w fun t60 w =>
  gd t60 false (fun k => k t22 w) w fun t62 w =>
  gd t60 false (fun k => Cl prog 10 #[t62] w k) w fun t63 w =>
  gd t60 false (fun k => k t18 w) w fun t64 w =>
  gd t60 false (fun k => bi .neq .i64 t63 t64 w k) w fun t65 w =>
  pk t60 (Value.bool true) t65 w fun t66 w =>
  gd t66 false (fun k => k t22 w) w fun t68 w =>
  gd t66 false (fun k => Cl prog 9 #[t68, (Value.int IntKind.i64 0)] w k) w fun t69 w =>
  gd t66 false (fun k => k t18 w) w fun t70 w =>
  gd t66 false (fun k => bi .neq .i64 t69 t70 w k) w fun t71 w =>
  pk t66 (Value.bool true) t71 w fun t72 w =>
  iff' t72
  (K (Value.bool false) w)
  (lp [(Value.int IntKind.i64 0)] w (b1 fun t10 w g3 =>
  bi .lss .i64 t10 t18 w fun t75 w =>
  iff' t75
  (Cl prog 8 #[t22, (Value.int IntKind.i64 0), (Value.int IntKind.i64 1)] w fun t80 w =>
  xt 0 t80 w fun t81 w =>
  xt 1 t80 w fun t82 w =>
  al (zeroD prog 33) 33 w fun t11 w =>
  stN 8 t11 t81 w fun _ w =>
  bnot t82 w fun t84 w =>
  gd t84 false (fun k => fld 1 t11 w k) w fun t86 w =>
  gd t84 false (fun k => fld 5 t86 w k) w fun t87 w =>
  gd t84 false (fun k => ld1 t87 w k) w fun t88 w =>
  gd t84 false (fun k => k t10 w) w fun t89 w =>
  gd t84 false (fun k => bi .neq .i64 t88 t89 w k) w fun t90 w =>
  pk t84 (Value.bool true) t90 w fun t91 w =>
  iff' t91
  (K (Value.bool false) w)
  (bi .add .i64 t10 (Value.int IntKind.i64 1) w fun t77 w =>
  g3 [t77] w))
  (Cl prog 8 #[t22, (Value.int IntKind.i64 0), (Value.int IntKind.i64 1)] w fun t94 w =>
  xt 0 t94 w fun t95 w =>
  xt 1 t94 w fun t96 w =>
  al (zeroD prog 33) 33 w fun t13 w =>
  stN 8 t13 t95 w fun _ w =>
  gd t96 false (fun k => k t22 w) w fun t99 w =>
  gd t96 false (fun k => Cl prog 10 #[t99] w k) w fun t100 w =>
  gd t96 false (fun k => bi .neq .i64 t100 (Value.int IntKind.i64 0) w k) w fun t101 w =>
  pk t96 (Value.bool true) t101 w fun t102 w =>
  gd t102 false (fun k => k t22 w) w fun t104 w =>
  gd t102 false (fun k => Cl prog 11 #[t104] w k) w fun t105 w =>
  gd t102 false (fun k => bi .neq .i64 t105 (Value.int IntKind.i64 1125899906842624) w k) w fun t106 w =>
  pk t102 (Value.bool true) t106 w fun t107 w =>
  iff' t107
  (K (Value.bool false) w)
  (bi .add .i64 t8 (Value.int IntKind.i64 1) w fun t37 w =>
  g1 [t37] w)))))))
  (K (Value.bool true) w)))
theorem pacelinelaw10_LinkFull_eq (t0 t1 : Value) (w : World) (K : KV) : pacelinelaw10_LinkFull t0 t1 w K = fnW prog 108 [4] (match fn4.body with | some c => c | none => .skip) #[t0, t1] w K := by kernel_rfl
theorem pacelinelaw10_LinkFull_ok : fnOk prog 108 [4] (match fn4.body with | some c => c | none => .skip) = true := by kernel_rfl
theorem pacelinelaw10_LinkFull_calls {t0 t1 : Value} {w : World} {K : KV} (h : pacelinelaw10_LinkFull t0 t1 w K) : Cl prog 4 #[t0, t1] w K :=
  Cl.mk (by kernel_rfl) (calls_of_F (fn := fn4) (nt := 108) (rs := [4]) mixed fnAt4 (by kernel_rfl) (by kernel_rfl) (by kernel_rfl) (Nat.le_of_ble_eq_true (by kernel_rfl)) pacelinelaw10_LinkFull_ok (pacelinelaw10_LinkFull_eq t0 t1 w K) h)

/-- paceline/pacelinelaw10.LinkScript -/
def pacelinelaw10_LinkScript (t0 t1 t2 : Value) (w : World) (K : KV) : Prop :=
  lnS t2 w fun t18 w =>
  bi .gtr .i64 t18 (Value.int IntKind.i64 200) w fun t19 w =>
  iff' t19
  (K (Value.bool true) w)
  (Cl prog 6 #[t0, t1] w fun t23 w =>
  xt 0 t23 w fun t24 w =>
  xt 1 t23 w fun t25 w =>
  Cl prog 13 #[t0, t1] w fun t29 w =>
  xt 0 t29 w fun t30 w =>
  xt 1 t29 w fun t31 w =>
  bi .neq .i64 t25 t31 w fun t34 w =>
  gd t34 false (fun k => k t24 w) w fun t36 w =>
  gd t34 false (fun k => bn .eql t36 w k) w fun t37 w =>
  gd t34 false (fun k => k t30 w) w fun t38 w =>
  gd t34 false (fun k => bn .eql t38 w k) w fun t39 w =>
  gd t34 false (fun k => bb .neq t37 t39 w k) w fun t40 w =>
  pk t34 (Value.bool true) t40 w fun t41 w =>
  iff' t41
  (K (Value.bool false) w)
  (bn .eql t30 w fun t43 w =>
  iff' t43
  (bi .eql .i64 t25 (Value.int IntKind.i64 1) w fun t45 w =>
  K t45 w)
  (lp [(Value.int IntKind.i64 0)] w (b1 fun t11 w g1 =>
  lnS t2 w fun t48 w =>
  bi .lss .i64 t11 t48 w fun t49 w =>
  iff' t49
  (ixS 11 t2 t11 w fun t54 w =>
  ldN 11 t54 w fun t55 w =>
  al (zeroD prog 35) 35 w fun t12 w =>
  stN 11 t12 t55 w fun _ w =>
  fld 0 t12 w fun t56 w =>
  ld1 t56 w fun t57 w =>
  J0 (fun w =>
  dr w fun w =>
  fld 1 t12 w fun t128 _ =>
  ld1 t128 w fun t129 _ =>
  fld 2 t12 w fun t130 _ =>
  ld1 t130 w fun t131 _ =>
  fld 1 t12 w fun t134 _ =>
  ld1 t134 w fun t135 _ =>
  fld 2 t12 w fun t136 _ =>
  ld1 t136 w fun t137 _ =>
  Cl prog 18 #[t24, t129, t131] w fun t132 w =>
  (ld1 t136 w (fun v' w'' => v' = t137 ∧ w'' = w)) ∧ ((ld1 t134 w (fun v' w'' => v' = t135 ∧ w'' = w)) ∧ (Cl prog 19 #[t30, t135, t137] w fun t138 w =>
  bi .neq .i64 t132 t138 w fun t139 _ =>
  gd t139 false (fun k => k t24 w) w fun t141 _ =>
  gd t139 false (fun k => fld 1 t12 w k) w fun t142 _ =>
  gd t139 false (fun k => ld1 t142 w k) w fun t143 _ =>
  gd t139 false (fun k => fld 2 t12 w k) w fun t144 _ =>
  gd t139 false (fun k => ld1 t144 w k) w fun t145 _ =>
  gd t139 false (fun k => k t30 w) w fun t147 _ =>
  gd t139 false (fun k => fld 1 t12 w k) w fun t148 _ =>
  gd t139 false (fun k => ld1 t148 w k) w fun t149 _ =>
  gd t139 false (fun k => fld 2 t12 w k) w fun t150 _ =>
  gd t139 false (fun k => ld1 t150 w k) w fun t151 _ =>
  gd t139 false (fun k => Cl prog 12 #[t141, t143, t145] w k) w fun t146 w =>
  (gd t139 false (fun k => ld1 t150 w k) w (fun v' w'' => v' = t151 ∧ w'' = w)) ∧ ((gd t139 false (fun k => ld1 t148 w k) w (fun v' w'' => v' = t149 ∧ w'' = w)) ∧ (gd t139 false (fun k => Cl prog 20 #[t147, t149, t151] w k) w fun t152 w =>
  gd t139 false (fun k => bi .neq .i64 t146 t152 w k) w fun t153 _ =>
  pk t139 (Value.bool true) t153 w fun t154 _ =>
  gd t154 false (fun k => k t24 w) w fun t156 _ =>
  gd t154 false (fun k => k t30 w) w fun t158 _ =>
  gd t154 false (fun k => Cl prog 10 #[t156] w k) w fun t157 w =>
  gd t154 false (fun k => Cl prog 21 #[t158] w k) w fun t159 w =>
  gd t154 false (fun k => bi .neq .i64 t157 t159 w k) w fun t160 _ =>
  pk t154 (Value.bool true) t160 w fun t161 _ =>
  iff' t161
  (K (Value.bool false) w)
  (Cl prog 9 #[t24, (Value.int IntKind.i64 0)] w fun t163 w =>
  Cl prog 22 #[t30, (Value.int IntKind.i64 0)] w fun t165 w =>
  bi .neq .i64 t163 t165 w fun t166 w =>
  gd t166 false (fun k => k t24 w) w fun t168 w =>
  gd t166 false (fun k => Cl prog 9 #[t168, (Value.int IntKind.i64 1)] w k) w fun t169 w =>
  gd t166 false (fun k => k t30 w) w fun t170 w =>
  gd t166 false (fun k => Cl prog 22 #[t170, (Value.int IntKind.i64 1)] w k) w fun t171 w =>
  gd t166 false (fun k => bi .neq .i64 t169 t171 w k) w fun t172 w =>
  pk t166 (Value.bool true) t172 w fun t173 w =>
  gd t173 false (fun k => k t24 w) w fun t175 w =>
  gd t173 false (fun k => Cl prog 11 #[t175] w k) w fun t176 w =>
  gd t173 false (fun k => k t30 w) w fun t177 w =>
  gd t173 false (fun k => Cl prog 23 #[t177] w k) w fun t178 w =>
  gd t173 false (fun k => bi .neq .i64 t176 t178 w k) w fun t179 w =>
  pk t173 (Value.bool true) t179 w fun t180 w =>
  iff' t180
  (K (Value.bool false) w)
  (bi .add .i64 t11 (Value.int IntKind.i64 1) w fun t51 w =>
  g1 [t51] w))))))) fun k2 =>
  bi .eql .i64 t57 (Value.int IntKind.i64 0) w fun t59 w =>
  iff' t59
  (dr w fun w =>
  fld 1 t12 w fun t61 _ =>
  ld1 t61 w fun t62 _ =>
  fld 2 t12 w fun t63 _ =>
  ld1 t63 w fun t64 _ =>
  fld 3 t12 w fun t65 _ =>
  ldN 8 t65 w fun t66 _ =>
  fld 1 t12 w fun t69 _ =>
  ld1 t69 w fun t70 _ =>
  fld 2 t12 w fun t71 _ =>
  ld1 t71 w fun t72 _ =>
  fld 3 t12 w fun t73 _ =>
  ldN 8 t73 w fun t74 _ =>
  Cl prog 7 #[t24, t62, t64, t66] w fun t67 w =>
  (ldN 8 t73 w (fun v' w'' => v' = t74 ∧ w'' = w)) ∧ ((ld1 t71 w (fun v' w'' => v' = t72 ∧ w'' = w)) ∧ ((ld1 t69 w (fun v' w'' => v' = t70 ∧ w'' = w)) ∧ (Cl prog 14 #[t30, t70, t72, t74] w fun t75 w =>
  bi .neq .i64 t67 t75 w fun t76 _ =>
  iff' t76
  (K (Value.bool false) w)
  (k2 w)))))
  (bi .eql .i64 t57 (Value.int IntKind.i64 1) w fun t78 w =>
  J1 (fun t77 w =>
  iff' t77
  (fld 1 t12 w fun t82 w =>
  ld1 t82 w fun t83 w =>
  fld 2 t12 w fun t84 w =>
  ld1 t84 w fun t85 w =>
  Cl prog 15 #[t24, t83, t85] w fun t86 w =>
  xt 0 t86 w fun t87 w =>
  xt 1 t86 w fun t88 w =>
  al (zeroD prog 33) 33 w fun t13 w =>
  stN 8 t13 t87 w fun _ w =>
  fld 1 t12 w fun t91 w =>
  ld1 t91 w fun t92 w =>
  fld 2 t12 w fun t93 w =>
  ld1 t93 w fun t94 w =>
  Cl prog 16 #[t30, t92, t94] w fun t95 w =>
  xt 0 t95 w fun t96 w =>
  xt 1 t95 w fun t97 w =>
  al (zeroD prog 33) 33 w fun t15 w =>
  stN 8 t15 t96 w fun _ w =>
  fld 0 t12 w fun t98 w =>
  ld1 t98 w fun t99 w =>
  bi .eql .i64 t99 (Value.int IntKind.i64 1) w fun t100 w =>
  J2 (fun t14 t16 w =>
  ldN 8 t13 w fun t119 w =>
  ldN 8 t15 w fun t120 w =>
  bO prog .neq 33 (Operand.tmp 119) (Operand.tmp 120) t119 t120 w fun t121 w =>
  gd t121 false (fun k => k t14 w) w fun t123 w =>
  gd t121 false (fun k => k t16 w) w fun t124 w =>
  gd t121 false (fun k => bb .neq t123 t124 w k) w fun t125 w =>
  pk t121 (Value.bool true) t125 w fun t126 w =>
  iff' t126
  (K (Value.bool false) w)
  (k2 w)) fun k4 =>
  iff' t100
  (fld 1 t12 w fun t103 w =>
  ld1 t103 w fun t104 w =>
  fld 2 t12 w fun t105 w =>
  ld1 t105 w fun t106 w =>
  Cl prog 8 #[t24, t104, t106] w fun t107 w =>
  xt 0 t107 w fun t108 w =>
  xt 1 t107 w fun t109 w =>
  stN 8 t13 t108 w fun _ w =>
  fld 1 t12 w fun t112 w =>
  ld1 t112 w fun t113 w =>
  fld 2 t12 w fun t114 w =>
  ld1 t114 w fun t115 w =>
  Cl prog 17 #[t30, t113, t115] w fun t116 w =>
  xt 0 t116 w fun t117 w =>
  xt 1 t116 w fun t118 w =>
  stN 8 t15 t117 w fun _ w =>
  k4 t109 t118 w)
  (k4 t88 t97 w))
  (k2 w)) fun k3 =>
  iff' t78
  (k3 t78 w)
  (bi .eql .i64 t57 (Value.int IntKind.i64 2) w fun t79 w =>
  k3 t79 w)))
  (Cl prog 9 #[t24, (Value.int IntKind.i64 2)] w fun t182 w =>
  bi .eql .i64 t182 (Value.int IntKind.i64 0) w fun t183 w =>
  gd t183 true (fun k => k t24 w) w fun t185 w =>
  gd t183 true (fun k => Cl prog 18 #[t185, (Value.int IntKind.i64 0), (Value.int IntKind.i64 0)] w k) w fun t186 w =>
  gd t183 true (fun k => bi .eql .i64 t186 (Value.int IntKind.i64 0) w k) w fun t187 w =>
  pk t183 t187 (Value.bool false) w fun t188 w =>
  gd t188 true (fun k => k t24 w) w fun t190 w =>
  gd t188 true (fun k => Cl prog 12 #[t190, (Value.int IntKind.i64 (-1)), (Value.int IntKind.i64 0)] w k) w fun t191 w =>
  gd t188 true (fun k => bi .eql .i64 t191 (Value.int IntKind.i64 0) w k) w fun t192 w =>
  pk t188 t192 (Value.bool false) w fun t193 w =>
  gd t193 true (fun k => k t24 w) w fun t195 w =>
  gd t193 true (fun k => Cl prog 11 #[t195] w k) w fun t196 w =>
  gd t193 true (fun k => k t30 w) w fun t197 w =>
  gd t193 true (fun k => Cl prog 23 #[t197] w k) w fun t198 w =>
  gd t193 true (fun k => bi .eql .i64 t196 t198 w k) w fun t199 w =>
  pk t193 t199 (Value.bool false) w fun t200 w =>
  K t200 w)))))
theorem pacelinelaw10_LinkScript_eq (t0 t1 t2 : Value) (w : World) (K : KV) : pacelinelaw10_LinkScript t0 t1 t2 w K = fnW prog 201 [6] (match fn5.body with | some c => c | none => .skip) #[t0, t1, t2] w K := by kernel_rfl
theorem pacelinelaw10_LinkScript_ok : fnOk prog 201 [6] (match fn5.body with | some c => c | none => .skip) = true := by kernel_rfl
theorem pacelinelaw10_LinkScript_calls {t0 t1 t2 : Value} {w : World} {K : KV} (h : pacelinelaw10_LinkScript t0 t1 t2 w K) : Cl prog 5 #[t0, t1, t2] w K :=
  Cl.mk (by kernel_rfl) (calls_of_F (fn := fn5) (nt := 201) (rs := [6]) mixed fnAt5 (by kernel_rfl) (by kernel_rfl) (by kernel_rfl) (Nat.le_of_ble_eq_true (by kernel_rfl)) pacelinelaw10_LinkScript_ok (pacelinelaw10_LinkScript_eq t0 t1 t2 w K) h)

/-- paceline/link.New -/
def link_New (t0 t1 : Value) (w : World) (K : KV) : Prop :=
  bi .lss .i64 t0 (Value.int IntKind.i64 1) w fun t7 w =>
  gd t7 false (fun k => k t0 w) w fun t9 w =>
  gd t7 false (fun k => bi .gtr .i64 t9 (Value.int IntKind.i64 8) w k) w fun t10 w =>
  pk t7 (Value.bool true) t10 w fun t11 w =>
  gd t11 false (fun k => k t1 w) w fun t13 w =>
  gd t11 false (fun k => bi .lss .i64 t13 (Value.int IntKind.i64 1) w k) w fun t14 w =>
  pk t11 (Value.bool true) t14 w fun t15 w =>
  gd t15 false (fun k => k t1 w) w fun t17 w =>
  gd t15 false (fun k => bi .gtr .i64 t17 (Value.int IntKind.i64 16) w k) w fun t18 w =>
  pk t15 (Value.bool true) t18 w fun t19 w =>
  iff' t19
  (K (Value.tuple #[(Value.pointer none), (Value.int IntKind.i64 1)]) w)
  (bld (zeroD prog 54) #[(0, 1), (1, 1), (2, 8320)] [(0, t0), (1, t1)] w fun t22 w =>
  al (Value.cells t22) 54 w fun t23 w =>
  K (Value.tuple #[t23, (Value.int IntKind.i64 0)]) w)
theorem link_New_eq (t0 t1 : Value) (w : World) (K : KV) : link_New t0 t1 w K = fnW prog 24 [4, 5] (match fn6.body with | some c => c | none => .skip) #[t0, t1] w K := by kernel_rfl
theorem link_New_ok : fnOk prog 24 [4, 5] (match fn6.body with | some c => c | none => .skip) = true := by kernel_rfl
theorem link_New_calls {t0 t1 : Value} {w : World} {K : KV} (h : link_New t0 t1 w K) : Cl prog 6 #[t0, t1] w K :=
  Cl.mk (by kernel_rfl) (calls_of_F (fn := fn6) (nt := 24) (rs := [4, 5]) mixed fnAt6 (by kernel_rfl) (by kernel_rfl) (by kernel_rfl) (Nat.le_of_ble_eq_true (by kernel_rfl)) link_New_ok (link_New_eq t0 t1 w K) h)

/-- (*paceline/link.Net).Send -/
def link_Net_Send (t0 t1 t2 t3 : Value) (w : World) (K : KV) : Prop :=
  al (Value.cells t3) 33 w fun t7 w =>
  Cl prog 24 #[t0, t1, t2] w fun t13 w =>
  bn .eql t13 w fun t16 w =>
  gd t16 false (fun k => fld 0 t7 w k) w fun t18 w =>
  gd t16 false (fun k => ld1 t18 w k) w fun t19 w =>
  gd t16 false (fun k => bi .lss .i64 t19 (Value.int IntKind.i64 0) w k) w fun t20 w =>
  pk t16 (Value.bool true) t20 w fun t21 w =>
  gd t21 false (fun k => fld 0 t7 w k) w fun t23 w =>
  gd t21 false (fun k => ld1 t23 w k) w fun t24 w =>
  gd t21 false (fun k => bi .gtr .i64 t24 (Value.int IntKind.i64 2) w k) w fun t25 w =>
  pk t21 (Value.bool true) t25 w fun t26 w =>
  gd t26 false (fun k => fld 7 t7 w k) w fun t28 w =>
  gd t26 false (fun k => ld1 t28 w k) w fun t29 w =>
  gd t26 false (fun k => bO prog .shr 3 (Operand.tmp 29) (Operand.const (Value.int IntKind.u64 1)) t29 (Value.int IntKind.u64 1) w k) w fun t30 w =>
  gd t26 false (fun k => bi .neq .i64 t30 (Value.int IntKind.i64 0) w k) w fun t31 w =>
  pk t26 (Value.bool true) t31 w fun t32 w =>
  iff' t32
  (K (Value.int IntKind.i64 1) w)
  (dr w fun w =>
  ncP t13 <|
  fld 129 t13 w fun t36 _ =>
  ld1 t36 w fun t37 _ =>
  ncP t0 <|
  fld 1 t0 w fun t40 _ =>
  ld1 t40 w fun t41 _ =>
  bi .eql .i64 t37 t41 w fun t42 _ =>
  iff' t42
  (K (Value.int IntKind.i64 2) w)
  (dr w fun w =>
  ncP t13 <|
  fld 128 t13 w fun t46 _ =>
  ld1 t46 w fun t47 _ =>
  ncP t13 <|
  fld 129 t13 w fun t50 _ =>
  ld1 t50 w fun t51 _ =>
  bi .add .i64 t47 t51 w fun t52 _ =>
  bi .rem .i64 t52 (Value.int IntKind.i64 16) w fun t53 _ =>
  ldN 8 t7 w fun t54 _ =>
  ncP t13 <|
  fld 0 t13 w fun t56 _ =>
  ixA 16 8 t56 t53 w fun t57 _ =>
  stN 8 t57 t54 w fun _ w =>
  ncP t13 <|
  fld 129 t13 w fun t60 w =>
  ld1 t60 w fun t61 w =>
  bi .add .i64 t61 (Value.int IntKind.i64 1) w fun t62 w =>
  ncP t13 <|
  fld 129 t13 w fun t64 w =>
  stN 1 t64 t62 w fun _ w =>
  K (Value.int IntKind.i64 0) w))
theorem link_Net_Send_eq (t0 t1 t2 t3 : Value) (w : World) (K : KV) : link_Net_Send t0 t1 t2 t3 w K = fnW prog 65 [8] (match fn7.body with | some c => c | none => .skip) #[t0, t1, t2, t3] w K := by kernel_rfl
theorem link_Net_Send_ok : fnOk prog 65 [8] (match fn7.body with | some c => c | none => .skip) = true := by kernel_rfl
theorem link_Net_Send_calls {t0 t1 t2 t3 : Value} {w : World} {K : KV} (h : link_Net_Send t0 t1 t2 t3 w K) : Cl prog 7 #[t0, t1, t2, t3] w K :=
  Cl.mk (by kernel_rfl) (calls_of_F (fn := fn7) (nt := 65) (rs := [8]) mixed fnAt7 (by kernel_rfl) (by kernel_rfl) (by kernel_rfl) (Nat.le_of_ble_eq_true (by kernel_rfl)) link_Net_Send_ok (link_Net_Send_eq t0 t1 t2 t3 w K) h)

/-- (*paceline/link.Net).Recv -/
def link_Net_Recv (t0 t1 t2 : Value) (w : World) (K : KV) : Prop :=
  al (zeroD prog 33) 33 w fun t6 w =>
  Cl prog 15 #[t0, t1, t2] w fun t15 w =>
  xt 0 t15 w fun t16 w =>
  xt 1 t15 w fun t17 w =>
  al (zeroD prog 33) 33 w fun t8 w =>
  stN 8 t8 t16 w fun _ w =>
  J0 (fun w =>
  ldN 8 t8 w fun t39 w =>
  stN 8 t6 t39 w fun _ w =>
  ldN 8 t6 w fun r0 _ =>
  K (Value.tuple #[r0, t17]) w) fun k1 =>
  iff' t17
  (Cl prog 24 #[t0, t1, t2] w fun t22 w =>
  ncP t22 <|
  fld 128 t22 w fun t26 w =>
  ld1 t26 w fun t27 w =>
  bi .add .i64 t27 (Value.int IntKind.i64 1) w fun t28 w =>
  bi .rem .i64 t28 (Value.int IntKind.i64 16) w fun t29 w =>
  ncP t22 <|
  fld 128 t22 w fun t31 w =>
  stN 1 t31 t29 w fun _ w =>
  ncP t22 <|
  fld 129 t22 w fun t34 w =>
  ld1 t34 w fun t35 w =>
  bi .sub .i64 t35 (Value.int IntKind.i64 1) w fun t36 w =>
  ncP t22 <|
  fld 129 t22 w fun t38 w =>
  stN 1 t38 t36 w fun _ w =>
  k1 w)
  (k1 w)
theorem link_Net_Recv_eq (t0 t1 t2 : Value) (w : World) (K : KV) : link_Net_Recv t0 t1 t2 w K = fnWC prog 41 [(6, some 33), (7, none)] (match fn8.body with | some c => c | none => .skip) #[t0, t1, t2] w K := by kernel_rfl
theorem link_Net_Recv_ok : fnOkC prog 41 [(6, some 33), (7, none)] (match fn8.body with | some c => c | none => .skip) = true := by kernel_rfl
theorem link_Net_Recv_calls {t0 t1 t2 : Value} {w : World} {K : KV} (h : link_Net_Recv t0 t1 t2 w K) : Cl prog 8 #[t0, t1, t2] w K :=
  Cl.mk (by kernel_rfl) (calls_of_FC (fn := fn8) (nt := 41) (rs := [(6, some 33), (7, none)]) mixed fnAt8 (by kernel_rfl) (by kernel_rfl) (by kernel_rfl) (Nat.le_of_ble_eq_true (by kernel_rfl)) link_Net_Recv_ok (link_Net_Recv_eq t0 t1 t2 w K) h)

end Go.Proofs.Ytcocbmbadigjbaa
