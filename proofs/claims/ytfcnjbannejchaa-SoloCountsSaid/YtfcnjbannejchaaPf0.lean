/- Printed by prt.py: the Go functions of this seat as shallow predicate transformers. Conditions: none. -/
import Derived.Test.YtfcnjbannejchaaEngO
import Derived.Test.YtfcnjbannejchaaEngZ
import Derived.Test.YtfcnjbannejchaaPfHead
import Derived.KernelRfl
namespace Go.Proofs.Ytfcnjbannejchaa
open Go Go.E
set_option linter.unusedVariables false
set_option maxRecDepth 100000
/-- paceline/pacelinelaw09.SoloRises -/
def pacelinelaw09_SoloRises (t0 t1 : Value) (w : World) (K : KV) : Prop :=
  al (Value.cells t0) 25 w fun t2 w =>
  ldN 3 t2 w fun t16 w =>
  Cl prog 8 #[t16] w fun t17 w =>
  bnot t17 w fun t18 w =>
  iff' t18
  (Cl prog 9 #[] w fun t19 w =>
  K t19 w)
  (ldN 3 t2 w fun t21 w =>
  Cl prog 10 #[t21] w fun t22 w =>
  xt 0 t22 w fun t23 w =>
  xt 1 t22 w fun t24 w =>
  ldN 3 t2 w fun t26 w =>
  Cl prog 11 #[t26] w fun t27 w =>
  xt 0 t27 w fun _ w =>
  xt 1 t27 w fun t29 w =>
  bi .neq .i64 t24 t29 w fun t32 w =>
  gd t32 false (fun k => Cl prog 9 #[] w k) w fun t34 w =>
  gd t32 false (fun k => bnot t34 w k) w fun t35 w =>
  pk t32 (Value.bool true) t35 w fun t36 w =>
  iff' t36
  (K (Value.bool false) w)
  (bi .neq .i64 t24 (Value.int IntKind.i64 0) w fun t38 w =>
  iff' t38
  (bn .eql t23 w fun t40 w =>
  K t40 w)
  (lp [(Value.int IntKind.i64 0), (Value.int IntKind.i64 0)] w (b2 fun t9 t10 w g1 =>
  cvI .i64 t1 w fun t43 w =>
  bi .rem .i64 t43 (Value.int IntKind.i64 40) w fun t44 w =>
  bi .lss .i64 t10 t44 w fun t45 w =>
  iff' t45
  (J1 (fun t9_1 w =>
  bi .add .i64 t10 (Value.int IntKind.i64 1) w fun t47 w =>
  g1 [t9_1, t47] w) fun k2 =>
  Cl prog 12 #[t23] w fun t50 w =>
  xt 0 t50 w fun t51 w =>
  xt 1 t50 w fun t52 w =>
  al (zeroD prog 39) 39 w fun t11 w =>
  stN 7 t11 t51 w fun _ w =>
  gd t52 true (fun k => fld 0 t11 w k) w fun t55 w =>
  gd t52 true (fun k => fld 0 t55 w k) w fun t56 w =>
  gd t52 true (fun k => fld 0 t56 w k) w fun t57 w =>
  gd t52 true (fun k => ld1 t57 w k) w fun t58 w =>
  gd t52 true (fun k => k t9 w) w fun t59 w =>
  gd t52 true (fun k => bi .lss .i64 t58 t59 w k) w fun t60 w =>
  gd t52 true (fun k => k t60 w) w fun t61 w =>
  gd t61 false (fun k => fld 0 t11 w k) w fun t62 w =>
  gd t61 false (fun k => fld 0 t62 w k) w fun t63 w =>
  gd t61 false (fun k => fld 0 t63 w k) w fun t64 w =>
  gd t61 false (fun k => ld1 t64 w k) w fun t65 w =>
  gd t61 false (fun k => fld 2 t2 w k) w fun t66 w =>
  gd t61 false (fun k => ld1 t66 w k) w fun t67 w =>
  gd t61 false (fun k => bi .geq .i64 t65 t67 w k) w fun t68 w =>
  gd t52 true (fun k => pk t61 (Value.bool true) t68 w k) w fun t69 w =>
  gd t52 true (fun k => k t69 w) w fun t70 w =>
  gd t70 false (fun k => fld 0 t11 w k) w fun t71 w =>
  gd t70 false (fun k => fld 3 t71 w k) w fun t72 w =>
  gd t70 false (fun k => ld1 t72 w k) w fun t73 w =>
  gd t70 false (fun k => bi .lss .i64 t73 (Value.int IntKind.i64 0) w k) w fun t74 w =>
  gd t52 true (fun k => pk t70 (Value.bool true) t74 w k) w fun t75 w =>
  gd t52 true (fun k => k t75 w) w fun t76 w =>
  gd t76 false (fun k => fld 0 t11 w k) w fun t77 w =>
  gd t76 false (fun k => fld 3 t77 w k) w fun t78 w =>
  gd t76 false (fun k => ld1 t78 w k) w fun t79 w =>
  gd t76 false (fun k => fld 1 t2 w k) w fun t80 w =>
  gd t76 false (fun k => ld1 t80 w k) w fun t81 w =>
  gd t76 false (fun k => lnS t81 w k) w fun t82 w =>
  gd t76 false (fun k => bi .geq .i64 t79 t82 w k) w fun t83 w =>
  gd t52 true (fun k => pk t76 (Value.bool true) t83 w k) w fun t84 w =>
  pk t52 t84 (Value.bool false) w fun t85 w =>
  iff' t85
  (K (Value.bool false) w)
  (iff' t52
  (fld 0 t11 w fun t87 w =>
  fld 0 t87 w fun t88 w =>
  fld 0 t88 w fun t89 w =>
  ld1 t89 w fun t90 w =>
  k2 t90 w)
  (k2 t9 w)))
  (lp [(Value.int IntKind.i64 0)] w (b1 fun t13 w g3 =>
  fld 1 t2 w fun t92 w =>
  ld1 t92 w fun t93 w =>
  lnS t93 w fun t94 w =>
  bi .lss .i64 t13 t94 w fun t95 w =>
  iff' t95
  (Cl prog 13 #[t23, t13] w fun t100 w =>
  lp [(Value.int IntKind.i64 1)] w (b1 fun t15 w g4 =>
  lnS t100 w fun t103 w =>
  bi .lss .i64 t15 t103 w fun t104 w =>
  iff' t104
  (dr w fun w =>
  bi .sub .i64 t15 (Value.int IntKind.i64 1) w fun t109 _ =>
  ixS 7 t100 t109 w fun t110 _ =>
  fld 0 t110 w fun t111 _ =>
  fld 0 t111 w fun t112 _ =>
  ldN 3 t112 w fun t113 _ =>
  ixS 7 t100 t15 w fun t116 _ =>
  fld 0 t116 w fun t117 _ =>
  fld 0 t117 w fun t118 _ =>
  ldN 3 t118 w fun t119 _ =>
  Cl prog 14 #[t113, t119] w fun t120 w =>
  bi .geq .i64 t120 (Value.int IntKind.i64 0) w fun t121 _ =>
  iff' t121
  (K (Value.bool false) w)
  (bi .add .i64 t15 (Value.int IntKind.i64 1) w fun t106 w =>
  g4 [t106] w))
  (bi .add .i64 t13 (Value.int IntKind.i64 1) w fun t97 w =>
  g3 [t97] w)))
  (K (Value.bool true) w)))))))
theorem pacelinelaw09_SoloRises_eq (t0 t1 : Value) (w : World) (K : KV) : pacelinelaw09_SoloRises t0 t1 w K = fnW prog 122 [4] (match fn3.body with | some c => c | none => .skip) #[t0, t1] w K := by kernel_rfl
theorem pacelinelaw09_SoloRises_ok : fnOk prog 122 [4] (match fn3.body with | some c => c | none => .skip) = true := by kernel_rfl
theorem pacelinelaw09_SoloRises_calls {t0 t1 : Value} {w : World} {K : KV} (h : pacelinelaw09_SoloRises t0 t1 w K) : Cl prog 3 #[t0, t1] w K :=
  Cl.mk (by kernel_rfl) (calls_of_F (fn := fn3) (nt := 122) (rs := [4]) mixed fnAt3 (by kernel_rfl) (by kernel_rfl) (by kernel_rfl) (Nat.le_of_ble_eq_true (by kernel_rfl)) pacelinelaw09_SoloRises_ok (pacelinelaw09_SoloRises_eq t0 t1 w K) h)

/-- paceline/pacelinelaw09.SoloStates -/
def pacelinelaw09_SoloStates (t0 t1 : Value) (w : World) (K : KV) : Prop :=
  al (Value.cells t0) 25 w fun t2 w =>
  ldN 3 t2 w fun t15 w =>
  Cl prog 8 #[t15] w fun t16 w =>
  bnot t16 w fun t17 w =>
  iff' t17
  (Cl prog 9 #[] w fun t18 w =>
  K t18 w)
  (ldN 3 t2 w fun t20 w =>
  Cl prog 10 #[t20] w fun t21 w =>
  xt 0 t21 w fun t22 w =>
  xt 1 t21 w fun t23 w =>
  ldN 3 t2 w fun t25 w =>
  Cl prog 15 #[t25] w fun t26 w =>
  xt 0 t26 w fun t27 w =>
  xt 1 t26 w fun t28 w =>
  bi .neq .i64 t23 t28 w fun t31 w =>
  gd t31 false (fun k => Cl prog 9 #[] w k) w fun t33 w =>
  gd t31 false (fun k => bnot t33 w k) w fun t34 w =>
  pk t31 (Value.bool true) t34 w fun t35 w =>
  iff' t35
  (K (Value.bool false) w)
  (bi .neq .i64 t23 (Value.int IntKind.i64 0) w fun t37 w =>
  iff' t37
  (K (Value.bool true) w)
  (cvI .i64 t1 w fun t40 w =>
  bi .rem .i64 t40 (Value.int IntKind.i64 40) w fun t41 w =>
  Cl prog 16 #[t22, t41] w fun t42 w =>
  cvI .i64 t1 w fun t45 w =>
  bi .rem .i64 t45 (Value.int IntKind.i64 40) w fun t46 w =>
  Cl prog 17 #[t27, t46] w fun t47 w =>
  bi .neq .i64 t42 t47 w fun t48 w =>
  iff' t48
  (K (Value.bool false) w)
  (lp [(Value.int IntKind.i64 0)] w (b1 fun t9 w g1 =>
  fld 1 t2 w fun t50 w =>
  ld1 t50 w fun t51 w =>
  lnS t51 w fun t52 w =>
  bi .lss .i64 t9 t52 w fun t53 w =>
  iff' t53
  (fld 1 t2 w fun t56 w =>
  ld1 t56 w fun t57 w =>
  ixS 7 t57 t9 w fun t59 w =>
  fld 2 t59 w fun t60 w =>
  ld1 t60 w fun t61 w =>
  Cl prog 13 #[t22, t9] w fun t64 w =>
  lp [t61, (Value.int IntKind.i64 0)] w (b2 fun t10 t12 w g2 =>
  lnS t64 w fun t67 w =>
  bi .lss .i64 t12 t67 w fun t68 w =>
  iff' t68
  (J1 (fun t10_1 w =>
  ixS 7 t64 t12 w fun t110 w =>
  fld 6 t110 w fun t111 w =>
  ld1 t111 w fun t112 w =>
  bi .neq .i64 t112 t10_1 w fun t114 w =>
  gd t114 false (fun k => k t64 w) w fun t116 w =>
  gd t114 false (fun k => k t12 w) w fun t117 w =>
  gd t114 false (fun k => ixS 7 t116 t117 w k) w fun t118 w =>
  gd t114 false (fun k => fld 0 t118 w k) w fun t119 w =>
  gd t114 false (fun k => fld 3 t119 w k) w fun t120 w =>
  gd t114 false (fun k => ld1 t120 w k) w fun t121 w =>
  gd t114 false (fun k => k t9 w) w fun t122 w =>
  gd t114 false (fun k => bi .neq .i64 t121 t122 w k) w fun t123 w =>
  pk t114 (Value.bool true) t123 w fun t124 w =>
  iff' t124
  (K (Value.bool false) w)
  (bi .add .i64 t12 (Value.int IntKind.i64 1) w fun t70 w =>
  g2 [t10_1, t70] w)) fun k3 =>
  lp [t10, (Value.int IntKind.i64 0)] w (b2 fun t10_2 t13 w g4 =>
  fld 1 t2 w fun t72 w =>
  ld1 t72 w fun t73 w =>
  ixS 7 t73 t9 w fun t75 w =>
  fld 3 t75 w fun t76 w =>
  ld1 t76 w fun t77 w =>
  lnS t77 w fun t78 w =>
  bi .lss .i64 t13 t78 w fun t79 w =>
  iff' t79
  (fld 1 t2 w fun t82 w =>
  ld1 t82 w fun t83 w =>
  ixS 7 t83 t9 w fun t85 w =>
  fld 3 t85 w fun t86 w =>
  ld1 t86 w fun t87 w =>
  ixS 4 t87 t13 w fun t89 w =>
  ldN 4 t89 w fun t90 w =>
  al (zeroD prog 55) 55 w fun t14 w =>
  stN 4 t14 t90 w fun _ w =>
  dr w fun w =>
  fld 0 t14 w fun t91 _ =>
  ld1 t91 w fun t92 _ =>
  bi .eql .i64 t92 t10_2 w fun t94 _ =>
  gd t94 true (fun k => fld 1 t14 w k) w fun t96 _ =>
  gd t94 true (fun k => ld1 t96 w k) w fun t97 _ =>
  gd t94 true (fun k => k t64 w) w fun t98 _ =>
  gd t94 true (fun k => k t12 w) w fun t99 _ =>
  gd t94 true (fun k => ixS 7 t98 t99 w k) w fun t100 _ =>
  gd t94 true (fun k => fld 0 t100 w k) w fun t101 _ =>
  gd t94 true (fun k => fld 4 t101 w k) w fun t102 _ =>
  gd t94 true (fun k => ld1 t102 w k) w fun t103 _ =>
  gd t94 true (fun k => bi .eql .i64 t97 t103 w k) w fun t104 _ =>
  pk t94 t104 (Value.bool false) w fun t105 _ =>
  iff' t105
  (fld 2 t14 w fun t106 w =>
  ld1 t106 w fun t107 w =>
  k3 t107 w)
  (bi .add .i64 t13 (Value.int IntKind.i64 1) w fun t81 w =>
  g4 [t10_2, t81] w))
  (k3 t10_2 w)))
  (Cl prog 18 #[t22, t9] w fun t127 w =>
  bi .neq .i64 t127 t10 w fun t129 w =>
  gd t129 false (fun k => k t22 w) w fun t131 w =>
  gd t129 false (fun k => k t9 w) w fun t132 w =>
  gd t129 false (fun k => Cl prog 18 #[t131, t132] w k) w fun t133 w =>
  gd t129 false (fun k => k t27 w) w fun t134 w =>
  gd t129 false (fun k => k t9 w) w fun t135 w =>
  gd t129 false (fun k => Cl prog 19 #[t134, t135] w k) w fun t136 w =>
  gd t129 false (fun k => bi .neq .i64 t133 t136 w k) w fun t137 w =>
  pk t129 (Value.bool true) t137 w fun t138 w =>
  iff' t138
  (K (Value.bool false) w)
  (bi .add .i64 t9 (Value.int IntKind.i64 1) w fun t55 w =>
  g1 [t55] w))))
  (K (Value.bool true) w))))))
theorem pacelinelaw09_SoloStates_eq (t0 t1 : Value) (w : World) (K : KV) : pacelinelaw09_SoloStates t0 t1 w K = fnW prog 139 [4] (match fn4.body with | some c => c | none => .skip) #[t0, t1] w K := by kernel_rfl
theorem pacelinelaw09_SoloStates_ok : fnOk prog 139 [4] (match fn4.body with | some c => c | none => .skip) = true := by kernel_rfl
theorem pacelinelaw09_SoloStates_calls {t0 t1 : Value} {w : World} {K : KV} (h : pacelinelaw09_SoloStates t0 t1 w K) : Cl prog 4 #[t0, t1] w K :=
  Cl.mk (by kernel_rfl) (calls_of_F (fn := fn4) (nt := 139) (rs := [4]) mixed fnAt4 (by kernel_rfl) (by kernel_rfl) (by kernel_rfl) (Nat.le_of_ble_eq_true (by kernel_rfl)) pacelinelaw09_SoloStates_ok (pacelinelaw09_SoloStates_eq t0 t1 w K) h)

/-- paceline/pacelinelaw09.SoloEnds -/
def pacelinelaw09_SoloEnds (t0 t1 : Value) (w : World) (K : KV) : Prop :=
  al (Value.cells t0) 25 w fun t2 w =>
  ldN 3 t2 w fun t18 w =>
  Cl prog 8 #[t18] w fun t19 w =>
  bnot t19 w fun t20 w =>
  gd t20 false (fun k => fld 2 t2 w k) w fun t22 w =>
  gd t20 false (fun k => ld1 t22 w k) w fun t23 w =>
  gd t20 false (fun k => bi .gtr .i64 t23 (Value.int IntKind.i64 60) w k) w fun t24 w =>
  pk t20 (Value.bool true) t24 w fun t25 w =>
  iff' t25
  (Cl prog 9 #[] w fun t26 w =>
  K t26 w)
  (ldN 3 t2 w fun t28 w =>
  Cl prog 10 #[t28] w fun t29 w =>
  xt 0 t29 w fun t30 w =>
  xt 1 t29 w fun t31 w =>
  ldN 3 t2 w fun t33 w =>
  Cl prog 11 #[t33] w fun t34 w =>
  xt 0 t34 w fun _ w =>
  xt 1 t34 w fun t36 w =>
  bi .neq .i64 t31 t36 w fun t39 w =>
  gd t39 false (fun k => Cl prog 9 #[] w k) w fun t41 w =>
  gd t39 false (fun k => bnot t41 w k) w fun t42 w =>
  pk t39 (Value.bool true) t42 w fun t43 w =>
  iff' t43
  (K (Value.bool false) w)
  (bi .neq .i64 t31 (Value.int IntKind.i64 0) w fun t45 w =>
  iff' t45
  (bn .eql t30 w fun t47 w =>
  K t47 w)
  (ldN 3 t2 w fun t48 w =>
  al (zeroD prog 25) 25 w fun t9 w =>
  stN 3 t9 t48 w fun _ w =>
  fld 2 t2 w fun t49 w =>
  ld1 t49 w fun t50 w =>
  cvI .i64 t1 w fun t52 w =>
  bi .rem .i64 t52 (Value.int IntKind.i64 60) w fun t53 w =>
  mnI .i64 t50 t53 w fun t54 w =>
  fld 2 t9 w fun t55 w =>
  stN 1 t55 t54 w fun _ w =>
  ldN 3 t9 w fun t57 w =>
  Cl prog 10 #[t57] w fun t58 w =>
  xt 0 t58 w fun t59 w =>
  xt 1 t58 w fun t60 w =>
  bi .neq .i64 t60 (Value.int IntKind.i64 0) w fun t62 w =>
  iff' t62
  (K (Value.bool false) w)
  (Cl prog 16 #[t30, (Value.int IntKind.i64 80)] w fun t64 w =>
  Cl prog 16 #[t59, (Value.int IntKind.i64 80)] w fun t66 w =>
  bi .eql .i64 t64 (Value.int IntKind.i64 80) w fun t68 w =>
  gd t68 false (fun k => k t66 w) w fun t70 w =>
  gd t68 false (fun k => bi .eql .i64 t70 (Value.int IntKind.i64 80) w k) w fun t71 w =>
  pk t68 (Value.bool true) t71 w fun t72 w =>
  iff' t72
  (K (Value.bool true) w)
  (lp [(Value.int IntKind.i64 0)] w (b1 fun t14 w g1 =>
  fld 1 t2 w fun t74 w =>
  ld1 t74 w fun t75 w =>
  lnS t75 w fun t76 w =>
  bi .lss .i64 t14 t76 w fun t77 w =>
  iff' t77
  (Cl prog 13 #[t30, t14] w fun t82 w =>
  Cl prog 13 #[t59, t14] w fun t85 w =>
  lp [(Value.int IntKind.i64 0)] w (b1 fun t17 w g2 =>
  lnS t82 w fun t88 w =>
  bi .lss .i64 t17 t88 w fun t89 w =>
  iff' t89
  (dr w fun w =>
  ixS 7 t82 t17 w fun t94 _ =>
  fld 0 t94 w fun t95 _ =>
  fld 0 t95 w fun t96 _ =>
  fld 0 t96 w fun t97 _ =>
  ld1 t97 w fun t98 _ =>
  fld 2 t9 w fun t99 _ =>
  ld1 t99 w fun t100 _ =>
  bi .lss .i64 t98 t100 w fun t101 _ =>
  lnS t85 w fun t104 _ =>
  bi .lss .i64 t17 t104 w fun t105 _ =>
  bb .neq t101 t105 w fun t106 _ =>
  gd t106 false (fun k => k t17 w) w fun t108 _ =>
  gd t106 false (fun k => k t85 w) w fun t109 _ =>
  gd t106 false (fun k => lnS t109 w k) w fun t110 _ =>
  gd t106 false (fun k => bi .lss .i64 t108 t110 w k) w fun t111 _ =>
  gd t106 false (fun k => k t111 w) w fun t112 _ =>
  gd t112 true (fun k => k t82 w) w fun t113 _ =>
  gd t112 true (fun k => k t17 w) w fun t114 _ =>
  gd t112 true (fun k => ixS 7 t113 t114 w k) w fun t115 _ =>
  gd t112 true (fun k => ldN 7 t115 w k) w fun t116 _ =>
  gd t112 true (fun k => k t85 w) w fun t117 _ =>
  gd t112 true (fun k => k t17 w) w fun t118 _ =>
  gd t112 true (fun k => ixS 7 t117 t118 w k) w fun t119 _ =>
  gd t112 true (fun k => ldN 7 t119 w k) w fun t120 _ =>
  gd t112 true (fun k => bO prog .neq 39 (Operand.tmp 116) (Operand.tmp 120) t116 t120 w k) w fun t121 w =>
  gd t106 false (fun k => pk t112 t121 (Value.bool false) w k) w fun t122 _ =>
  pk t106 (Value.bool true) t122 w fun t123 _ =>
  iff' t123
  (K (Value.bool false) w)
  (bi .add .i64 t17 (Value.int IntKind.i64 1) w fun t91 w =>
  g2 [t91] w))
  (lnS t85 w fun t125 w =>
  lnS t82 w fun t127 w =>
  bi .gtr .i64 t125 t127 w fun t128 w =>
  iff' t128
  (K (Value.bool false) w)
  (bi .add .i64 t14 (Value.int IntKind.i64 1) w fun t79 w =>
  g1 [t79] w))))
  (K (Value.bool true) w)))))))
theorem pacelinelaw09_SoloEnds_eq (t0 t1 : Value) (w : World) (K : KV) : pacelinelaw09_SoloEnds t0 t1 w K = fnW prog 129 [4] (match fn5.body with | some c => c | none => .skip) #[t0, t1] w K := by kernel_rfl
theorem pacelinelaw09_SoloEnds_ok : fnOk prog 129 [4] (match fn5.body with | some c => c | none => .skip) = true := by kernel_rfl
theorem pacelinelaw09_SoloEnds_calls {t0 t1 : Value} {w : World} {K : KV} (h : pacelinelaw09_SoloEnds t0 t1 w K) : Cl prog 5 #[t0, t1] w K :=
  Cl.mk (by kernel_rfl) (calls_of_F (fn := fn5) (nt := 129) (rs := [4]) mixed fnAt5 (by kernel_rfl) (by kernel_rfl) (by kernel_rfl) (Nat.le_of_ble_eq_true (by kernel_rfl)) pacelinelaw09_SoloEnds_ok (pacelinelaw09_SoloEnds_eq t0 t1 w K) h)

/-- paceline/pacelinelaw09.SoloKinds -/
def pacelinelaw09_SoloKinds (t0 t1 t2 : Value) (w : World) (K : KV) : Prop :=
  al (Value.cells t0) 25 w fun t3 w =>
  ldN 3 t3 w fun t18 w =>
  Cl prog 8 #[t18] w fun t19 w =>
  bnot t19 w fun t20 w =>
  iff' t20
  (Cl prog 9 #[] w fun t21 w =>
  K t21 w)
  (ldN 3 t3 w fun t23 w =>
  Cl prog 11 #[t23] w fun t24 w =>
  xt 0 t24 w fun _ w =>
  xt 1 t24 w fun t26 w =>
  bi .neq .i64 t26 (Value.int IntKind.i64 0) w fun t28 w =>
  gd t28 false (fun k => Cl prog 9 #[] w k) w fun t30 w =>
  gd t28 false (fun k => bnot t30 w k) w fun t31 w =>
  pk t28 (Value.bool true) t31 w fun t32 w =>
  iff' t32
  (Cl prog 9 #[] w fun t33 w =>
  K t33 w)
  (ldN 3 t3 w fun t34 w =>
  al (zeroD prog 25) 25 w fun t9 w =>
  stN 3 t9 t34 w fun _ w =>
  bsl 53 7 0 #[] [] w fun t35 w =>
  fld 1 t9 w fun t36 w =>
  stN 1 t36 t35 w fun _ w =>
  lp [(Value.int IntKind.i64 0)] w (b1 fun t10 w g1 =>
  fld 1 t3 w fun t38 w =>
  ld1 t38 w fun t39 w =>
  lnS t39 w fun t40 w =>
  bi .lss .i64 t10 t40 w fun t41 w =>
  iff' t41
  (fld 1 t3 w fun t44 w =>
  ld1 t44 w fun t45 w =>
  ixS 7 t45 t10 w fun t47 w =>
  ldN 7 t47 w fun t48 w =>
  al (zeroD prog 53) 53 w fun t11 w =>
  stN 7 t11 t48 w fun _ w =>
  fld 0 t11 w fun t49 w =>
  stN 1 t49 (Value.int IntKind.i64 0) w fun _ w =>
  lnS t1 w fun t52 w =>
  bi .lss .i64 t10 t52 w fun t53 w =>
  gd t53 true (fun k => k t1 w) w fun t55 w =>
  gd t53 true (fun k => k t10 w) w fun t56 w =>
  gd t53 true (fun k => ixS 1 t55 t56 w k) w fun t57 w =>
  gd t53 true (fun k => ld1 t57 w k) w fun t58 w =>
  pk t53 t58 (Value.bool false) w fun t59 w =>
  J0 (fun w =>
  fld 1 t9 w fun t61 w =>
  ld1 t61 w fun t62 w =>
  ldN 7 t11 w fun t63 w =>
  bsl 53 7 1 (zeroD prog 53) [(0, t63)] w fun t64 w =>
  apS prog #[23, 23] 23 t62 t64 w fun t65 w =>
  fld 1 t9 w fun t66 w =>
  stN 1 t66 t65 w fun _ w =>
  bi .add .i64 t10 (Value.int IntKind.i64 1) w fun t43 w =>
  g1 [t43] w) fun k2 =>
  iff' t59
  (fld 0 t11 w fun t60 w =>
  stN 1 t60 (Value.int IntKind.i64 1) w fun _ w =>
  k2 w)
  (k2 w))
  (ldN 3 t3 w fun t68 w =>
  Cl prog 10 #[t68] w fun t69 w =>
  xt 0 t69 w fun t70 w =>
  xt 1 t69 w fun t71 w =>
  ldN 3 t9 w fun t73 w =>
  Cl prog 10 #[t73] w fun t74 w =>
  xt 0 t74 w fun t75 w =>
  xt 1 t74 w fun t76 w =>
  bi .neq .i64 t71 (Value.int IntKind.i64 0) w fun t78 w =>
  gd t78 false (fun k => k t76 w) w fun t80 w =>
  gd t78 false (fun k => bi .neq .i64 t80 (Value.int IntKind.i64 0) w k) w fun t81 w =>
  pk t78 (Value.bool true) t81 w fun t82 w =>
  iff' t82
  (K (Value.bool false) w)
  (cvI .i64 t2 w fun t84 w =>
  bi .rem .i64 t84 (Value.int IntKind.i64 40) w fun t85 w =>
  Cl prog 16 #[t70, t85] w fun t88 w =>
  Cl prog 16 #[t75, t85] w fun t91 w =>
  bi .neq .i64 t88 t91 w fun t92 w =>
  gd t92 false (fun k => k t70 w) w fun t94 w =>
  gd t92 false (fun k => Cl prog 21 #[t94] w k) w fun t95 w =>
  gd t92 false (fun k => k t75 w) w fun t96 w =>
  gd t92 false (fun k => Cl prog 21 #[t96] w k) w fun t97 w =>
  gd t92 false (fun k => Cl prog 20 #[t95, t97] w k) w fun t98 w =>
  gd t92 false (fun k => bnot t98 w k) w fun t99 w =>
  pk t92 (Value.bool true) t99 w fun t100 w =>
  iff' t100
  (K (Value.bool false) w)
  (lp [(Value.int IntKind.i64 0)] w (b1 fun t17 w g3 =>
  fld 1 t3 w fun t102 w =>
  ld1 t102 w fun t103 w =>
  lnS t103 w fun t104 w =>
  bi .lss .i64 t17 t104 w fun t105 w =>
  iff' t105
  (Cl prog 18 #[t70, t17] w fun t110 w =>
  Cl prog 18 #[t75, t17] w fun t113 w =>
  bi .neq .i64 t110 t113 w fun t114 w =>
  gd t114 false (fun k => k t70 w) w fun t116 w =>
  gd t114 false (fun k => k t17 w) w fun t117 w =>
  gd t114 false (fun k => Cl prog 13 #[t116, t117] w k) w fun t118 w =>
  gd t114 false (fun k => k t75 w) w fun t119 w =>
  gd t114 false (fun k => k t17 w) w fun t120 w =>
  gd t114 false (fun k => Cl prog 13 #[t119, t120] w k) w fun t121 w =>
  gd t114 false (fun k => Cl prog 22 #[t118, t121] w k) w fun t122 w =>
  gd t114 false (fun k => bnot t122 w k) w fun t123 w =>
  pk t114 (Value.bool true) t123 w fun t124 w =>
  iff' t124
  (K (Value.bool false) w)
  (bi .add .i64 t17 (Value.int IntKind.i64 1) w fun t107 w =>
  g3 [t107] w))
  (K (Value.bool true) w))))))))
theorem pacelinelaw09_SoloKinds_eq (t0 t1 t2 : Value) (w : World) (K : KV) : pacelinelaw09_SoloKinds t0 t1 t2 w K = fnW prog 125 [6] (match fn6.body with | some c => c | none => .skip) #[t0, t1, t2] w K := by kernel_rfl
theorem pacelinelaw09_SoloKinds_ok : fnOk prog 125 [6] (match fn6.body with | some c => c | none => .skip) = true := by kernel_rfl
theorem pacelinelaw09_SoloKinds_calls {t0 t1 t2 : Value} {w : World} {K : KV} (h : pacelinelaw09_SoloKinds t0 t1 t2 w K) : Cl prog 6 #[t0, t1, t2] w K :=
  Cl.mk (by kernel_rfl) (calls_of_F (fn := fn6) (nt := 125) (rs := [6]) mixed fnAt6 (by kernel_rfl) (by kernel_rfl) (by kernel_rfl) (Nat.le_of_ble_eq_true (by kernel_rfl)) pacelinelaw09_SoloKinds_ok (pacelinelaw09_SoloKinds_eq t0 t1 t2 w K) h)

/-- paceline/pacelinelaw09.SoloCounts -/
def pacelinelaw09_SoloCounts (t0 t1 : Value) (w : World) (K : KV) : Prop :=
  al (Value.cells t0) 25 w fun t2 w =>
  ldN 3 t2 w fun t17 w =>
  Cl prog 8 #[t17] w fun t18 w =>
  bnot t18 w fun t19 w =>
  iff' t19
  (Cl prog 9 #[] w fun t20 w =>
  K t20 w)
  (ldN 3 t2 w fun t22 w =>
  Cl prog 10 #[t22] w fun t23 w =>
  xt 0 t23 w fun t24 w =>
  xt 1 t23 w fun t25 w =>
  ldN 3 t2 w fun t27 w =>
  Cl prog 11 #[t27] w fun t28 w =>
  xt 0 t28 w fun _ w =>
  xt 1 t28 w fun t30 w =>
  bi .neq .i64 t25 t30 w fun t33 w =>
  gd t33 false (fun k => Cl prog 9 #[] w k) w fun t35 w =>
  gd t33 false (fun k => bnot t35 w k) w fun t36 w =>
  pk t33 (Value.bool true) t36 w fun t37 w =>
  iff' t37
  (K (Value.bool false) w)
  (bi .neq .i64 t25 (Value.int IntKind.i64 0) w fun t39 w =>
  iff' t39
  (bn .eql t24 w fun t41 w =>
  K t41 w)
  (cvI .i64 t1 w fun t44 w =>
  bi .rem .i64 t44 (Value.int IntKind.i64 30) w fun t45 w =>
  Cl prog 16 #[t24, t45] w fun _ w =>
  Cl prog 21 #[t24] w fun t48 w =>
  lp [t48, (Value.int IntKind.i64 0)] w (b2 fun t9 t10 w g1 =>
  fld 1 t2 w fun t50 w =>
  ld1 t50 w fun t51 w =>
  lnS t51 w fun t52 w =>
  bi .lss .i64 t10 t52 w fun t53 w =>
  iff' t53
  (Cl prog 13 #[t24, t10] w fun t58 w =>
  lp [t9, (Value.int IntKind.i64 0)] w (b2 fun t9_1 t12 w g2 =>
  lnS t58 w fun t61 w =>
  bi .lss .i64 t12 t61 w fun t62 w =>
  iff' t62
  (ixS 7 t58 t12 w fun t68 w =>
  fld 0 t68 w fun t69 w =>
  ldN 6 t69 w fun t70 w =>
  bsl 37 6 1 (zeroD prog 37) [(0, t70)] w fun t71 w =>
  apS prog #[58, 58] 58 t9_1 t71 w fun t72 w =>
  bi .add .i64 t12 (Value.int IntKind.i64 1) w fun t64 w =>
  g2 [t72, t64] w)
  (bi .add .i64 t10 (Value.int IntKind.i64 1) w fun t55 w =>
  g1 [t9_1, t55] w)))
  (lp [(Value.int IntKind.i64 0)] w (b1 fun t13 w g3 =>
  lnS t9 w fun t75 w =>
  bi .lss .i64 t13 t75 w fun t76 w =>
  iff' t76
  (ixS 6 t9 t13 w fun t81 w =>
  ldN 6 t81 w fun t82 w =>
  al (zeroD prog 37) 37 w fun t14 w =>
  stN 6 t14 t82 w fun _ w =>
  fld 0 t14 w fun t83 w =>
  fld 2 t83 w fun t84 w =>
  ld1 t84 w fun t85 w =>
  bi .lss .i64 t85 (Value.int IntKind.i64 0) w fun t86 w =>
  gd t86 false (fun k => fld 0 t14 w k) w fun t88 w =>
  gd t86 false (fun k => fld 1 t88 w k) w fun t89 w =>
  gd t86 false (fun k => ld1 t89 w k) w fun t90 w =>
  gd t86 false (fun k => bi .lss .i64 t90 (Value.int IntKind.i64 0) w k) w fun t91 w =>
  pk t86 (Value.bool true) t91 w fun t92 w =>
  gd t92 false (fun k => fld 0 t14 w k) w fun t94 w =>
  gd t92 false (fun k => fld 1 t94 w k) w fun t95 w =>
  gd t92 false (fun k => ld1 t95 w k) w fun t96 w =>
  gd t92 false (fun k => fld 1 t2 w k) w fun t97 w =>
  gd t92 false (fun k => ld1 t97 w k) w fun t98 w =>
  gd t92 false (fun k => lnS t98 w k) w fun t99 w =>
  gd t92 false (fun k => bi .geq .i64 t96 t99 w k) w fun t100 w =>
  pk t92 (Value.bool true) t100 w fun t101 w =>
  gd t101 false (fun k => fld 0 t14 w k) w fun t103 w =>
  gd t101 false (fun k => fld 1 t103 w k) w fun t104 w =>
  gd t101 false (fun k => ld1 t104 w k) w fun t105 w =>
  gd t101 false (fun k => fld 3 t14 w k) w fun t106 w =>
  gd t101 false (fun k => ld1 t106 w k) w fun t107 w =>
  gd t101 false (fun k => bi .eql .i64 t105 t107 w k) w fun t108 w =>
  pk t101 (Value.bool true) t108 w fun t109 w =>
  iff' t109
  (K (Value.bool false) w)
  (lp [(Value.int IntKind.i64 0)] w (b1 fun t15 w g4 =>
  bi .lss .i64 t15 t13 w fun t112 w =>
  iff' t112
  (ixS 6 t9 t15 w fun t117 w =>
  ldN 6 t117 w fun t118 w =>
  al (zeroD prog 37) 37 w fun t16 w =>
  stN 6 t16 t118 w fun _ w =>
  fld 0 t16 w fun t119 w =>
  fld 1 t119 w fun t120 w =>
  ld1 t120 w fun t121 w =>
  fld 0 t14 w fun t122 w =>
  fld 1 t122 w fun t123 w =>
  ld1 t123 w fun t124 w =>
  bi .eql .i64 t121 t124 w fun t125 w =>
  gd t125 true (fun k => fld 0 t16 w k) w fun t127 w =>
  gd t125 true (fun k => fld 2 t127 w k) w fun t128 w =>
  gd t125 true (fun k => ld1 t128 w k) w fun t129 w =>
  gd t125 true (fun k => fld 0 t14 w k) w fun t130 w =>
  gd t125 true (fun k => fld 2 t130 w k) w fun t131 w =>
  gd t125 true (fun k => ld1 t131 w k) w fun t132 w =>
  gd t125 true (fun k => bi .eql .i64 t129 t132 w k) w fun t133 w =>
  pk t125 t133 (Value.bool false) w fun t134 w =>
  gd t134 true (fun k => fld 0 t16 w k) w fun t136 w =>
  gd t134 true (fun k => fld 0 t136 w k) w fun t137 w =>
  gd t134 true (fun k => ld1 t137 w k) w fun t138 w =>
  gd t134 true (fun k => fld 0 t14 w k) w fun t139 w =>
  gd t134 true (fun k => fld 0 t139 w k) w fun t140 w =>
  gd t134 true (fun k => ld1 t140 w k) w fun t141 w =>
  gd t134 true (fun k => bi .neq .i64 t138 t141 w k) w fun t142 w =>
  gd t134 true (fun k => k t142 w) w fun t143 w =>
  gd t143 false (fun k => fld 4 t16 w k) w fun t144 w =>
  gd t143 false (fun k => ld1 t144 w k) w fun t145 w =>
  gd t143 false (fun k => fld 4 t14 w k) w fun t146 w =>
  gd t143 false (fun k => ld1 t146 w k) w fun t147 w =>
  gd t143 false (fun k => bi .neq .i64 t145 t147 w k) w fun t148 w =>
  gd t134 true (fun k => pk t143 (Value.bool true) t148 w k) w fun t149 w =>
  gd t134 true (fun k => k t149 w) w fun t150 w =>
  gd t150 false (fun k => fld 5 t16 w k) w fun t151 w =>
  gd t150 false (fun k => ld1 t151 w k) w fun t152 w =>
  gd t150 false (fun k => fld 5 t14 w k) w fun t153 w =>
  gd t150 false (fun k => ld1 t153 w k) w fun t154 w =>
  gd t150 false (fun k => bi .neq .i64 t152 t154 w k) w fun t155 w =>
  gd t134 true (fun k => pk t150 (Value.bool true) t155 w k) w fun t156 w =>
  gd t134 true (fun k => k t156 w) w fun t157 w =>
  gd t157 false (fun k => fld 3 t16 w k) w fun t158 w =>
  gd t157 false (fun k => ld1 t158 w k) w fun t159 w =>
  gd t157 false (fun k => fld 3 t14 w k) w fun t160 w =>
  gd t157 false (fun k => ld1 t160 w k) w fun t161 w =>
  gd t157 false (fun k => bi .eql .i64 t159 t161 w k) w fun t162 w =>
  gd t134 true (fun k => pk t157 (Value.bool true) t162 w k) w fun t163 w =>
  pk t134 t163 (Value.bool false) w fun t164 w =>
  iff' t164
  (K (Value.bool false) w)
  (bi .add .i64 t15 (Value.int IntKind.i64 1) w fun t114 w =>
  g4 [t114] w))
  (bi .add .i64 t13 (Value.int IntKind.i64 1) w fun t78 w =>
  g3 [t78] w))))
  (K (Value.bool true) w)))))))
theorem pacelinelaw09_SoloCounts_eq (t0 t1 : Value) (w : World) (K : KV) : pacelinelaw09_SoloCounts t0 t1 w K = fnW prog 165 [4] (match fn7.body with | some c => c | none => .skip) #[t0, t1] w K := by kernel_rfl
theorem pacelinelaw09_SoloCounts_ok : fnOk prog 165 [4] (match fn7.body with | some c => c | none => .skip) = true := by kernel_rfl
theorem pacelinelaw09_SoloCounts_calls {t0 t1 : Value} {w : World} {K : KV} (h : pacelinelaw09_SoloCounts t0 t1 w K) : Cl prog 7 #[t0, t1] w K :=
  Cl.mk (by kernel_rfl) (calls_of_F (fn := fn7) (nt := 165) (rs := [4]) mixed fnAt7 (by kernel_rfl) (by kernel_rfl) (by kernel_rfl) (Nat.le_of_ble_eq_true (by kernel_rfl)) pacelinelaw09_SoloCounts_ok (pacelinelaw09_SoloCounts_eq t0 t1 w K) h)

/-- paceline/pacelinelaw09.small -/
def pacelinelaw09_small (t0 : Value) (w : World) (K : KV) : Prop :=
  al (Value.cells t0) 25 w fun t1 w =>
  fld 0 t1 w fun t6 w =>
  ld1 t6 w fun t7 w =>
  lnS t7 w fun t8 w =>
  bi .gtr .i64 t8 (Value.int IntKind.i64 50) w fun t9 w =>
  gd t9 false (fun k => fld 1 t1 w k) w fun t11 w =>
  gd t9 false (fun k => ld1 t11 w k) w fun t12 w =>
  gd t9 false (fun k => lnS t12 w k) w fun t13 w =>
  gd t9 false (fun k => bi .gtr .i64 t13 (Value.int IntKind.i64 20) w k) w fun t14 w =>
  pk t9 (Value.bool true) t14 w fun t15 w =>
  iff' t15
  (K (Value.bool false) w)
  (lp [(Value.int IntKind.i64 0)] w (b1 fun t3 w g1 =>
  fld 1 t1 w fun t17 w =>
  ld1 t17 w fun t18 w =>
  lnS t18 w fun t19 w =>
  bi .lss .i64 t3 t19 w fun t20 w =>
  iff' t20
  (fld 1 t1 w fun t23 w =>
  ld1 t23 w fun t24 w =>
  ixS 7 t24 t3 w fun t26 w =>
  ldN 7 t26 w fun t27 w =>
  al (zeroD prog 53) 53 w fun t4 w =>
  stN 7 t4 t27 w fun _ w =>
  fld 3 t4 w fun t28 w =>
  ld1 t28 w fun t29 w =>
  lnS t29 w fun t30 w =>
  bi .gtr .i64 t30 (Value.int IntKind.i64 60) w fun t31 w =>
  gd t31 false (fun k => fld 4 t4 w k) w fun t33 w =>
  gd t31 false (fun k => ld1 t33 w k) w fun t34 w =>
  gd t31 false (fun k => lnS t34 w k) w fun t35 w =>
  gd t31 false (fun k => bi .gtr .i64 t35 (Value.int IntKind.i64 50) w k) w fun t36 w =>
  pk t31 (Value.bool true) t36 w fun t37 w =>
  gd t37 false (fun k => fld 5 t4 w k) w fun t39 w =>
  gd t37 false (fun k => ld1 t39 w k) w fun t40 w =>
  gd t37 false (fun k => lnS t40 w k) w fun t41 w =>
  gd t37 false (fun k => bi .gtr .i64 t41 (Value.int IntKind.i64 50) w k) w fun t42 w =>
  pk t37 (Value.bool true) t42 w fun t43 w =>
  gd t43 false (fun k => fld 6 t4 w k) w fun t45 w =>
  gd t43 false (fun k => ld1 t45 w k) w fun t46 w =>
  gd t43 false (fun k => lnS t46 w k) w fun t47 w =>
  gd t43 false (fun k => bi .gtr .i64 t47 (Value.int IntKind.i64 20) w k) w fun t48 w =>
  pk t43 (Value.bool true) t48 w fun t49 w =>
  iff' t49
  (K (Value.bool false) w)
  (lp [(Value.int IntKind.i64 0)] w (b1 fun t5 w g2 =>
  fld 3 t4 w fun t51 w =>
  ld1 t51 w fun t52 w =>
  lnS t52 w fun t53 w =>
  bi .lss .i64 t5 t53 w fun t54 w =>
  iff' t54
  (fld 3 t4 w fun t57 w =>
  ld1 t57 w fun t58 w =>
  ixS 4 t58 t5 w fun t60 w =>
  fld 3 t60 w fun t61 w =>
  ld1 t61 w fun t62 w =>
  lnS t62 w fun t63 w =>
  bi .gtr .i64 t63 (Value.int IntKind.i64 20) w fun t64 w =>
  iff' t64
  (K (Value.bool false) w)
  (bi .add .i64 t5 (Value.int IntKind.i64 1) w fun t56 w =>
  g2 [t56] w))
  (bi .add .i64 t3 (Value.int IntKind.i64 1) w fun t22 w =>
  g1 [t22] w))))
  (K (Value.bool true) w)))
theorem pacelinelaw09_small_eq (t0 : Value) (w : World) (K : KV) : pacelinelaw09_small t0 w K = fnW prog 65 [2] (match fn8.body with | some c => c | none => .skip) #[t0] w K := by kernel_rfl
theorem pacelinelaw09_small_ok : fnOk prog 65 [2] (match fn8.body with | some c => c | none => .skip) = true := by kernel_rfl
theorem pacelinelaw09_small_calls {t0 : Value} {w : World} {K : KV} (h : pacelinelaw09_small t0 w K) : Cl prog 8 #[t0] w K :=
  Cl.mk (by kernel_rfl) (calls_of_F (fn := fn8) (nt := 65) (rs := [2]) mixed fnAt8 (by kernel_rfl) (by kernel_rfl) (by kernel_rfl) (Nat.le_of_ble_eq_true (by kernel_rfl)) pacelinelaw09_small_ok (pacelinelaw09_small_eq t0 w K) h)

/-- paceline/pacelinelaw09.shown -/
def pacelinelaw09_shown (w : World) (K : KV) : Prop :=
  bsl 3 1 1 (zeroD prog 3) [(0, (Value.int IntKind.i64 (-1)))] w fun t5 w =>
  bsl 3 1 1 (zeroD prog 3) [(0, (Value.int IntKind.i64 0))] w fun t6 w =>
  bld (zeroD prog 63) #[(0, 1), (1, 1), (2, 1)] [(1, (Value.int IntKind.i64 4)), (2, (Value.int IntKind.i64 2))] w fun t7 w =>
  bsl 63 3 1 (zeroD prog 63) [(0, t7)] w fun t8 w =>
  bld (zeroD prog 53) #[(0, 1), (1, 1), (2, 1), (3, 1), (4, 1), (5, 1), (6, 1)] [(1, (Value.int IntKind.i64 1)), (4, t6), (6, t8)] w fun t9 w =>
  bsl 3 1 1 (zeroD prog 3) [(0, (Value.int IntKind.i64 0))] w fun t10 w =>
  bld (zeroD prog 53) #[(0, 1), (1, 1), (2, 1), (3, 1), (4, 1), (5, 1), (6, 1)] [(1, (Value.int IntKind.i64 1)), (2, (Value.int IntKind.i64 3)), (5, t10)] w fun t11 w =>
  bsl 53 7 2 (zeroD prog 53) [(0, t9), (1, t11)] w fun t12 w =>
  bld (zeroD prog 25) #[(0, 1), (1, 1), (2, 1)] [(0, t5), (2, (Value.int IntKind.i64 9)), (1, t12)] w fun t13 w =>
  al (zeroD prog 25) 25 w fun t1 w =>
  stN 3 t1 t13 w fun _ w =>
  ldN 3 t1 w fun t15 w =>
  Cl prog 10 #[t15] w fun t16 w =>
  xt 0 t16 w fun t17 w =>
  xt 1 t16 w fun t18 w =>
  bi .neq .i64 t18 (Value.int IntKind.i64 0) w fun t20 w =>
  gd t20 false (fun k => k t17 w) w fun t22 w =>
  gd t20 false (fun k => bn .eql t22 w k) w fun t23 w =>
  pk t20 (Value.bool true) t23 w fun t24 w =>
  gd t24 false (fun k => k t17 w) w fun t26 w =>
  gd t24 false (fun k => Cl prog 16 #[t26, (Value.int IntKind.i64 5)] w k) w fun t27 w =>
  gd t24 false (fun k => bi .neq .i64 t27 (Value.int IntKind.i64 1) w k) w fun t28 w =>
  pk t24 (Value.bool true) t28 w fun t29 w =>
  iff' t29
  (K (Value.bool false) w)
  (Cl prog 13 #[t17, (Value.int IntKind.i64 1)] w fun t31 w =>
  lnS t31 w fun t33 w =>
  bi .eql .i64 t33 (Value.int IntKind.i64 1) w fun t34 w =>
  gd t34 true (fun k => k t31 w) w fun t36 w =>
  gd t34 true (fun k => ixS 7 t36 (Value.int IntKind.i64 0) w k) w fun t37 w =>
  gd t34 true (fun k => fld 6 t37 w k) w fun t38 w =>
  gd t34 true (fun k => ld1 t38 w k) w fun t39 w =>
  gd t34 true (fun k => bi .eql .i64 t39 (Value.int IntKind.i64 3) w k) w fun t40 w =>
  pk t34 t40 (Value.bool false) w fun t41 w =>
  gd t41 true (fun k => k t31 w) w fun t43 w =>
  gd t41 true (fun k => ixS 7 t43 (Value.int IntKind.i64 0) w k) w fun t44 w =>
  gd t41 true (fun k => fld 0 t44 w k) w fun t45 w =>
  gd t41 true (fun k => fld 0 t45 w k) w fun t46 w =>
  gd t41 true (fun k => fld 0 t46 w k) w fun t47 w =>
  gd t41 true (fun k => ld1 t47 w k) w fun t48 w =>
  gd t41 true (fun k => bi .eql .i64 t48 (Value.int IntKind.i64 4) w k) w fun t49 w =>
  pk t41 t49 (Value.bool false) w fun t50 w =>
  gd t50 true (fun k => k t17 w) w fun t52 w =>
  gd t50 true (fun k => Cl prog 18 #[t52, (Value.int IntKind.i64 1)] w k) w fun t53 w =>
  gd t50 true (fun k => bi .eql .i64 t53 (Value.int IntKind.i64 3) w k) w fun t54 w =>
  pk t50 t54 (Value.bool false) w fun t55 w =>
  K t55 w)
theorem pacelinelaw09_shown_eq (w : World) (K : KV) : pacelinelaw09_shown w K = fnW prog 56 [0] (match fn9.body with | some c => c | none => .skip) #[] w K := by kernel_rfl
theorem pacelinelaw09_shown_ok : fnOk prog 56 [0] (match fn9.body with | some c => c | none => .skip) = true := by kernel_rfl
theorem pacelinelaw09_shown_calls {w : World} {K : KV} (h : pacelinelaw09_shown w K) : Cl prog 9 #[] w K :=
  Cl.mk (by kernel_rfl) (calls_of_F (fn := fn9) (nt := 56) (rs := [0]) mixed fnAt9 (by kernel_rfl) (by kernel_rfl) (by kernel_rfl) (Nat.le_of_ble_eq_true (by kernel_rfl)) pacelinelaw09_shown_ok (pacelinelaw09_shown_eq w K) h)

/-- paceline/solo.New -/
def solo_New (t0 : Value) (w : World) (K : KV) : Prop :=
  al (Value.cells t0) 25 w fun t1 w =>
  ldN 3 t1 w fun t10 w =>
  Cl prog 23 #[t10] w fun t11 w =>
  xt 0 t11 w fun _ w =>
  xt 1 t11 w fun t13 w =>
  bi .neq .i64 t13 (Value.int IntKind.i64 0) w fun t15 w =>
  iff' t15
  (K (Value.tuple #[(Value.pointer none), t13]) w)
  (ldN 3 t1 w fun t17 w =>
  Cl prog 24 #[t17] w fun t18 w =>
  bld (zeroD prog 68) #[(0, 3), (3, 1), (4, 1)] [(0, t18)] w fun t19 w =>
  al (Value.cells t19) 68 w fun t20 w =>
  fld 1 t1 w fun t21 w =>
  ld1 t21 w fun t22 w =>
  lnS t22 w fun t23 w =>
  lp [(Value.int IntKind.i64 0)] w (b1 fun t24 w g1 =>
  bi .lss .i64 t24 t23 w fun t25 w =>
  iff' t25
  (ixS 7 t22 t24 w fun t26 w =>
  ldN 7 t26 w fun t27 w =>
  al (zeroD prog 53) 53 w fun t8 w =>
  stN 7 t8 t27 w fun _ w =>
  dr w fun w =>
  ncP t20 <|
  fld 3 t20 w fun t31 _ =>
  ld1 t31 w fun t32 _ =>
  fld 2 t8 w fun t33 _ =>
  ld1 t33 w fun t34 _ =>
  fld 6 t8 w fun t35 _ =>
  ld1 t35 w fun t36 _ =>
  lnS t36 w fun t37 _ =>
  bld (zeroD prog 70) #[(0, 1), (1, 1), (2, 1)] [(0, t34), (1, t37)] w fun t38 w =>
  (ld1 t31 w (fun v' w'' => v' = t32 ∧ w'' = w)) ∧ (bsl 70 3 1 (zeroD prog 70) [(0, t38)] w fun t39 w =>
  (ld1 t31 w (fun v' w'' => v' = t32 ∧ w'' = w)) ∧ (apS prog #[65, 65] 65 t32 t39 w fun t40 w =>
  ncP t20 <|
  fld 3 t20 w fun t42 _ =>
  stN 1 t42 t40 w fun _ w =>
  bi .add .i64 t24 (Value.int IntKind.i64 1) w fun t43 w =>
  g1 [t43] w)))
  (ldN 3 t1 w fun t44 w =>
  Cl prog 26 #[t44] w fun t45 w =>
  Cl prog 25 #[t45, (Value.func (Fn.func 27) #[t20] #[])] w fun _ w =>
  K (Value.tuple #[t20, (Value.int IntKind.i64 0)]) w)))
theorem solo_New_eq (t0 : Value) (w : World) (K : KV) : solo_New t0 w K = fnW prog 50 [2, 3] (match fn10.body with | some c => c | none => .skip) #[t0] w K := by kernel_rfl
theorem solo_New_ok : fnOk prog 50 [2, 3] (match fn10.body with | some c => c | none => .skip) = true := by kernel_rfl
theorem solo_New_calls {t0 : Value} {w : World} {K : KV} (h : solo_New t0 w K) : Cl prog 10 #[t0] w K :=
  Cl.mk (by kernel_rfl) (calls_of_F (fn := fn10) (nt := 50) (rs := [2, 3]) mixed fnAt10 (by kernel_rfl) (by kernel_rfl) (by kernel_rfl) (Nat.le_of_ble_eq_true (by kernel_rfl)) solo_New_ok (solo_New_eq t0 w K) h)

/-- paceline/pacelineref08.Check -/
def pacelineref08_Check (t0 : Value) (w : World) (K : KV) : Prop :=
  al (Value.cells t0) 25 w fun t1 w =>
  fld 0 t1 w fun t7 w =>
  ld1 t7 w fun t8 w =>
  Cl prog 28 #[t8] w fun t9 w =>
  bi .neq .i64 t9 (Value.int IntKind.i64 0) w fun t11 w =>
  iff' t11
  (K (Value.tuple #[(Value.int IntKind.i64 (-1)), t9]) w)
  (fld 2 t1 w fun t13 w =>
  ld1 t13 w fun t14 w =>
  bi .lss .i64 t14 (Value.int IntKind.i64 0) w fun t15 w =>
  gd t15 false (fun k => fld 2 t1 w k) w fun t17 w =>
  gd t15 false (fun k => ld1 t17 w k) w fun t18 w =>
  gd t15 false (fun k => bi .gtr .i64 t18 (Value.int IntKind.i64 1099511627776) w k) w fun t19 w =>
  pk t15 (Value.bool true) t19 w fun t20 w =>
  gd t20 false (fun k => fld 1 t1 w k) w fun t22 w =>
  gd t20 false (fun k => ld1 t22 w k) w fun t23 w =>
  gd t20 false (fun k => lnS t23 w k) w fun t24 w =>
  gd t20 false (fun k => bi .lss .i64 t24 (Value.int IntKind.i64 1) w k) w fun t25 w =>
  pk t20 (Value.bool true) t25 w fun t26 w =>
  gd t26 false (fun k => fld 1 t1 w k) w fun t28 w =>
  gd t26 false (fun k => ld1 t28 w k) w fun t29 w =>
  gd t26 false (fun k => lnS t29 w k) w fun t30 w =>
  gd t26 false (fun k => bi .gtr .i64 t30 (Value.int IntKind.i64 8) w k) w fun t31 w =>
  pk t26 (Value.bool true) t31 w fun t32 w =>
  iff' t32
  (K (Value.tuple #[(Value.int IntKind.i64 (-1)), (Value.int IntKind.i64 1)]) w)
  (lp [(Value.int IntKind.i64 0)] w (b1 fun t5 w g1 =>
  fld 1 t1 w fun t34 w =>
  ld1 t34 w fun t35 w =>
  lnS t35 w fun t36 w =>
  bi .lss .i64 t5 t36 w fun t37 w =>
  iff' t37
  (dr w fun w =>
  fld 1 t1 w fun t40 _ =>
  ld1 t40 w fun t41 _ =>
  ixS 7 t41 t5 w fun t43 _ =>
  ldN 7 t43 w fun t44 _ =>
  fld 0 t1 w fun t45 _ =>
  ld1 t45 w fun t46 _ =>
  lnS t46 w fun t47 _ =>
  Cl prog 29 #[t44, t47] w fun t48 w =>
  bi .neq .i64 t48 (Value.int IntKind.i64 0) w fun t50 w =>
  iff' t50
  (K (Value.tuple #[t5, t48]) w)
  (bi .add .i64 t5 (Value.int IntKind.i64 1) w fun t39 w =>
  g1 [t39] w))
  (K (Value.tuple #[(Value.int IntKind.i64 (-1)), (Value.int IntKind.i64 0)]) w))))
theorem pacelineref08_Check_eq (t0 : Value) (w : World) (K : KV) : pacelineref08_Check t0 w K = fnW prog 53 [2, 3] (match fn11.body with | some c => c | none => .skip) #[t0] w K := by kernel_rfl
theorem pacelineref08_Check_ok : fnOk prog 53 [2, 3] (match fn11.body with | some c => c | none => .skip) = true := by kernel_rfl
theorem pacelineref08_Check_calls {t0 : Value} {w : World} {K : KV} (h : pacelineref08_Check t0 w K) : Cl prog 11 #[t0] w K :=
  Cl.mk (by kernel_rfl) (calls_of_F (fn := fn11) (nt := 53) (rs := [2, 3]) mixed fnAt11 (by kernel_rfl) (by kernel_rfl) (by kernel_rfl) (Nat.le_of_ble_eq_true (by kernel_rfl)) pacelineref08_Check_ok (pacelineref08_Check_eq t0 w K) h)

/-- (*paceline/solo.Run).Next -/
def solo_Run_Next (t0 : Value) (w : World) (K : KV) : Prop :=
  al (zeroD prog 39) 39 w fun t2 w =>
  dr w fun w =>
  ncP t0 <|
  fld 4 t0 w fun t11 _ =>
  ld1 t11 w fun t12 _ =>
  lnS t12 w fun t13 _ =>
  bi .eql .i64 t13 (Value.int IntKind.i64 0) w fun t14 _ =>
  gd t14 false (fun k => k t0 w) w fun t16 _ =>
  gd t14 false (fun k => nc t16 w k) w fun t17 _ =>
  gd t14 false (fun k => fld 4 t17 w k) w fun t18 _ =>
  gd t14 false (fun k => ld1 t18 w k) w fun t19 _ =>
  gd t14 false (fun k => ixS 6 t19 (Value.int IntKind.i64 0) w k) w fun t20 _ =>
  gd t14 false (fun k => fld 0 t20 w k) w fun t21 _ =>
  gd t14 false (fun k => fld 0 t21 w k) w fun t22 _ =>
  gd t14 false (fun k => ld1 t22 w k) w fun t23 _ =>
  gd t14 false (fun k => k t0 w) w fun t24 _ =>
  gd t14 false (fun k => nc t24 w k) w fun t25 _ =>
  gd t14 false (fun k => fld 0 t25 w k) w fun t26 _ =>
  gd t14 false (fun k => fld 2 t26 w k) w fun t27 _ =>
  gd t14 false (fun k => ld1 t27 w k) w fun t28 _ =>
  gd t14 false (fun k => bi .geq .i64 t23 t28 w k) w fun t29 _ =>
  pk t14 (Value.bool true) t29 w fun t30 _ =>
  iff' t30
  (bld (zeroD prog 39) #[(0, 6), (6, 1)] [] w fun t31 w =>
  stN 7 t2 t31 w fun _ w =>
  ldN 7 t2 w fun r0 _ =>
  K (Value.tuple #[r0, (Value.bool false)]) w)
  (ncP t0 <|
  fld 4 t0 w fun t34 w =>
  Cl prog 30 #[(Value.iface 77 t34)] w fun t36 w =>
  tyA prog t36 20 37 false w fun t37 w =>
  al (zeroD prog 37) 37 w fun t4 w =>
  stN 6 t4 t37 w fun _ w =>
  dr w fun w =>
  ncP t0 <|
  fld 3 t0 w fun t40 _ =>
  ld1 t40 w fun t41 _ =>
  fld 3 t4 w fun t42 _ =>
  ld1 t42 w fun t43 _ =>
  ixS 3 t41 t43 w fun t44 _ =>
  dr w fun w =>
  ncP t0 <|
  fld 0 t0 w fun t48 _ =>
  fld 1 t48 w fun t49 _ =>
  ld1 t49 w fun t50 _ =>
  fld 3 t4 w fun t51 _ =>
  ld1 t51 w fun t52 _ =>
  ixS 7 t50 t52 w fun t53 _ =>
  fld 3 t53 w fun t54 _ =>
  ld1 t54 w fun t55 _ =>
  ncP t44 <|
  fld 0 t44 w fun t58 _ =>
  ld1 t58 w fun t59 _ =>
  fld 4 t4 w fun t60 _ =>
  ld1 t60 w fun t61 _ =>
  Cl prog 31 #[t55, t59, t61] w fun t62 w =>
  xt 0 t62 w fun t63 _ =>
  xt 1 t62 w fun t64 _ =>
  dr w fun w =>
  ncP t0 <|
  fld 0 t0 w fun t67 _ =>
  ldN 3 t67 w fun t68 _ =>
  fld 3 t4 w fun t69 _ =>
  ld1 t69 w fun t70 _ =>
  ncP t44 <|
  fld 1 t44 w fun t73 _ =>
  ld1 t73 w fun t74 _ =>
  fld 0 t4 w fun t75 _ =>
  fld 0 t75 w fun t76 _ =>
  ld1 t76 w fun t77 _ =>
  fld 5 t4 w fun t78 _ =>
  ld1 t78 w fun t79 _ =>
  Cl prog 32 #[t68, t70, t74, t77, t79, t64] w fun t81 w =>
  Cl prog 25 #[t81, (Value.func (Fn.func 27) #[t0] #[])] w fun _ w =>
  ncP t44 <|
  fld 0 t44 w fun t88 w =>
  stN 1 t88 t63 w fun _ w =>
  ncP t44 <|
  fld 1 t44 w fun t91 w =>
  ld1 t91 w fun t92 w =>
  lnS t64 w fun t94 w =>
  bi .add .i64 t92 t94 w fun t95 w =>
  ncP t44 <|
  fld 1 t44 w fun t97 w =>
  stN 1 t97 t95 w fun _ w =>
  ldN 6 t4 w fun t98 w =>
  bld (zeroD prog 39) #[(0, 6), (6, 1)] [(0, t98), (1, t63)] w fun t100 w =>
  al (zeroD prog 39) 39 w fun t8 w =>
  stN 7 t8 t100 w fun _ w =>
  dr w fun w =>
  ncP t44 <|
  fld 2 t44 w fun t104 _ =>
  ld1 t104 w fun t105 _ =>
  ldN 7 t8 w fun t106 _ =>
  bsl 39 7 1 (zeroD prog 39) [(0, t106)] w fun t107 w =>
  (ld1 t104 w (fun v' w'' => v' = t105 ∧ w'' = w)) ∧ (apS prog #[42, 42] 42 t105 t107 w fun t108 w =>
  ncP t44 <|
  fld 2 t44 w fun t110 _ =>
  stN 1 t110 t108 w fun _ w =>
  ldN 7 t8 w fun t111 w =>
  stN 7 t2 t111 w fun _ w =>
  ldN 7 t2 w fun r0 _ =>
  K (Value.tuple #[r0, (Value.bool true)]) w))
theorem solo_Run_Next_eq (t0 : Value) (w : World) (K : KV) : solo_Run_Next t0 w K = fnWC prog 112 [(2, some 39), (3, none)] (match fn12.body with | some c => c | none => .skip) #[t0] w K := by kernel_rfl
theorem solo_Run_Next_ok : fnOkC prog 112 [(2, some 39), (3, none)] (match fn12.body with | some c => c | none => .skip) = true := by kernel_rfl
theorem solo_Run_Next_calls {t0 : Value} {w : World} {K : KV} (h : solo_Run_Next t0 w K) : Cl prog 12 #[t0] w K :=
  Cl.mk (by kernel_rfl) (calls_of_FC (fn := fn12) (nt := 112) (rs := [(2, some 39), (3, none)]) mixed fnAt12 (by kernel_rfl) (by kernel_rfl) (by kernel_rfl) (Nat.le_of_ble_eq_true (by kernel_rfl)) solo_Run_Next_ok (solo_Run_Next_eq t0 w K) h)

/-- (*paceline/solo.Run).Log -/
def solo_Run_Log (t0 t1 : Value) (w : World) (K : KV) : Prop :=
  bi .lss .i64 t1 (Value.int IntKind.i64 0) w fun t6 w =>
  gd t6 false (fun k => k t1 w) w fun t8 w =>
  gd t6 false (fun k => k t0 w) w fun t9 w =>
  gd t6 false (fun k => nc t9 w k) w fun t10 w =>
  gd t6 false (fun k => fld 3 t10 w k) w fun t11 w =>
  gd t6 false (fun k => ld1 t11 w k) w fun t12 w =>
  gd t6 false (fun k => lnS t12 w k) w fun t13 w =>
  gd t6 false (fun k => bi .geq .i64 t8 t13 w k) w fun t14 w =>
  pk t6 (Value.bool true) t14 w fun t15 w =>
  iff' t15
  (K (Value.slice none 0 0) w)
  (ncP t0 <|
  fld 3 t0 w fun t18 w =>
  ld1 t18 w fun t19 w =>
  ixS 3 t19 t1 w fun t21 w =>
  fld 2 t21 w fun t22 w =>
  ld1 t22 w fun t23 w =>
  Cl prog 33 #[t23] w fun t24 w =>
  K t24 w)
theorem solo_Run_Log_eq (t0 t1 : Value) (w : World) (K : KV) : solo_Run_Log t0 t1 w K = fnW prog 25 [4] (match fn13.body with | some c => c | none => .skip) #[t0, t1] w K := by kernel_rfl
theorem solo_Run_Log_ok : fnOk prog 25 [4] (match fn13.body with | some c => c | none => .skip) = true := by kernel_rfl
theorem solo_Run_Log_calls {t0 t1 : Value} {w : World} {K : KV} (h : solo_Run_Log t0 t1 w K) : Cl prog 13 #[t0, t1] w K :=
  Cl.mk (by kernel_rfl) (calls_of_F (fn := fn13) (nt := 25) (rs := [4]) mixed fnAt13 (by kernel_rfl) (by kernel_rfl) (by kernel_rfl) (Nat.le_of_ble_eq_true (by kernel_rfl)) solo_Run_Log_ok (solo_Run_Log_eq t0 t1 w K) h)

/-- paceline/pacelineref01.Cmp -/
def pacelineref01_Cmp (t0 t1 : Value) (w : World) (K : KV) : Prop :=
  al (Value.cells t0) 35 w fun t2 w =>
  al (Value.cells t1) 35 w fun t3 w =>
  ldN 3 t2 w fun t5 w =>
  ldN 3 t3 w fun t6 w =>
  bO prog .eql 35 (Operand.tmp 5) (Operand.tmp 6) t5 t6 w fun t7 w =>
  iff' t7
  (K (Value.int IntKind.i64 0) w)
  (fld 0 t2 w fun t8 w =>
  ld1 t8 w fun t9 w =>
  fld 0 t3 w fun t10 w =>
  ld1 t10 w fun t11 w =>
  bi .lss .i64 t9 t11 w fun t12 w =>
  gd t12 false (fun k => fld 0 t2 w k) w fun t14 w =>
  gd t12 false (fun k => ld1 t14 w k) w fun t15 w =>
  gd t12 false (fun k => fld 0 t3 w k) w fun t16 w =>
  gd t12 false (fun k => ld1 t16 w k) w fun t17 w =>
  gd t12 false (fun k => bi .eql .i64 t15 t17 w k) w fun t18 w =>
  gd t12 false (fun k => k t18 w) w fun t19 w =>
  gd t19 true (fun k => fld 1 t2 w k) w fun t20 w =>
  gd t19 true (fun k => ld1 t20 w k) w fun t21 w =>
  gd t19 true (fun k => fld 1 t3 w k) w fun t22 w =>
  gd t19 true (fun k => ld1 t22 w k) w fun t23 w =>
  gd t19 true (fun k => bi .lss .i64 t21 t23 w k) w fun t24 w =>
  gd t12 false (fun k => pk t19 t24 (Value.bool false) w k) w fun t25 w =>
  pk t12 (Value.bool true) t25 w fun t26 w =>
  gd t26 false (fun k => fld 0 t2 w k) w fun t28 w =>
  gd t26 false (fun k => ld1 t28 w k) w fun t29 w =>
  gd t26 false (fun k => fld 0 t3 w k) w fun t30 w =>
  gd t26 false (fun k => ld1 t30 w k) w fun t31 w =>
  gd t26 false (fun k => bi .eql .i64 t29 t31 w k) w fun t32 w =>
  gd t26 false (fun k => k t32 w) w fun t33 w =>
  gd t33 true (fun k => fld 1 t2 w k) w fun t34 w =>
  gd t33 true (fun k => ld1 t34 w k) w fun t35 w =>
  gd t33 true (fun k => fld 1 t3 w k) w fun t36 w =>
  gd t33 true (fun k => ld1 t36 w k) w fun t37 w =>
  gd t33 true (fun k => bi .eql .i64 t35 t37 w k) w fun t38 w =>
  gd t26 false (fun k => pk t33 t38 (Value.bool false) w k) w fun t39 w =>
  gd t26 false (fun k => k t39 w) w fun t40 w =>
  gd t40 true (fun k => fld 2 t2 w k) w fun t41 w =>
  gd t40 true (fun k => ld1 t41 w k) w fun t42 w =>
  gd t40 true (fun k => fld 2 t3 w k) w fun t43 w =>
  gd t40 true (fun k => ld1 t43 w k) w fun t44 w =>
  gd t40 true (fun k => bi .lss .i64 t42 t44 w k) w fun t45 w =>
  gd t26 false (fun k => pk t40 t45 (Value.bool false) w k) w fun t46 w =>
  pk t26 (Value.bool true) t46 w fun t47 w =>
  iff' t47
  (K (Value.int IntKind.i64 (-1)) w)
  (K (Value.int IntKind.i64 1) w))
theorem pacelineref01_Cmp_eq (t0 t1 : Value) (w : World) (K : KV) : pacelineref01_Cmp t0 t1 w K = fnW prog 48 [4] (match fn14.body with | some c => c | none => .skip) #[t0, t1] w K := by kernel_rfl
theorem pacelineref01_Cmp_ok : fnOk prog 48 [4] (match fn14.body with | some c => c | none => .skip) = true := by kernel_rfl
theorem pacelineref01_Cmp_calls {t0 t1 : Value} {w : World} {K : KV} (h : pacelineref01_Cmp t0 t1 w K) : Cl prog 14 #[t0, t1] w K :=
  Cl.mk (by kernel_rfl) (calls_of_F (fn := fn14) (nt := 48) (rs := [4]) mixed fnAt14 (by kernel_rfl) (by kernel_rfl) (by kernel_rfl) (Nat.le_of_ble_eq_true (by kernel_rfl)) pacelineref01_Cmp_ok (pacelineref01_Cmp_eq t0 t1 w K) h)

/-- paceline/pacelineref09.New -/
def pacelineref09_New (t0 : Value) (w : World) (K : KV) : Prop :=
  al (Value.cells t0) 25 w fun t1 w =>
  ldN 3 t1 w fun t9 w =>
  Cl prog 11 #[t9] w fun t10 w =>
  xt 0 t10 w fun _ w =>
  xt 1 t10 w fun t12 w =>
  bi .neq .i64 t12 (Value.int IntKind.i64 0) w fun t14 w =>
  iff' t14
  (K (Value.tuple #[(Value.pointer none), t12]) w)
  (ldN 3 t1 w fun t16 w =>
  bld (zeroD prog 84) #[(0, 3), (3, 1), (4, 1), (5, 1), (6, 1)] [(0, t16)] w fun t17 w =>
  al (Value.cells t17) 84 w fun t18 w =>
  lp [(Value.int IntKind.i64 0)] w (b1 fun t7 w g1 =>
  fld 1 t1 w fun t20 w =>
  ld1 t20 w fun t21 w =>
  lnS t21 w fun t22 w =>
  bi .lss .i64 t7 t22 w fun t23 w =>
  iff' t23
  (dr w fun w =>
  ncP t18 <|
  fld 3 t18 w fun t29 _ =>
  ld1 t29 w fun t30 _ =>
  fld 1 t1 w fun t31 _ =>
  ld1 t31 w fun t32 _ =>
  ixS 7 t32 t7 w fun t34 _ =>
  fld 2 t34 w fun t35 _ =>
  ld1 t35 w fun t36 _ =>
  bsl 3 1 1 (zeroD prog 3) [(0, t36)] w fun t37 w =>
  (ld1 t29 w (fun v' w'' => v' = t30 ∧ w'' = w)) ∧ (apS prog #[22, 22] 22 t30 t37 w fun t38 w =>
  ncP t18 <|
  fld 3 t18 w fun t40 _ =>
  stN 1 t40 t38 w fun _ w =>
  dr w fun w =>
  ncP t18 <|
  fld 4 t18 w fun t44 _ =>
  ld1 t44 w fun t45 _ =>
  fld 1 t1 w fun t46 _ =>
  ld1 t46 w fun t47 _ =>
  ixS 7 t47 t7 w fun t49 _ =>
  fld 6 t49 w fun t50 _ =>
  ld1 t50 w fun t51 _ =>
  lnS t51 w fun t52 _ =>
  bsl 3 1 1 (zeroD prog 3) [(0, t52)] w fun t53 w =>
  (ld1 t44 w (fun v' w'' => v' = t45 ∧ w'' = w)) ∧ (apS prog #[22, 22] 22 t45 t53 w fun t54 w =>
  ncP t18 <|
  fld 4 t18 w fun t56 _ =>
  stN 1 t56 t54 w fun _ w =>
  bi .add .i64 t7 (Value.int IntKind.i64 1) w fun t25 w =>
  g1 [t25] w)))
  (ldN 3 t1 w fun t58 w =>
  Cl prog 35 #[t58] w fun t59 w =>
  Cl prog 34 #[(Value.slice none 0 0), t59] w fun t60 w =>
  ncP t18 <|
  fld 5 t18 w fun t62 w =>
  stN 1 t62 t60 w fun _ w =>
  K (Value.tuple #[t18, (Value.int IntKind.i64 0)]) w)))
theorem pacelineref09_New_eq (t0 : Value) (w : World) (K : KV) : pacelineref09_New t0 w K = fnW prog 64 [2, 3] (match fn15.body with | some c => c | none => .skip) #[t0] w K := by kernel_rfl
theorem pacelineref09_New_ok : fnOk prog 64 [2, 3] (match fn15.body with | some c => c | none => .skip) = true := by kernel_rfl
theorem pacelineref09_New_calls {t0 : Value} {w : World} {K : KV} (h : pacelineref09_New t0 w K) : Cl prog 15 #[t0] w K :=
  Cl.mk (by kernel_rfl) (calls_of_F (fn := fn15) (nt := 64) (rs := [2, 3]) mixed fnAt15 (by kernel_rfl) (by kernel_rfl) (by kernel_rfl) (Nat.le_of_ble_eq_true (by kernel_rfl)) pacelineref09_New_ok (pacelineref09_New_eq t0 w K) h)

/-- (*paceline/solo.Run).Steps -/
def solo_Run_Steps (t0 t1 : Value) (w : World) (K : KV) : Prop :=
  J1 (fun t5 w =>
  K t5 w) fun k1 =>
  lp [(Value.int IntKind.i64 0)] w (b1 fun t5_1 w g2 =>
  bi .lss .i64 t5_1 t1 w fun t10 w =>
  iff' t10
  (Cl prog 12 #[t0] w fun t15 w =>
  xt 0 t15 w fun t16 w =>
  xt 1 t15 w fun t17 w =>
  al (zeroD prog 39) 39 w fun t6 w =>
  stN 7 t6 t16 w fun _ w =>
  bnot t17 w fun t19 w =>
  iff' t19
  (k1 t5_1 w)
  (bi .add .i64 t5_1 (Value.int IntKind.i64 1) w fun t12 w =>
  g2 [t12] w))
  (k1 t5_1 w))
theorem solo_Run_Steps_eq (t0 t1 : Value) (w : World) (K : KV) : solo_Run_Steps t0 t1 w K = fnW prog 21 [4] (match fn16.body with | some c => c | none => .skip) #[t0, t1] w K := by kernel_rfl
theorem solo_Run_Steps_ok : fnOk prog 21 [4] (match fn16.body with | some c => c | none => .skip) = true := by kernel_rfl
theorem solo_Run_Steps_calls {t0 t1 : Value} {w : World} {K : KV} (h : solo_Run_Steps t0 t1 w K) : Cl prog 16 #[t0, t1] w K :=
  Cl.mk (by kernel_rfl) (calls_of_F (fn := fn16) (nt := 21) (rs := [4]) mixed fnAt16 (by kernel_rfl) (by kernel_rfl) (by kernel_rfl) (Nat.le_of_ble_eq_true (by kernel_rfl)) solo_Run_Steps_ok (solo_Run_Steps_eq t0 t1 w K) h)

/-- (*paceline/pacelineref09.Run).Steps -/
def pacelineref09_Run_Steps (t0 t1 : Value) (w : World) (K : KV) : Prop :=
  lp [(Value.int IntKind.i64 0)] w (b1 fun t5 w g1 =>
  bi .lss .i64 t5 t1 w fun t10 w =>
  iff' t10
  (Cl prog 36 #[t0] w fun t13 w =>
  xt 0 t13 w fun t14 w =>
  xt 1 t13 w fun t15 w =>
  al (zeroD prog 39) 39 w fun t6 w =>
  stN 7 t6 t14 w fun _ w =>
  bnot t15 w fun t17 w =>
  iff' t17
  (K t5 w)
  (bi .add .i64 t5 (Value.int IntKind.i64 1) w fun t20 w =>
  g1 [t20] w))
  (K t5 w))
theorem pacelineref09_Run_Steps_eq (t0 t1 : Value) (w : World) (K : KV) : pacelineref09_Run_Steps t0 t1 w K = fnW prog 22 [4] (match fn17.body with | some c => c | none => .skip) #[t0, t1] w K := by kernel_rfl
theorem pacelineref09_Run_Steps_ok : fnOk prog 22 [4] (match fn17.body with | some c => c | none => .skip) = true := by kernel_rfl
theorem pacelineref09_Run_Steps_calls {t0 t1 : Value} {w : World} {K : KV} (h : pacelineref09_Run_Steps t0 t1 w K) : Cl prog 17 #[t0, t1] w K :=
  Cl.mk (by kernel_rfl) (calls_of_F (fn := fn17) (nt := 22) (rs := [4]) mixed fnAt17 (by kernel_rfl) (by kernel_rfl) (by kernel_rfl) (Nat.le_of_ble_eq_true (by kernel_rfl)) pacelineref09_Run_Steps_ok (pacelineref09_Run_Steps_eq t0 t1 w K) h)

/-- (*paceline/solo.Run).State -/
def solo_Run_State (t0 t1 : Value) (w : World) (K : KV) : Prop :=
  bi .lss .i64 t1 (Value.int IntKind.i64 0) w fun t6 w =>
  gd t6 false (fun k => k t1 w) w fun t8 w =>
  gd t6 false (fun k => k t0 w) w fun t9 w =>
  gd t6 false (fun k => nc t9 w k) w fun t10 w =>
  gd t6 false (fun k => fld 3 t10 w k) w fun t11 w =>
  gd t6 false (fun k => ld1 t11 w k) w fun t12 w =>
  gd t6 false (fun k => lnS t12 w k) w fun t13 w =>
  gd t6 false (fun k => bi .geq .i64 t8 t13 w k) w fun t14 w =>
  pk t6 (Value.bool true) t14 w fun t15 w =>
  iff' t15
  (K (Value.int IntKind.i64 (-1)) w)
  (ncP t0 <|
  fld 3 t0 w fun t18 w =>
  ld1 t18 w fun t19 w =>
  ixS 3 t19 t1 w fun t21 w =>
  fld 0 t21 w fun t22 w =>
  ld1 t22 w fun t23 w =>
  K t23 w)
theorem solo_Run_State_eq (t0 t1 : Value) (w : World) (K : KV) : solo_Run_State t0 t1 w K = fnW prog 24 [4] (match fn18.body with | some c => c | none => .skip) #[t0, t1] w K := by kernel_rfl
theorem solo_Run_State_ok : fnOk prog 24 [4] (match fn18.body with | some c => c | none => .skip) = true := by kernel_rfl
theorem solo_Run_State_calls {t0 t1 : Value} {w : World} {K : KV} (h : solo_Run_State t0 t1 w K) : Cl prog 18 #[t0, t1] w K :=
  Cl.mk (by kernel_rfl) (calls_of_F (fn := fn18) (nt := 24) (rs := [4]) mixed fnAt18 (by kernel_rfl) (by kernel_rfl) (by kernel_rfl) (Nat.le_of_ble_eq_true (by kernel_rfl)) solo_Run_State_ok (solo_Run_State_eq t0 t1 w K) h)

/-- (*paceline/pacelineref09.Run).State -/
def pacelineref09_Run_State (t0 t1 : Value) (w : World) (K : KV) : Prop :=
  bi .lss .i64 t1 (Value.int IntKind.i64 0) w fun t6 w =>
  gd t6 false (fun k => k t1 w) w fun t8 w =>
  gd t6 false (fun k => k t0 w) w fun t9 w =>
  gd t6 false (fun k => nc t9 w k) w fun t10 w =>
  gd t6 false (fun k => fld 3 t10 w k) w fun t11 w =>
  gd t6 false (fun k => ld1 t11 w k) w fun t12 w =>
  gd t6 false (fun k => lnS t12 w k) w fun t13 w =>
  gd t6 false (fun k => bi .geq .i64 t8 t13 w k) w fun t14 w =>
  pk t6 (Value.bool true) t14 w fun t15 w =>
  iff' t15
  (K (Value.int IntKind.i64 (-1)) w)
  (ncP t0 <|
  fld 3 t0 w fun t18 w =>
  ld1 t18 w fun t19 w =>
  ixS 1 t19 t1 w fun t21 w =>
  ld1 t21 w fun t22 w =>
  K t22 w)
theorem pacelineref09_Run_State_eq (t0 t1 : Value) (w : World) (K : KV) : pacelineref09_Run_State t0 t1 w K = fnW prog 23 [4] (match fn19.body with | some c => c | none => .skip) #[t0, t1] w K := by kernel_rfl
theorem pacelineref09_Run_State_ok : fnOk prog 23 [4] (match fn19.body with | some c => c | none => .skip) = true := by kernel_rfl
theorem pacelineref09_Run_State_calls {t0 t1 : Value} {w : World} {K : KV} (h : pacelineref09_Run_State t0 t1 w K) : Cl prog 19 #[t0, t1] w K :=
  Cl.mk (by kernel_rfl) (calls_of_F (fn := fn19) (nt := 23) (rs := [4]) mixed fnAt19 (by kernel_rfl) (by kernel_rfl) (by kernel_rfl) (Nat.le_of_ble_eq_true (by kernel_rfl)) pacelineref09_Run_State_ok (pacelineref09_Run_State_eq t0 t1 w K) h)

/-- paceline/pacelinelaw09.same -/
def pacelinelaw09_same (t0 t1 : Value) (w : World) (K : KV) : Prop :=
  lnS t0 w fun t7 w =>
  lnS t1 w fun t9 w =>
  bi .neq .i64 t7 t9 w fun t10 w =>
  iff' t10
  (K (Value.bool false) w)
  (lp [(Value.int IntKind.i64 0)] w (b1 fun t5 w g1 =>
  lnS t0 w fun t13 w =>
  bi .lss .i64 t5 t13 w fun t14 w =>
  iff' t14
  (dr w fun w =>
  ixS 6 t0 t5 w fun t19 _ =>
  ldN 6 t19 w fun t20 _ =>
  ixS 6 t1 t5 w fun t23 _ =>
  ldN 6 t23 w fun t24 _ =>
  bO prog .neq 37 (Operand.tmp 20) (Operand.tmp 24) t20 t24 w fun t25 w =>
  iff' t25
  (K (Value.bool false) w)
  (bi .add .i64 t5 (Value.int IntKind.i64 1) w fun t16 w =>
  g1 [t16] w))
  (K (Value.bool true) w)))
theorem pacelinelaw09_same_eq (t0 t1 : Value) (w : World) (K : KV) : pacelinelaw09_same t0 t1 w K = fnW prog 26 [4] (match fn20.body with | some c => c | none => .skip) #[t0, t1] w K := by kernel_rfl
theorem pacelinelaw09_same_ok : fnOk prog 26 [4] (match fn20.body with | some c => c | none => .skip) = true := by kernel_rfl
theorem pacelinelaw09_same_calls {t0 t1 : Value} {w : World} {K : KV} (h : pacelinelaw09_same t0 t1 w K) : Cl prog 20 #[t0, t1] w K :=
  Cl.mk (by kernel_rfl) (calls_of_F (fn := fn20) (nt := 26) (rs := [4]) mixed fnAt20 (by kernel_rfl) (by kernel_rfl) (by kernel_rfl) (Nat.le_of_ble_eq_true (by kernel_rfl)) pacelinelaw09_same_ok (pacelinelaw09_same_eq t0 t1 w K) h)

/-- (*paceline/solo.Run).Waiting -/
def solo_Run_Waiting (t0 : Value) (w : World) (K : KV) : Prop :=
  ncP t0 <|
  fld 4 t0 w fun t6 w =>
  ld1 t6 w fun t7 w =>
  Cl prog 37 #[t7] w fun t8 w =>
  Cl prog 38 #[t8, (Value.func (.func 39) #[] #[])] w fun _ w =>
  K t8 w
theorem solo_Run_Waiting_eq (t0 : Value) (w : World) (K : KV) : solo_Run_Waiting t0 w K = fnW prog 12 [2] (match fn21.body with | some c => c | none => .skip) #[t0] w K := by kernel_rfl
theorem solo_Run_Waiting_ok : fnOk prog 12 [2] (match fn21.body with | some c => c | none => .skip) = true := by kernel_rfl
theorem solo_Run_Waiting_calls {t0 : Value} {w : World} {K : KV} (h : solo_Run_Waiting t0 w K) : Cl prog 21 #[t0] w K :=
  Cl.mk (by kernel_rfl) (calls_of_F (fn := fn21) (nt := 12) (rs := [2]) mixed fnAt21 (by kernel_rfl) (by kernel_rfl) (by kernel_rfl) (Nat.le_of_ble_eq_true (by kernel_rfl)) solo_Run_Waiting_ok (solo_Run_Waiting_eq t0 w K) h)

/-- paceline/pacelineref09.Same -/
def pacelineref09_Same (t0 t1 : Value) (w : World) (K : KV) : Prop :=
  lnS t0 w fun t7 w =>
  lnS t1 w fun t9 w =>
  bi .neq .i64 t7 t9 w fun t10 w =>
  iff' t10
  (K (Value.bool false) w)
  (lp [(Value.int IntKind.i64 0)] w (b1 fun t5 w g1 =>
  lnS t0 w fun t13 w =>
  bi .lss .i64 t5 t13 w fun t14 w =>
  iff' t14
  (dr w fun w =>
  ixS 7 t0 t5 w fun t19 _ =>
  ldN 7 t19 w fun t20 _ =>
  ixS 7 t1 t5 w fun t23 _ =>
  ldN 7 t23 w fun t24 _ =>
  bO prog .neq 39 (Operand.tmp 20) (Operand.tmp 24) t20 t24 w fun t25 w =>
  iff' t25
  (K (Value.bool false) w)
  (bi .add .i64 t5 (Value.int IntKind.i64 1) w fun t16 w =>
  g1 [t16] w))
  (K (Value.bool true) w)))
theorem pacelineref09_Same_eq (t0 t1 : Value) (w : World) (K : KV) : pacelineref09_Same t0 t1 w K = fnW prog 26 [4] (match fn22.body with | some c => c | none => .skip) #[t0, t1] w K := by kernel_rfl
theorem pacelineref09_Same_ok : fnOk prog 26 [4] (match fn22.body with | some c => c | none => .skip) = true := by kernel_rfl
theorem pacelineref09_Same_calls {t0 t1 : Value} {w : World} {K : KV} (h : pacelineref09_Same t0 t1 w K) : Cl prog 22 #[t0, t1] w K :=
  Cl.mk (by kernel_rfl) (calls_of_F (fn := fn22) (nt := 26) (rs := [4]) mixed fnAt22 (by kernel_rfl) (by kernel_rfl) (by kernel_rfl) (Nat.le_of_ble_eq_true (by kernel_rfl)) pacelineref09_Same_ok (pacelineref09_Same_eq t0 t1 w K) h)

/-- paceline/config.Check -/
def config_Check (t0 : Value) (w : World) (K : KV) : Prop :=
  al (Value.cells t0) 25 w fun t1 w =>
  fld 2 t1 w fun t9 w =>
  ld1 t9 w fun t10 w =>
  Cl prog 44 #[t10, (Value.int IntKind.i64 0), (Value.int IntKind.i64 1099511627776)] w fun t11 w =>
  gd t11 true (fun k => fld 1 t1 w k) w fun t13 w =>
  gd t11 true (fun k => ld1 t13 w k) w fun t14 w =>
  gd t11 true (fun k => lnS t14 w k) w fun t15 w =>
  gd t11 true (fun k => Cl prog 44 #[t15, (Value.int IntKind.i64 1), (Value.int IntKind.i64 8)] w k) w fun t16 w =>
  pk t11 t16 (Value.bool false) w fun t17 w =>
  Cl prog 43 #[t17, (Value.int IntKind.i64 1)] w fun t18 w =>
  bsl 90 1 2 (zeroD prog 90) [(0, (Value.func (Fn.func 41) #[] #[t1])), (1, t18)] w fun t19 w =>
  Cl prog 40 #[t19] w fun t20 w =>
  bi .neq .i64 t20 (Value.int IntKind.i64 0) w fun t22 w =>
  iff' t22
  (K (Value.tuple #[(Value.int IntKind.i64 (-1)), t20]) w)
  (fld 1 t1 w fun t24 w =>
  ld1 t24 w fun t25 w =>
  lnS t25 w fun t26 w =>
  lp [(Value.int IntKind.i64 0)] w (b1 fun t27 w g1 =>
  bi .lss .i64 t27 t26 w fun t28 w =>
  iff' t28
  (ixS 7 t25 t27 w fun t30 w =>
  ldN 7 t30 w fun t31 w =>
  al (zeroD prog 53) 53 w fun t6 w =>
  stN 7 t6 t31 w fun _ w =>
  ldN 7 t6 w fun t32 w =>
  fld 0 t1 w fun t33 w =>
  ld1 t33 w fun t34 w =>
  lnS t34 w fun t35 w =>
  Cl prog 45 #[t32, t35] w fun t36 w =>
  bi .neq .i64 t36 (Value.int IntKind.i64 0) w fun t38 w =>
  iff' t38
  (K (Value.tuple #[t27, t36]) w)
  (bi .add .i64 t27 (Value.int IntKind.i64 1) w fun t41 w =>
  g1 [t41] w))
  (K (Value.tuple #[(Value.int IntKind.i64 (-1)), (Value.int IntKind.i64 0)]) w)))
theorem config_Check_eq (t0 : Value) (w : World) (K : KV) : config_Check t0 w K = fnW prog 42 [2, 3] (match fn23.body with | some c => c | none => .skip) #[t0] w K := by kernel_rfl
theorem config_Check_ok : fnOk prog 42 [2, 3] (match fn23.body with | some c => c | none => .skip) = true := by kernel_rfl
theorem config_Check_calls {t0 : Value} {w : World} {K : KV} (h : config_Check t0 w K) : Cl prog 23 #[t0] w K :=
  Cl.mk (by kernel_rfl) (calls_of_F (fn := fn23) (nt := 42) (rs := [2, 3]) mixed fnAt23 (by kernel_rfl) (by kernel_rfl) (by kernel_rfl) (Nat.le_of_ble_eq_true (by kernel_rfl)) config_Check_ok (config_Check_eq t0 w K) h)

/-- paceline/solo.copied -/
def solo_copied (t0 : Value) (w : World) (K : KV) : Prop :=
  al (Value.cells t0) 25 w fun t1 w =>
  al (zeroD prog 25) 25 w fun t2 w =>
  fld 0 t1 w fun t6 w =>
  ld1 t6 w fun t7 w =>
  Cl prog 46 #[t7] w fun t8 w =>
  fld 0 t1 w fun t9 w =>
  stN 1 t9 t8 w fun _ w =>
  fld 1 t1 w fun t10 w =>
  ld1 t10 w fun t11 w =>
  Cl prog 47 #[t11] w fun t12 w =>
  fld 1 t1 w fun t13 w =>
  stN 1 t13 t12 w fun _ w =>
  fld 1 t1 w fun t14 w =>
  ld1 t14 w fun t15 w =>
  lnS t15 w fun t16 w =>
  lp [(Value.int IntKind.i64 0)] w (b1 fun t17 w g1 =>
  bi .lss .i64 t17 t16 w fun t18 w =>
  iff' t18
  (fld 1 t1 w fun t20 w =>
  ld1 t20 w fun t21 w =>
  ixS 7 t21 t17 w fun t23 w =>
  dr w fun w =>
  ncP t23 <|
  fld 4 t23 w fun t30 _ =>
  ld1 t30 w fun t31 _ =>
  ncP t23 <|
  fld 5 t23 w fun t35 _ =>
  ld1 t35 w fun t36 _ =>
  ncP t23 <|
  fld 6 t23 w fun t40 _ =>
  ld1 t40 w fun t41 _ =>
  ncP t23 <|
  fld 3 t23 w fun t45 _ =>
  ld1 t45 w fun t46 _ =>
  Cl prog 46 #[t31] w fun t32 w =>
  (ld1 t45 w (fun v' w'' => v' = t46 ∧ w'' = w)) ∧ ((ld1 t40 w (fun v' w'' => v' = t41 ∧ w'' = w)) ∧ ((ld1 t35 w (fun v' w'' => v' = t36 ∧ w'' = w)) ∧ (Cl prog 46 #[t36] w fun t37 w =>
  (ld1 t45 w (fun v' w'' => v' = t46 ∧ w'' = w)) ∧ ((ld1 t40 w (fun v' w'' => v' = t41 ∧ w'' = w)) ∧ (Cl prog 48 #[t41] w fun t42 w =>
  (ld1 t45 w (fun v' w'' => v' = t46 ∧ w'' = w)) ∧ (Cl prog 49 #[t46] w fun t47 w =>
  ncP t23 <|
  fld 4 t23 w fun t49 _ =>
  stN 1 t49 t32 w fun _ w =>
  ncP t23 <|
  fld 5 t23 w fun t51 _ =>
  stN 1 t51 t37 w fun _ w =>
  ncP t23 <|
  fld 6 t23 w fun t53 _ =>
  stN 1 t53 t42 w fun _ w =>
  ncP t23 <|
  fld 3 t23 w fun t55 _ =>
  stN 1 t55 t47 w fun _ w =>
  ncP t23 <|
  fld 3 t23 w fun t58 w =>
  ld1 t58 w fun t59 w =>
  lnS t59 w fun t60 w =>
  lp [(Value.int IntKind.i64 0)] w (b1 fun t61 w g2 =>
  bi .lss .i64 t61 t60 w fun t62 w =>
  iff' t62
  (dr w fun w =>
  ncP t23 <|
  fld 3 t23 w fun t66 _ =>
  ld1 t66 w fun t67 _ =>
  ncP t23 <|
  fld 3 t23 w fun t71 _ =>
  ld1 t71 w fun t72 _ =>
  ixS 4 t72 t61 w fun t74 _ =>
  fld 3 t74 w fun t75 _ =>
  ld1 t75 w fun t76 _ =>
  Cl prog 48 #[t76] w fun t77 w =>
  (ld1 t66 w (fun v' w'' => v' = t67 ∧ w'' = w)) ∧ (ixS 4 t67 t61 w fun t78 _ =>
  fld 3 t78 w fun t79 _ =>
  stN 1 t79 t77 w fun _ w =>
  bi .add .i64 t61 (Value.int IntKind.i64 1) w fun t80 w =>
  g2 [t80] w))
  (bi .add .i64 t17 (Value.int IntKind.i64 1) w fun t81 w =>
  g1 [t81] w)))))))))
  (ldN 3 t1 w fun t82 w =>
  stN 3 t2 t82 w fun _ w =>
  ldN 3 t2 w fun r0 _ =>
  K r0 w))
theorem solo_copied_eq (t0 : Value) (w : World) (K : KV) : solo_copied t0 w K = fnWC prog 83 [(2, some 25)] (match fn24.body with | some c => c | none => .skip) #[t0] w K := by kernel_rfl
theorem solo_copied_ok : fnOkC prog 83 [(2, some 25)] (match fn24.body with | some c => c | none => .skip) = true := by kernel_rfl
theorem solo_copied_calls {t0 : Value} {w : World} {K : KV} (h : solo_copied t0 w K) : Cl prog 24 #[t0] w K :=
  Cl.mk (by kernel_rfl) (calls_of_FC (fn := fn24) (nt := 83) (rs := [(2, some 25)]) mixed fnAt24 (by kernel_rfl) (by kernel_rfl) (by kernel_rfl) (Nat.le_of_ble_eq_true (by kernel_rfl)) solo_copied_ok (solo_copied_eq t0 w K) h)

/-- paceline/solo.each -/
def solo_each (t0 t1 : Value) (w : World) (K : KV) : Prop :=
  lnS t0 w fun t7 w =>
  lp [(Value.int IntKind.i64 0)] w (b1 fun t8 w g1 =>
  bi .lss .i64 t8 t7 w fun t9 w =>
  iff' t9
  (ixS 6 t0 t8 w fun t10 w =>
  ldN 6 t10 w fun t11 w =>
  al (zeroD prog 37) 37 w fun t5 w =>
  stN 6 t5 t11 w fun _ w =>
  ldN 6 t5 w fun t13 w =>
  clV prog t1 #[t13] w fun _ w =>
  bi .add .i64 t8 (Value.int IntKind.i64 1) w fun t15 w =>
  g1 [t15] w)
  (K (Value.tuple #[]) w))
theorem solo_each_eq (t0 t1 : Value) (w : World) (K : KV) : solo_each t0 t1 w K = fnW prog 16 [] (match fn25.body with | some c => c | none => .skip) #[t0, t1] w K := by kernel_rfl
theorem solo_each_ok : fnOk prog 16 [] (match fn25.body with | some c => c | none => .skip) = true := by kernel_rfl
theorem solo_each_calls {t0 t1 : Value} {w : World} {K : KV} (h : solo_each t0 t1 w K) : Cl prog 25 #[t0, t1] w K :=
  Cl.mk (by kernel_rfl) (calls_of_F (fn := fn25) (nt := 16) (rs := []) mixed fnAt25 (by kernel_rfl) (by kernel_rfl) (by kernel_rfl) (Nat.le_of_ble_eq_true (by kernel_rfl)) solo_each_ok (solo_each_eq t0 t1 w K) h)

/-- paceline/config.Starts -/
def config_Starts (t0 : Value) (w : World) (K : KV) : Prop :=
  al (Value.cells t0) 25 w fun t1 w =>
  fld 1 t1 w fun t6 w =>
  ld1 t6 w fun t7 w =>
  lnS t7 w fun t8 w =>
  lp [(Value.slice none 0 0), (Value.int IntKind.i64 0)] w (b2 fun t3 t9 w g1 =>
  bi .lss .i64 t9 t8 w fun t10 w =>
  iff' t10
  (ixS 7 t7 t9 w fun t12 w =>
  ldN 7 t12 w fun t13 w =>
  al (zeroD prog 53) 53 w fun t5 w =>
  stN 7 t5 t13 w fun _ w =>
  ldN 3 t1 w fun t15 w =>
  fld 6 t5 w fun t17 w =>
  ld1 t17 w fun t18 w =>
  Cl prog 32 #[t15, t9, (Value.int IntKind.i64 0), (Value.int IntKind.i64 0), (Value.int IntKind.i64 0), t18] w fun t19 w =>
  apS prog #[58, 58] 58 t3 t19 w fun t20 w =>
  bi .add .i64 t9 (Value.int IntKind.i64 1) w fun t21 w =>
  g1 [t20, t21] w)
  (K t3 w))
theorem config_Starts_eq (t0 : Value) (w : World) (K : KV) : config_Starts t0 w K = fnW prog 23 [2] (match fn26.body with | some c => c | none => .skip) #[t0] w K := by kernel_rfl
theorem config_Starts_ok : fnOk prog 23 [2] (match fn26.body with | some c => c | none => .skip) = true := by kernel_rfl
theorem config_Starts_calls {t0 : Value} {w : World} {K : KV} (h : config_Starts t0 w K) : Cl prog 26 #[t0] w K :=
  Cl.mk (by kernel_rfl) (calls_of_F (fn := fn26) (nt := 23) (rs := [2]) mixed fnAt26 (by kernel_rfl) (by kernel_rfl) (by kernel_rfl) (Nat.le_of_ble_eq_true (by kernel_rfl)) config_Starts_ok (config_Starts_eq t0 w K) h)

end Go.Proofs.Ytfcnjbannejchaa
