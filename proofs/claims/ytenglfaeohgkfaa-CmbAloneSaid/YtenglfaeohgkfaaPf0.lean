/- Printed by prt.py: the Go functions of this seat as shallow predicate transformers. Conditions: none. -/
import Derived.Test.YtenglfaeohgkfaaEngO
import Derived.Test.YtenglfaeohgkfaaEngZ
import Derived.Test.YtenglfaeohgkfaaPfHead
import Derived.KernelRfl
namespace Go.Proofs.Ytenglfaeohgkfaa
open Go Go.E
set_option linter.unusedVariables false
set_option maxRecDepth 100000
/-- paceline/pacelinelaw12.CmbOrder -/
def pacelinelaw12_CmbOrder (t0 : Value) (w : World) (K : KV) : Prop :=
  lnS t0 w fun t15 w =>
  bi .gtr .i64 t15 (Value.int IntKind.i64 100) w fun t16 w =>
  gd t16 false (fun k => Cl prog 7 #[] w k) w fun t18 w =>
  gd t16 false (fun k => bnot t18 w k) w fun t19 w =>
  pk t16 (Value.bool true) t19 w fun t20 w =>
  iff' t20
  (Cl prog 7 #[] w fun t21 w =>
  K t21 w)
  (Cl prog 9 #[] w fun t23 w =>
  Cl prog 8 #[t23, (Value.int IntKind.i64 0)] w fun t24 w =>
  xt 0 t24 w fun t25 w =>
  xt 1 t24 w fun t26 w =>
  bi .neq .i64 t26 (Value.int IntKind.i64 0) w fun t28 w =>
  gd t28 false (fun k => k t25 w) w fun t30 w =>
  gd t28 false (fun k => bn .eql t30 w k) w fun t31 w =>
  pk t28 (Value.bool true) t31 w fun t32 w =>
  iff' t32
  (K (Value.bool false) w)
  (lp [(Value.int IntKind.i64 0)] w (b1 fun t5 w g1 =>
  lnS t0 w fun t35 w =>
  bi .lss .i64 t5 t35 w fun t36 w =>
  iff' t36
  (J0 (fun w =>
  bi .add .i64 t5 (Value.int IntKind.i64 1) w fun t38 w =>
  g1 [t38] w) fun k2 =>
  ixS 10 t0 t5 w fun t41 w =>
  ldN 10 t41 w fun t42 w =>
  al (zeroD prog 40) 40 w fun t6 w =>
  stN 10 t6 t42 w fun _ w =>
  ncP t25 <|
  fld 0 t25 w fun t45 w =>
  ld1 t45 w fun t46 w =>
  Cl prog 10 #[t46] w fun t47 w =>
  fld 0 t6 w fun t48 w =>
  ld1 t48 w fun t49 w =>
  bi .eql .i64 t49 (Value.int IntKind.i64 0) w fun t51 w =>
  iff' t51
  (fld 1 t6 w fun t53 w =>
  ld1 t53 w fun t54 w =>
  fld 2 t6 w fun t55 w =>
  ldN 8 t55 w fun t56 w =>
  Cl prog 11 #[t25, t54, t56] w fun t57 w =>
  bi .eql .i64 t57 (Value.int IntKind.i64 0) w fun t59 w =>
  gd t59 true (fun k => fld 2 t6 w k) w fun t61 w =>
  gd t59 true (fun k => fld 0 t61 w k) w fun t62 w =>
  gd t59 true (fun k => ld1 t62 w k) w fun t63 w =>
  gd t59 true (fun k => bi .eql .i64 t63 (Value.int IntKind.i64 0) w k) w fun t64 w =>
  pk t59 t64 (Value.bool false) w fun t65 w =>
  gd t65 true (fun k => fld 2 t6 w k) w fun t67 w =>
  gd t65 true (fun k => fld 1 t67 w k) w fun t68 w =>
  gd t65 true (fun k => fld 0 t68 w k) w fun t69 w =>
  gd t65 true (fun k => fld 0 t69 w k) w fun t70 w =>
  gd t65 true (fun k => ld1 t70 w k) w fun t71 w =>
  gd t65 true (fun k => k t47 w) w fun t72 w =>
  gd t65 true (fun k => bi .lss .i64 t71 t72 w k) w fun t73 w =>
  pk t65 t73 (Value.bool false) w fun t74 w =>
  iff' t74
  (K (Value.bool false) w)
  (k2 w))
  (bi .eql .i64 t49 (Value.int IntKind.i64 1) w fun t76 w =>
  iff' t76
  (Cl prog 12 #[t25] w fun t79 w =>
  xt 0 t79 w fun t80 w =>
  xt 1 t79 w fun _ w =>
  xt 2 t79 w fun t82 w =>
  al (zeroD prog 51) 51 w fun t9 w =>
  stN 7 t9 t80 w fun _ w =>
  bi .eql .i64 t82 (Value.int IntKind.i64 0) w fun t84 w =>
  gd t84 true (fun k => fld 0 t9 w k) w fun t86 w =>
  gd t84 true (fun k => fld 0 t86 w k) w fun t87 w =>
  gd t84 true (fun k => fld 0 t87 w k) w fun t88 w =>
  gd t84 true (fun k => ld1 t88 w k) w fun t89 w =>
  gd t84 true (fun k => k t47 w) w fun t90 w =>
  gd t84 true (fun k => bi .geq .i64 t89 t90 w k) w fun t91 w =>
  gd t84 true (fun k => k t91 w) w fun t92 w =>
  gd t92 false (fun k => fld 0 t9 w k) w fun t93 w =>
  gd t92 false (fun k => fld 0 t93 w k) w fun t94 w =>
  gd t92 false (fun k => fld 0 t94 w k) w fun t95 w =>
  gd t92 false (fun k => ld1 t95 w k) w fun t96 w =>
  gd t92 false (fun k => bi .geq .i64 t96 (Value.int IntKind.i64 100) w k) w fun t97 w =>
  gd t84 true (fun k => pk t92 (Value.bool true) t97 w k) w fun t98 w =>
  pk t84 t98 (Value.bool false) w fun t99 w =>
  iff' t99
  (K (Value.bool false) w)
  (k2 w))
  (k2 w)))
  (Cl prog 13 #[t25] w fun t101 w =>
  lp [(Value.int IntKind.i64 1)] w (b1 fun t13 w g3 =>
  lnS t101 w fun t104 w =>
  bi .lss .i64 t13 t104 w fun t105 w =>
  iff' t105
  (dr w fun w =>
  bi .sub .i64 t13 (Value.int IntKind.i64 1) w fun t110 _ =>
  ixS 7 t101 t110 w fun t111 _ =>
  fld 0 t111 w fun t112 _ =>
  fld 0 t112 w fun t113 _ =>
  ldN 3 t113 w fun t114 _ =>
  ixS 7 t101 t13 w fun t117 _ =>
  fld 0 t117 w fun t118 _ =>
  fld 0 t118 w fun t119 _ =>
  ldN 3 t119 w fun t120 _ =>
  Cl prog 14 #[t114, t120] w fun t121 w =>
  bi .geq .i64 t121 (Value.int IntKind.i64 0) w fun t122 _ =>
  iff' t122
  (K (Value.bool false) w)
  (bi .add .i64 t13 (Value.int IntKind.i64 1) w fun t107 w =>
  g3 [t107] w))
  (K (Value.bool true) w))))))
theorem pacelinelaw12_CmbOrder_eq (t0 : Value) (w : World) (K : KV) : pacelinelaw12_CmbOrder t0 w K = fnW prog 123 [2] (match fn3.body with | some c => c | none => .skip) #[t0] w K := by kernel_rfl
theorem pacelinelaw12_CmbOrder_ok : fnOk prog 123 [2] (match fn3.body with | some c => c | none => .skip) = true := by kernel_rfl
theorem pacelinelaw12_CmbOrder_calls {t0 : Value} {w : World} {K : KV} (h : pacelinelaw12_CmbOrder t0 w K) : Cl prog 3 #[t0] w K :=
  Cl.mk (by kernel_rfl) (calls_of_F (fn := fn3) (nt := 123) (rs := [2]) mixed fnAt3 (by kernel_rfl) (by kernel_rfl) (by kernel_rfl) (Nat.le_of_ble_eq_true (by kernel_rfl)) pacelinelaw12_CmbOrder_ok (pacelinelaw12_CmbOrder_eq t0 w K) h)

/-- paceline/pacelinelaw12.CmbPromise -/
def pacelinelaw12_CmbPromise (t0 : Value) (w : World) (K : KV) : Prop :=
  lnS t0 w fun t15 w =>
  bi .gtr .i64 t15 (Value.int IntKind.i64 100) w fun t16 w =>
  gd t16 false (fun k => Cl prog 7 #[] w k) w fun t18 w =>
  gd t16 false (fun k => bnot t18 w k) w fun t19 w =>
  pk t16 (Value.bool true) t19 w fun t20 w =>
  iff' t20
  (Cl prog 7 #[] w fun t21 w =>
  K t21 w)
  (Cl prog 9 #[] w fun t23 w =>
  Cl prog 8 #[t23, (Value.int IntKind.i64 0)] w fun t24 w =>
  xt 0 t24 w fun t25 w =>
  xt 1 t24 w fun t26 w =>
  bi .neq .i64 t26 (Value.int IntKind.i64 0) w fun t28 w =>
  gd t28 false (fun k => k t25 w) w fun t30 w =>
  gd t28 false (fun k => bn .eql t30 w k) w fun t31 w =>
  pk t28 (Value.bool true) t31 w fun t32 w =>
  iff' t32
  (K (Value.bool false) w)
  (lp [(Value.int IntKind.i64 0), (Value.int IntKind.i64 0)] w (b2 fun t5 t6 w g1 =>
  lnS t0 w fun t35 w =>
  bi .lss .i64 t6 t35 w fun t36 w =>
  iff' t36
  (J1 (fun t5_1 w =>
  bi .add .i64 t6 (Value.int IntKind.i64 1) w fun t38 w =>
  g1 [t5_1, t38] w) fun k2 =>
  ixS 10 t0 t6 w fun t41 w =>
  ldN 10 t41 w fun t42 w =>
  al (zeroD prog 40) 40 w fun t7 w =>
  stN 10 t7 t42 w fun _ w =>
  fld 0 t7 w fun t43 w =>
  ld1 t43 w fun t44 w =>
  bi .eql .i64 t44 (Value.int IntKind.i64 0) w fun t46 w =>
  iff' t46
  (fld 1 t7 w fun t48 w =>
  ld1 t48 w fun t49 w =>
  fld 2 t7 w fun t50 w =>
  ldN 8 t50 w fun t51 w =>
  Cl prog 11 #[t25, t49, t51] w fun _ w =>
  k2 t5 w)
  (bi .eql .i64 t44 (Value.int IntKind.i64 1) w fun t54 w =>
  iff' t54
  (Cl prog 12 #[t25] w fun t57 w =>
  xt 0 t57 w fun t58 w =>
  xt 1 t57 w fun t59 w =>
  xt 2 t57 w fun _ w =>
  al (zeroD prog 51) 51 w fun t8 w =>
  stN 7 t8 t58 w fun _ w =>
  lp [(Value.int IntKind.i64 0)] w (b1 fun t11 w g3 =>
  lnS t59 w fun t63 w =>
  bi .lss .i64 t11 t63 w fun t64 w =>
  iff' t64
  (ixS 6 t59 t11 w fun t69 w =>
  fld 0 t69 w fun t70 w =>
  fld 0 t70 w fun t71 w =>
  ld1 t71 w fun t72 w =>
  bi .lss .i64 t72 t5 w fun t74 w =>
  iff' t74
  (K (Value.bool false) w)
  (bi .add .i64 t11 (Value.int IntKind.i64 1) w fun t66 w =>
  g3 [t66] w))
  (k2 t5 w)))
  (bi .eql .i64 t44 (Value.int IntKind.i64 2) w fun t76 w =>
  iff' t76
  (Cl prog 15 #[t25] w fun t79 w =>
  xt 0 t79 w fun t80 w =>
  xt 1 t79 w fun _ w =>
  bi .lss .i64 t80 t5 w fun t84 w =>
  iff' t84
  (K (Value.bool false) w)
  (k2 t80 w))
  (k2 t5 w))))
  (K (Value.bool true) w))))
theorem pacelinelaw12_CmbPromise_eq (t0 : Value) (w : World) (K : KV) : pacelinelaw12_CmbPromise t0 w K = fnW prog 86 [2] (match fn4.body with | some c => c | none => .skip) #[t0] w K := by kernel_rfl
theorem pacelinelaw12_CmbPromise_ok : fnOk prog 86 [2] (match fn4.body with | some c => c | none => .skip) = true := by kernel_rfl
theorem pacelinelaw12_CmbPromise_calls {t0 : Value} {w : World} {K : KV} (h : pacelinelaw12_CmbPromise t0 w K) : Cl prog 4 #[t0] w K :=
  Cl.mk (by kernel_rfl) (calls_of_F (fn := fn4) (nt := 86) (rs := [2]) mixed fnAt4 (by kernel_rfl) (by kernel_rfl) (by kernel_rfl) (Nat.le_of_ble_eq_true (by kernel_rfl)) pacelinelaw12_CmbPromise_ok (pacelinelaw12_CmbPromise_eq t0 w K) h)

/-- paceline/pacelinelaw12.CmbAlone -/
def pacelinelaw12_CmbAlone (t0 : Value) (w : World) (K : KV) : Prop :=
  lnS t0 w fun t13 w =>
  bi .gtr .i64 t13 (Value.int IntKind.i64 30) w fun t14 w =>
  gd t14 false (fun k => Cl prog 7 #[] w k) w fun t16 w =>
  gd t14 false (fun k => bnot t16 w k) w fun t17 w =>
  pk t14 (Value.bool true) t17 w fun t18 w =>
  iff' t18
  (Cl prog 7 #[] w fun t19 w =>
  K t19 w)
  (Cl prog 9 #[] w fun t21 w =>
  Cl prog 8 #[t21, (Value.int IntKind.i64 0)] w fun t22 w =>
  xt 0 t22 w fun t23 w =>
  xt 1 t22 w fun t24 w =>
  bi .neq .i64 t24 (Value.int IntKind.i64 0) w fun t26 w =>
  gd t26 false (fun k => k t23 w) w fun t28 w =>
  gd t26 false (fun k => bn .eql t28 w k) w fun t29 w =>
  pk t26 (Value.bool true) t29 w fun t30 w =>
  iff' t30
  (K (Value.bool false) w)
  (lp [(Value.int IntKind.i64 0), (Value.int IntKind.i64 0)] w (b2 fun t5 t6 w g1 =>
  lnS t0 w fun t33 w =>
  bi .lss .i64 t6 t33 w fun t34 w =>
  iff' t34
  (J1 (fun t5_1 w =>
  bi .add .i64 t6 (Value.int IntKind.i64 1) w fun t36 w =>
  g1 [t5_1, t36] w) fun k2 =>
  ixS 1 t0 t6 w fun t39 w =>
  ld1 t39 w fun t40 w =>
  cvI .i64 t40 w fun t41 w =>
  bld (zeroD prog 34) #[(0, 1), (1, 1), (2, 1)] [(0, t41), (1, (Value.int IntKind.i64 1)), (2, t6)] w fun t43 w =>
  bld (zeroD prog 36) #[(0, 3), (3, 1), (4, 1), (5, 1)] [(0, t43), (3, t6)] w fun t45 w =>
  al (zeroD prog 36) 36 w fun t7 w =>
  stN 6 t7 t45 w fun _ w =>
  ldN 6 t7 w fun t47 w =>
  bld (zeroD prog 38) #[(0, 1), (1, 6), (7, 1)] [(1, t47)] w fun t48 w =>
  Cl prog 11 #[t23, (Value.int IntKind.i64 1), t48] w fun t49 w =>
  bi .neq .i64 t49 (Value.int IntKind.i64 0) w fun t50 w =>
  gd t50 false (fun k => k t23 w) w fun t52 w =>
  gd t50 false (fun k => Cl prog 16 #[t52] w k) w fun t53 w =>
  pk t50 (Value.bool true) t53 w fun t54 w =>
  iff' t54
  (K (Value.bool false) w)
  (ixS 1 t0 t6 w fun t57 w =>
  ld1 t57 w fun t58 w =>
  cvI .i64 t58 w fun t59 w =>
  bi .lss .i64 t59 (Value.int IntKind.i64 100) w fun t60 w =>
  iff' t60
  (bi .add .i64 t5 (Value.int IntKind.i64 1) w fun t62 w =>
  k2 t62 w)
  (k2 t5 w)))
  (bld (zeroD prog 34) #[(0, 1), (1, 1), (2, 1)] [(0, (Value.int IntKind.i64 1125899906842624))] w fun t64 w =>
  bld (zeroD prog 36) #[(0, 3), (3, 1), (4, 1), (5, 1)] [(0, t64)] w fun t65 w =>
  bld (zeroD prog 38) #[(0, 1), (1, 6), (7, 1)] [(0, (Value.int IntKind.i64 2)), (1, t65)] w fun t66 w =>
  Cl prog 11 #[t23, (Value.int IntKind.i64 1), t66] w fun t67 w =>
  bi .neq .i64 t67 (Value.int IntKind.i64 0) w fun t68 w =>
  gd t68 false (fun k => k t23 w) w fun t70 w =>
  gd t68 false (fun k => bld (zeroD prog 34) #[(0, 1), (1, 1), (2, 1)] [(0, (Value.int IntKind.i64 1125899906842624))] w k) w fun t71 w =>
  gd t68 false (fun k => bld (zeroD prog 36) #[(0, 3), (3, 1), (4, 1), (5, 1)] [(0, t71)] w k) w fun t72 w =>
  gd t68 false (fun k => bld (zeroD prog 38) #[(0, 1), (1, 6), (7, 1)] [(0, (Value.int IntKind.i64 2)), (1, t72)] w k) w fun t73 w =>
  gd t68 false (fun k => Cl prog 11 #[t70, (Value.int IntKind.i64 2), t73] w k) w fun t74 w =>
  gd t68 false (fun k => bi .neq .i64 t74 (Value.int IntKind.i64 0) w k) w fun t75 w =>
  pk t68 (Value.bool true) t75 w fun t76 w =>
  iff' t76
  (K (Value.bool false) w)
  (lp [(Value.int IntKind.i64 0)] w (b1 fun t8 w g3 =>
  bi .lss .i64 t8 t5 w fun t79 w =>
  iff' t79
  (Cl prog 12 #[t23] w fun t84 w =>
  xt 0 t84 w fun t85 w =>
  xt 1 t84 w fun t86 w =>
  xt 2 t84 w fun t87 w =>
  al (zeroD prog 51) 51 w fun t9 w =>
  stN 7 t9 t85 w fun _ w =>
  dr w fun w =>
  bi .neq .i64 t87 (Value.int IntKind.i64 0) w fun t89 _ =>
  gd t89 false (fun k => k t86 w) w fun t91 _ =>
  gd t89 false (fun k => lnS t91 w k) w fun t92 _ =>
  gd t89 false (fun k => bi .neq .i64 t92 (Value.int IntKind.i64 1) w k) w fun t93 _ =>
  pk t89 (Value.bool true) t93 w fun t94 _ =>
  gd t94 false (fun k => k t86 w) w fun t96 _ =>
  gd t94 false (fun k => ixS 6 t96 (Value.int IntKind.i64 0) w k) w fun t97 _ =>
  gd t94 false (fun k => fld 0 t97 w k) w fun t98 _ =>
  gd t94 false (fun k => ldN 3 t98 w k) w fun t99 _ =>
  gd t94 false (fun k => fld 0 t9 w k) w fun t100 _ =>
  gd t94 false (fun k => fld 0 t100 w k) w fun t101 _ =>
  gd t94 false (fun k => fld 0 t101 w k) w fun t102 _ =>
  gd t94 false (fun k => ld1 t102 w k) w fun t103 _ =>
  gd t94 false (fun k => bi .add .i64 t103 (Value.int IntKind.i64 2) w k) w fun t104 _ =>
  gd t94 false (fun k => k t8 w) w fun t105 _ =>
  gd t94 false (fun k => bld (zeroD prog 34) #[(0, 1), (1, 1), (2, 1)] [(0, t104), (1, (Value.int IntKind.i64 0)), (2, t105)] w k) w fun t106 w =>
  (gd t94 false (fun k => ldN 3 t98 w k) w (fun v' w'' => v' = t99 ∧ w'' = w)) ∧ (gd t94 false (fun k => bO prog .neq 34 (Operand.tmp 99) (Operand.tmp 106) t99 t106 w k) w fun t107 w =>
  pk t94 (Value.bool true) t107 w fun t108 _ =>
  gd t108 false (fun k => k t86 w) w fun t110 _ =>
  gd t108 false (fun k => ixS 6 t110 (Value.int IntKind.i64 0) w k) w fun t111 _ =>
  gd t108 false (fun k => fld 3 t111 w k) w fun t112 _ =>
  gd t108 false (fun k => ld1 t112 w k) w fun t113 _ =>
  gd t108 false (fun k => bi .neq .i64 t113 (Value.int IntKind.i64 1) w k) w fun t114 _ =>
  pk t108 (Value.bool true) t114 w fun t115 _ =>
  gd t115 false (fun k => k t86 w) w fun t117 _ =>
  gd t115 false (fun k => ixS 6 t117 (Value.int IntKind.i64 0) w k) w fun t118 _ =>
  gd t115 false (fun k => fld 5 t118 w k) w fun t119 _ =>
  gd t115 false (fun k => ld1 t119 w k) w fun t120 _ =>
  gd t115 false (fun k => fld 0 t9 w k) w fun t121 _ =>
  gd t115 false (fun k => fld 5 t121 w k) w fun t122 _ =>
  gd t115 false (fun k => ld1 t122 w k) w fun t123 _ =>
  gd t115 false (fun k => bi .add .i64 t123 (Value.int IntKind.i64 1) w k) w fun t124 _ =>
  gd t115 false (fun k => bi .neq .i64 t120 t124 w k) w fun t125 _ =>
  pk t115 (Value.bool true) t125 w fun t126 _ =>
  iff' t126
  (K (Value.bool false) w)
  (bi .add .i64 t8 (Value.int IntKind.i64 1) w fun t81 w =>
  g3 [t81] w)))
  (Cl prog 16 #[t23] w fun t128 w =>
  bnot t128 w fun t129 w =>
  gd t129 true (fun k => k t23 w) w fun t131 w =>
  gd t129 true (fun k => Cl prog 13 #[t131] w k) w fun t132 w =>
  gd t129 true (fun k => lnS t132 w k) w fun t133 w =>
  gd t129 true (fun k => k t5 w) w fun t134 w =>
  gd t129 true (fun k => bi .eql .i64 t133 t134 w k) w fun t135 w =>
  pk t129 t135 (Value.bool false) w fun t136 w =>
  gd t136 true (fun k => k t23 w) w fun t138 w =>
  gd t136 true (fun k => nc t138 w k) w fun t139 w =>
  gd t136 true (fun k => fld 1 t139 w k) w fun t140 w =>
  gd t136 true (fun k => ldN 1 t140 w k) w fun t141 w =>
  gd t136 true (fun k => Cl prog 17 #[t141] w k) w fun t142 w =>
  gd t136 true (fun k => lnS t142 w k) w fun t143 w =>
  gd t136 true (fun k => k t0 w) w fun t144 w =>
  gd t136 true (fun k => lnS t144 w k) w fun t145 w =>
  gd t136 true (fun k => k t5 w) w fun t146 w =>
  gd t136 true (fun k => bi .sub .i64 t145 t146 w k) w fun t147 w =>
  gd t136 true (fun k => bi .eql .i64 t143 t147 w k) w fun t148 w =>
  pk t136 t148 (Value.bool false) w fun t149 w =>
  K t149 w)))))))
theorem pacelinelaw12_CmbAlone_eq (t0 : Value) (w : World) (K : KV) : pacelinelaw12_CmbAlone t0 w K = fnW prog 150 [2] (match fn5.body with | some c => c | none => .skip) #[t0] w K := by kernel_rfl
theorem pacelinelaw12_CmbAlone_ok : fnOk prog 150 [2] (match fn5.body with | some c => c | none => .skip) = true := by kernel_rfl
theorem pacelinelaw12_CmbAlone_calls {t0 : Value} {w : World} {K : KV} (h : pacelinelaw12_CmbAlone t0 w K) : Cl prog 5 #[t0] w K :=
  Cl.mk (by kernel_rfl) (calls_of_F (fn := fn5) (nt := 150) (rs := [2]) mixed fnAt5 (by kernel_rfl) (by kernel_rfl) (by kernel_rfl) (Nat.le_of_ble_eq_true (by kernel_rfl)) pacelinelaw12_CmbAlone_ok (pacelinelaw12_CmbAlone_eq t0 w K) h)

/-- paceline/pacelinelaw12.CmbEdge -/
def pacelinelaw12_CmbEdge (t0 t1 : Value) (w : World) (K : KV) : Prop :=
  lnS t1 w fun t15 w =>
  bi .gtr .i64 t15 (Value.int IntKind.i64 60) w fun t16 w =>
  gd t16 false (fun k => Cl prog 7 #[] w k) w fun t18 w =>
  gd t16 false (fun k => bnot t18 w k) w fun t19 w =>
  pk t16 (Value.bool true) t19 w fun t20 w =>
  iff' t20
  (Cl prog 7 #[] w fun t21 w =>
  K t21 w)
  (Cl prog 9 #[] w fun t23 w =>
  Cl prog 8 #[t23, (Value.int IntKind.i64 0)] w fun t24 w =>
  xt 0 t24 w fun t25 w =>
  xt 1 t24 w fun t26 w =>
  bi .neq .i64 t26 (Value.int IntKind.i64 0) w fun t28 w =>
  gd t28 false (fun k => k t25 w) w fun t30 w =>
  gd t28 false (fun k => bn .eql t30 w k) w fun t31 w =>
  pk t28 (Value.bool true) t31 w fun t32 w =>
  gd t32 false (fun k => k t25 w) w fun t34 w =>
  gd t32 false (fun k => k t0 w) w fun t35 w =>
  gd t32 false (fun k => cvI .i64 t35 w k) w fun t36 w =>
  gd t32 false (fun k => bld (zeroD prog 34) #[(0, 1), (1, 1), (2, 1)] [(0, t36), (1, (Value.int IntKind.i64 1))] w k) w fun t37 w =>
  gd t32 false (fun k => bld (zeroD prog 36) #[(0, 3), (3, 1), (4, 1), (5, 1)] [(0, t37)] w k) w fun t38 w =>
  gd t32 false (fun k => bld (zeroD prog 38) #[(0, 1), (1, 6), (7, 1)] [(1, t38)] w k) w fun t39 w =>
  gd t32 false (fun k => Cl prog 11 #[t34, (Value.int IntKind.i64 1), t39] w k) w fun t40 w =>
  gd t32 false (fun k => bi .neq .i64 t40 (Value.int IntKind.i64 0) w k) w fun t41 w =>
  pk t32 (Value.bool true) t41 w fun t42 w =>
  iff' t42
  (K (Value.bool false) w)
  (lp [(Value.int IntKind.i64 0), (Value.int IntKind.i64 0), (Value.int IntKind.i64 0)] w (b3 fun t7 t8 t9 w g1 =>
  lnS t1 w fun t45 w =>
  bi .lss .i64 t9 t45 w fun t46 w =>
  iff' t46
  (J2 (fun t7_1 t8_1 w =>
  bi .add .i64 t9 (Value.int IntKind.i64 1) w fun t48 w =>
  g1 [t7_1, t8_1, t48] w) fun k2 =>
  bi .rem .i64 t9 (Value.int IntKind.i64 2) w fun t50 w =>
  bi .eql .i64 t50 (Value.int IntKind.i64 0) w fun t51 w =>
  J2 (fun t7_2 t8_2 w =>
  cvI .i64 t0 w fun t81 w =>
  mnI .i64 t7_2 t8_2 w fun t84 w =>
  bi .lss .i64 t81 t84 w fun t85 w =>
  gd t85 true (fun k => k t0 w) w fun t87 w =>
  gd t85 true (fun k => cvI .i64 t87 w k) w fun t88 w =>
  gd t85 true (fun k => bi .lss .i64 t88 (Value.int IntKind.i64 100) w k) w fun t89 w =>
  pk t85 t89 (Value.bool false) w fun t90 w =>
  Cl prog 16 #[t25] w fun t92 w =>
  bb .neq t92 t90 w fun t94 w =>
  gd t94 false (fun k => k t25 w) w fun t96 w =>
  gd t94 false (fun k => nc t96 w k) w fun t97 w =>
  gd t94 false (fun k => fld 0 t97 w k) w fun t98 w =>
  gd t94 false (fun k => ld1 t98 w k) w fun t99 w =>
  gd t94 false (fun k => Cl prog 10 #[t99] w k) w fun t100 w =>
  gd t94 false (fun k => k t7_2 w) w fun t101 w =>
  gd t94 false (fun k => k t8_2 w) w fun t102 w =>
  gd t94 false (fun k => mnI .i64 t101 t102 w k) w fun t103 w =>
  gd t94 false (fun k => bi .neq .i64 t100 t103 w k) w fun t104 w =>
  pk t94 (Value.bool true) t104 w fun t105 w =>
  iff' t105
  (K (Value.bool false) w)
  (bnot t90 w fun t107 w =>
  iff' t107
  (Cl prog 12 #[t25] w fun t110 w =>
  xt 0 t110 w fun t111 w =>
  xt 1 t110 w fun _ w =>
  xt 2 t110 w fun t113 w =>
  al (zeroD prog 51) 51 w fun t11 w =>
  stN 7 t11 t111 w fun _ w =>
  bi .neq .i64 t113 (Value.int IntKind.i64 150) w fun t115 w =>
  iff' t115
  (K (Value.bool false) w)
  (k2 t7_2 t8_2 w))
  (k2 t7_2 t8_2 w))) fun k3 =>
  iff' t51
  (ixS 1 t1 t9 w fun t55 w =>
  ld1 t55 w fun t56 w =>
  cvI .i64 t56 w fun t57 w =>
  mxI .i64 t7 t57 w fun t58 w =>
  bld (zeroD prog 34) #[(0, 1), (1, 1), (2, 1)] [(0, t58)] w fun t61 w =>
  bld (zeroD prog 36) #[(0, 3), (3, 1), (4, 1), (5, 1)] [(0, t61)] w fun t62 w =>
  bld (zeroD prog 38) #[(0, 1), (1, 6), (7, 1)] [(0, (Value.int IntKind.i64 2)), (1, t62)] w fun t63 w =>
  Cl prog 11 #[t25, (Value.int IntKind.i64 1), t63] w fun t64 w =>
  bi .neq .i64 t64 (Value.int IntKind.i64 0) w fun t65 w =>
  iff' t65
  (K (Value.bool false) w)
  (k3 t58 t8 w))
  (ixS 1 t1 t9 w fun t69 w =>
  ld1 t69 w fun t70 w =>
  cvI .i64 t70 w fun t71 w =>
  mxI .i64 t8 t71 w fun t72 w =>
  bld (zeroD prog 34) #[(0, 1), (1, 1), (2, 1)] [(0, t72)] w fun t75 w =>
  bld (zeroD prog 36) #[(0, 3), (3, 1), (4, 1), (5, 1)] [(0, t75)] w fun t76 w =>
  bld (zeroD prog 38) #[(0, 1), (1, 6), (7, 1)] [(0, (Value.int IntKind.i64 2)), (1, t76)] w fun t77 w =>
  Cl prog 11 #[t25, (Value.int IntKind.i64 2), t77] w fun t78 w =>
  bi .neq .i64 t78 (Value.int IntKind.i64 0) w fun t79 w =>
  iff' t79
  (K (Value.bool false) w)
  (k3 t7 t72 w)))
  (Cl prog 13 #[t25] w fun t117 w =>
  lnS t117 w fun t118 w =>
  bi .eql .i64 t118 (Value.int IntKind.i64 0) w fun t119 w =>
  gd t119 true (fun k => k t25 w) w fun t121 w =>
  gd t119 true (fun k => nc t121 w k) w fun t122 w =>
  gd t119 true (fun k => fld 1 t122 w k) w fun t123 w =>
  gd t119 true (fun k => ldN 1 t123 w k) w fun t124 w =>
  gd t119 true (fun k => Cl prog 17 #[t124] w k) w fun t125 w =>
  gd t119 true (fun k => lnS t125 w k) w fun t126 w =>
  gd t119 true (fun k => bi .eql .i64 t126 (Value.int IntKind.i64 1) w k) w fun t127 w =>
  pk t119 t127 (Value.bool false) w fun t128 w =>
  K t128 w))))
theorem pacelinelaw12_CmbEdge_eq (t0 t1 : Value) (w : World) (K : KV) : pacelinelaw12_CmbEdge t0 t1 w K = fnW prog 129 [4] (match fn6.body with | some c => c | none => .skip) #[t0, t1] w K := by kernel_rfl
theorem pacelinelaw12_CmbEdge_ok : fnOk prog 129 [4] (match fn6.body with | some c => c | none => .skip) = true := by kernel_rfl
theorem pacelinelaw12_CmbEdge_calls {t0 t1 : Value} {w : World} {K : KV} (h : pacelinelaw12_CmbEdge t0 t1 w K) : Cl prog 6 #[t0, t1] w K :=
  Cl.mk (by kernel_rfl) (calls_of_F (fn := fn6) (nt := 129) (rs := [4]) mixed fnAt6 (by kernel_rfl) (by kernel_rfl) (by kernel_rfl) (Nat.le_of_ble_eq_true (by kernel_rfl)) pacelinelaw12_CmbEdge_ok (pacelinelaw12_CmbEdge_eq t0 t1 w K) h)

/-- paceline/pacelinelaw12.shown -/
def pacelinelaw12_shown (w : World) (K : KV) : Prop :=
  Cl prog 9 #[] w fun t7 w =>
  Cl prog 8 #[t7, (Value.int IntKind.i64 0)] w fun t8 w =>
  xt 0 t8 w fun t9 w =>
  xt 1 t8 w fun t10 w =>
  bi .neq .i64 t10 (Value.int IntKind.i64 0) w fun t12 w =>
  gd t12 false (fun k => k t9 w) w fun t14 w =>
  gd t12 false (fun k => bn .eql t14 w k) w fun t15 w =>
  pk t12 (Value.bool true) t15 w fun t16 w =>
  gd t16 false (fun k => k t9 w) w fun t18 w =>
  gd t16 false (fun k => bld (zeroD prog 34) #[(0, 1), (1, 1), (2, 1)] [(0, (Value.int IntKind.i64 5)), (1, (Value.int IntKind.i64 1))] w k) w fun t19 w =>
  gd t16 false (fun k => bld (zeroD prog 36) #[(0, 3), (3, 1), (4, 1), (5, 1)] [(0, t19)] w k) w fun t20 w =>
  gd t16 false (fun k => bld (zeroD prog 38) #[(0, 1), (1, 6), (7, 1)] [(1, t20)] w k) w fun t21 w =>
  gd t16 false (fun k => Cl prog 11 #[t18, (Value.int IntKind.i64 1), t21] w k) w fun t22 w =>
  gd t16 false (fun k => bi .neq .i64 t22 (Value.int IntKind.i64 0) w k) w fun t23 w =>
  pk t16 (Value.bool true) t23 w fun t24 w =>
  gd t24 false (fun k => k t9 w) w fun t26 w =>
  gd t24 false (fun k => Cl prog 16 #[t26] w k) w fun t27 w =>
  pk t24 (Value.bool true) t27 w fun t28 w =>
  iff' t28
  (K (Value.bool false) w)
  (bld (zeroD prog 34) #[(0, 1), (1, 1), (2, 1)] [(0, (Value.int IntKind.i64 6))] w fun t30 w =>
  bld (zeroD prog 36) #[(0, 3), (3, 1), (4, 1), (5, 1)] [(0, t30)] w fun t31 w =>
  bld (zeroD prog 38) #[(0, 1), (1, 6), (7, 1)] [(0, (Value.int IntKind.i64 2)), (1, t31)] w fun t32 w =>
  Cl prog 11 #[t9, (Value.int IntKind.i64 1), t32] w fun _ w =>
  bld (zeroD prog 34) #[(0, 1), (1, 1), (2, 1)] [(0, (Value.int IntKind.i64 6))] w fun t35 w =>
  bld (zeroD prog 36) #[(0, 3), (3, 1), (4, 1), (5, 1)] [(0, t35)] w fun t36 w =>
  bld (zeroD prog 38) #[(0, 1), (1, 6), (7, 1)] [(0, (Value.int IntKind.i64 2)), (1, t36)] w fun t37 w =>
  Cl prog 11 #[t9, (Value.int IntKind.i64 2), t37] w fun _ w =>
  Cl prog 12 #[t9] w fun t41 w =>
  xt 0 t41 w fun t42 w =>
  xt 1 t41 w fun t43 w =>
  xt 2 t41 w fun t44 w =>
  al (zeroD prog 51) 51 w fun t3 w =>
  stN 7 t3 t42 w fun _ w =>
  bi .eql .i64 t44 (Value.int IntKind.i64 0) w fun t46 w =>
  gd t46 true (fun k => k t43 w) w fun t48 w =>
  gd t46 true (fun k => lnS t48 w k) w fun t49 w =>
  gd t46 true (fun k => bi .eql .i64 t49 (Value.int IntKind.i64 1) w k) w fun t50 w =>
  pk t46 t50 (Value.bool false) w fun t51 w =>
  gd t51 true (fun k => k t43 w) w fun t53 w =>
  gd t51 true (fun k => ixS 6 t53 (Value.int IntKind.i64 0) w k) w fun t54 w =>
  gd t51 true (fun k => fld 0 t54 w k) w fun t55 w =>
  gd t51 true (fun k => fld 0 t55 w k) w fun t56 w =>
  gd t51 true (fun k => ld1 t56 w k) w fun t57 w =>
  gd t51 true (fun k => bi .eql .i64 t57 (Value.int IntKind.i64 7) w k) w fun t58 w =>
  pk t51 t58 (Value.bool false) w fun t59 w =>
  gd t59 true (fun k => k t9 w) w fun t61 w =>
  gd t59 true (fun k => Cl prog 13 #[t61] w k) w fun t62 w =>
  gd t59 true (fun k => lnS t62 w k) w fun t63 w =>
  gd t59 true (fun k => bi .eql .i64 t63 (Value.int IntKind.i64 1) w k) w fun t64 w =>
  pk t59 t64 (Value.bool false) w fun t65 w =>
  K t65 w)
theorem pacelinelaw12_shown_eq (w : World) (K : KV) : pacelinelaw12_shown w K = fnW prog 66 [0] (match fn7.body with | some c => c | none => .skip) #[] w K := by kernel_rfl
theorem pacelinelaw12_shown_ok : fnOk prog 66 [0] (match fn7.body with | some c => c | none => .skip) = true := by kernel_rfl
theorem pacelinelaw12_shown_calls {w : World} {K : KV} (h : pacelinelaw12_shown w K) : Cl prog 7 #[] w K :=
  Cl.mk (by kernel_rfl) (calls_of_F (fn := fn7) (nt := 66) (rs := [0]) mixed fnAt7 (by kernel_rfl) (by kernel_rfl) (by kernel_rfl) (Nat.le_of_ble_eq_true (by kernel_rfl)) pacelinelaw12_shown_ok (pacelinelaw12_shown_eq w K) h)

/-- paceline/cmb.New -/
def cmb_New (t0 t1 : Value) (w : World) (K : KV) : Prop :=
  al (Value.cells t0) 31 w fun t2 w =>
  ldN 3 t2 w fun t11 w =>
  Cl prog 18 #[t11] w fun t12 w =>
  xt 0 t12 w fun _ w =>
  xt 1 t12 w fun t14 w =>
  bi .neq .i64 t14 (Value.int IntKind.i64 0) w fun t16 w =>
  iff' t16
  (K (Value.tuple #[(Value.pointer none), t14]) w)
  (bi .lss .i64 t1 (Value.int IntKind.i64 0) w fun t19 w =>
  gd t19 false (fun k => k t1 w) w fun t21 w =>
  gd t19 false (fun k => fld 1 t2 w k) w fun t22 w =>
  gd t19 false (fun k => ld1 t22 w k) w fun t23 w =>
  gd t19 false (fun k => lnS t23 w k) w fun t24 w =>
  gd t19 false (fun k => bi .geq .i64 t21 t24 w k) w fun t25 w =>
  pk t19 (Value.bool true) t25 w fun t26 w =>
  gd t26 false (fun k => fld 1 t2 w k) w fun t28 w =>
  gd t26 false (fun k => ld1 t28 w k) w fun t29 w =>
  gd t26 false (fun k => k t1 w) w fun t30 w =>
  gd t26 false (fun k => ixS 7 t29 t30 w k) w fun t31 w =>
  gd t26 false (fun k => fld 0 t31 w k) w fun t32 w =>
  gd t26 false (fun k => ld1 t32 w k) w fun t33 w =>
  gd t26 false (fun k => bi .neq .i64 t33 (Value.int IntKind.i64 0) w k) w fun t34 w =>
  pk t26 (Value.bool true) t34 w fun t35 w =>
  iff' t35
  (K (Value.tuple #[(Value.pointer none), (Value.int IntKind.i64 1)]) w)
  (fld 1 t2 w fun t37 w =>
  ld1 t37 w fun t38 w =>
  lnS t38 w fun t39 w =>
  Cl prog 19 #[t39, t1] w fun t41 w =>
  xt 0 t41 w fun t42 w =>
  xt 1 t41 w fun t43 w =>
  bi .neq .i64 t43 (Value.int IntKind.i64 0) w fun t45 w =>
  iff' t45
  (K (Value.tuple #[(Value.pointer none), t43]) w)
  (dr w fun w =>
  ldN 3 t2 w fun t50 _ =>
  fld 1 t2 w fun t53 _ =>
  ld1 t53 w fun t54 _ =>
  ixS 7 t54 t1 w fun t56 _ =>
  fld 2 t56 w fun t57 _ =>
  ld1 t57 w fun t58 _ =>
  fld 1 t2 w fun t59 _ =>
  ld1 t59 w fun t60 _ =>
  ixS 7 t60 t1 w fun t62 _ =>
  fld 6 t62 w fun t63 _ =>
  ld1 t63 w fun t64 _ =>
  lnS t64 w fun t65 _ =>
  Cl prog 20 #[(Value.int IntKind.i64 64)] w fun t48 w =>
  (ld1 t63 w (fun v' w'' => v' = t64 ∧ w'' = w)) ∧ ((ld1 t59 w (fun v' w'' => v' = t60 ∧ w'' = w)) ∧ ((ld1 t57 w (fun v' w'' => v' = t58 ∧ w'' = w)) ∧ ((ld1 t53 w (fun v' w'' => v' = t54 ∧ w'' = w)) ∧ ((ldN 3 t2 w (fun v' w'' => v' = t50 ∧ w'' = w)) ∧ ((bld (zeroD prog 45) #[(0, 1)] [(0, t48)] w fun t49 w =>
  (ld1 t63 w (fun v' w'' => v' = t64 ∧ w'' = w)) ∧ ((ld1 t59 w (fun v' w'' => v' = t60 ∧ w'' = w)) ∧ ((ld1 t57 w (fun v' w'' => v' = t58 ∧ w'' = w)) ∧ ((ld1 t53 w (fun v' w'' => v' = t54 ∧ w'' = w)) ∧ ((ldN 3 t2 w (fun v' w'' => v' = t50 ∧ w'' = w)) ∧ (Cl prog 21 #[t50] w fun t51 w =>
  (ld1 t63 w (fun v' w'' => v' = t64 ∧ w'' = w)) ∧ ((ld1 t59 w (fun v' w'' => v' = t60 ∧ w'' = w)) ∧ ((ld1 t57 w (fun v' w'' => v' = t58 ∧ w'' = w)) ∧ ((ld1 t53 w (fun v' w'' => v' = t54 ∧ w'' = w)) ∧ (bld (zeroD prog 48) #[(0, 1), (1, 1), (2, 3), (5, 1), (6, 1), (7, 1), (8, 1)] [(0, t42), (1, t49), (2, t51), (3, t1), (4, t58), (5, t65)] w fun t66 w =>
  al (Value.cells t66) 48 w fun t67 w =>
  K (Value.tuple #[t67, (Value.int IntKind.i64 0)]) w)))))))))) ∧ (Cl prog 21 #[t50] w fun t51_1 w =>
  (ld1 t63 w (fun v' w'' => v' = t64 ∧ w'' = w)) ∧ ((ld1 t59 w (fun v' w'' => v' = t60 ∧ w'' = w)) ∧ ((ld1 t57 w (fun v' w'' => v' = t58 ∧ w'' = w)) ∧ ((ld1 t53 w (fun v' w'' => v' = t54 ∧ w'' = w)) ∧ (bld (zeroD prog 45) #[(0, 1)] [(0, t48)] w fun t49_1 w =>
  (ld1 t63 w (fun v' w'' => v' = t64 ∧ w'' = w)) ∧ ((ld1 t59 w (fun v' w'' => v' = t60 ∧ w'' = w)) ∧ ((ld1 t57 w (fun v' w'' => v' = t58 ∧ w'' = w)) ∧ ((ld1 t53 w (fun v' w'' => v' = t54 ∧ w'' = w)) ∧ ((ldN 3 t2 w (fun v' w'' => v' = t50 ∧ w'' = w)) ∧ (bld (zeroD prog 48) #[(0, 1), (1, 1), (2, 3), (5, 1), (6, 1), (7, 1), (8, 1)] [(0, t42), (1, t49_1), (2, t51_1), (3, t1), (4, t58), (5, t65)] w fun t66_1 w =>
  al (Value.cells t66_1) 48 w fun t67_1 w =>
  K (Value.tuple #[t67_1, (Value.int IntKind.i64 0)]) w))))))))))))))))))
theorem cmb_New_eq (t0 t1 : Value) (w : World) (K : KV) : cmb_New t0 t1 w K = fnW prog 68 [4, 5] (match fn8.body with | some c => c | none => .skip) #[t0, t1] w K := by kernel_rfl
theorem cmb_New_ok : fnOk prog 68 [4, 5] (match fn8.body with | some c => c | none => .skip) = true := by kernel_rfl
theorem cmb_New_calls {t0 t1 : Value} {w : World} {K : KV} (h : cmb_New t0 t1 w K) : Cl prog 8 #[t0, t1] w K :=
  Cl.mk (by kernel_rfl) (calls_of_F (fn := fn8) (nt := 68) (rs := [4, 5]) mixed fnAt8 (by kernel_rfl) (by kernel_rfl) (by kernel_rfl) (Nat.le_of_ble_eq_true (by kernel_rfl)) cmb_New_ok (cmb_New_eq t0 t1 w K) h)

/-- paceline/pacelinelaw12.echo -/
def pacelinelaw12_echo (w : World) (K : KV) : Prop :=
  al (zeroD prog 31) 31 w fun t0 w =>
  bld (zeroD prog 75) #[(0, 1), (1, 1), (2, 1)] [(0, (Value.int IntKind.i64 0)), (1, (Value.int IntKind.i64 2)), (2, (Value.int IntKind.i64 1))] w fun t2 w =>
  bsl 75 3 1 (zeroD prog 75) [(0, t2)] w fun t3 w =>
  bld (zeroD prog 77) #[(0, 1), (1, 1), (2, 1), (3, 1)] [(1, (Value.int IntKind.i64 0)), (2, (Value.int IntKind.i64 0)), (3, t3)] w fun t4 w =>
  bsl 77 4 1 (zeroD prog 77) [(0, t4)] w fun t5 w =>
  bsl 3 1 1 (zeroD prog 3) [(0, (Value.int IntKind.i64 (-1)))] w fun t6 w =>
  bsl 3 1 1 (zeroD prog 3) [(0, (Value.int IntKind.i64 0))] w fun t8 w =>
  bsl 3 1 1 (zeroD prog 3) [(0, (Value.int IntKind.i64 0))] w fun t9 w =>
  bld (zeroD prog 69) #[(0, 1), (1, 1), (2, 1), (3, 1), (4, 1), (5, 1), (6, 1)] [(1, (Value.int IntKind.i64 2)), (3, t5), (4, t8), (5, t9)] w fun t10 w =>
  bsl 3 1 1 (zeroD prog 3) [(0, (Value.int IntKind.i64 0))] w fun t11 w =>
  bsl 3 1 1 (zeroD prog 3) [(0, (Value.int IntKind.i64 0))] w fun t12 w =>
  bld (zeroD prog 69) #[(0, 1), (1, 1), (2, 1), (3, 1), (4, 1), (5, 1), (6, 1)] [(1, (Value.int IntKind.i64 1)), (4, t11), (5, t12)] w fun t13 w =>
  bld (zeroD prog 69) #[(0, 1), (1, 1), (2, 1), (3, 1), (4, 1), (5, 1), (6, 1)] [(1, (Value.int IntKind.i64 1))] w fun t14 w =>
  bsl 69 7 3 (zeroD prog 69) [(0, t10), (1, t13), (2, t14)] w fun t15 w =>
  bld (zeroD prog 31) #[(0, 1), (1, 1), (2, 1)] [(0, t6), (2, (Value.int IntKind.i64 100)), (1, t15)] w fun t16 w =>
  stN 3 t0 t16 w fun _ w =>
  ldN 3 t0 w fun r0 _ =>
  K r0 w
theorem pacelinelaw12_echo_eq (w : World) (K : KV) : pacelinelaw12_echo w K = fnWC prog 17 [(0, some 31)] (match fn9.body with | some c => c | none => .skip) #[] w K := by kernel_rfl
theorem pacelinelaw12_echo_ok : fnOkC prog 17 [(0, some 31)] (match fn9.body with | some c => c | none => .skip) = true := by kernel_rfl
theorem pacelinelaw12_echo_calls {w : World} {K : KV} (h : pacelinelaw12_echo w K) : Cl prog 9 #[] w K :=
  Cl.mk (by kernel_rfl) (calls_of_FC (fn := fn9) (nt := 17) (rs := [(0, some 31)]) mixed fnAt9 (by kernel_rfl) (by kernel_rfl) (by kernel_rfl) (Nat.le_of_ble_eq_true (by kernel_rfl)) pacelinelaw12_echo_ok (pacelinelaw12_echo_eq w K) h)

/-- (*paceline/clock.Clocks).Bound -/
def clock_Clocks_Bound (t0 : Value) (w : World) (K : KV) : Prop :=
  al (zeroD prog 3) 3 w fun t3 w =>
  stN 1 t3 (Value.int IntKind.i64 1125899906842624) w fun _ w =>
  ncP t0 <|
  fld 0 t0 w fun t10 w =>
  ld1 t10 w fun t11 w =>
  rgM prog 79 t11 w fun t12 w =>
  lp [] w (b0 fun w g1 =>
  nxM prog t12 false 0 w fun t13 w =>
  xt 0 t13 w fun t14 w =>
  iff' t14
  (enM prog t12 w fun t15 w =>
  xt 1 t15 w fun t16 w =>
  clV prog (Value.func (Fn.func 22) #[] #[t3]) #[t16] w fun _ w =>
  g1 [] w)
  (ld1 t3 w fun t20 w =>
  K t20 w))
theorem clock_Clocks_Bound_eq (t0 : Value) (w : World) (K : KV) : clock_Clocks_Bound t0 w K = fnW prog 21 [2] (match fn10.body with | some c => c | none => .skip) #[t0] w K := by kernel_rfl
theorem clock_Clocks_Bound_ok : fnOk prog 21 [2] (match fn10.body with | some c => c | none => .skip) = true := by kernel_rfl
theorem clock_Clocks_Bound_calls {t0 : Value} {w : World} {K : KV} (h : clock_Clocks_Bound t0 w K) : Cl prog 10 #[t0] w K :=
  Cl.mk (by kernel_rfl) (calls_of_F (fn := fn10) (nt := 21) (rs := [2]) mixed fnAt10 (by kernel_rfl) (by kernel_rfl) (by kernel_rfl) (Nat.le_of_ble_eq_true (by kernel_rfl)) clock_Clocks_Bound_ok (clock_Clocks_Bound_eq t0 w K) h)

/-- (*paceline/cmb.Node).Hear -/
def cmb_Node_Hear (t0 t1 t2 : Value) (w : World) (K : KV) : Prop :=
  al (Value.cells t2) 38 w fun t5 w =>
  fld 1 t5 w fun t9 w =>
  fld 0 t9 w fun t10 w =>
  fld 0 t10 w fun t11 w =>
  ld1 t11 w fun t12 w =>
  fld 0 t5 w fun t13 w =>
  ld1 t13 w fun t14 w =>
  bi .eql .i64 t14 (Value.int IntKind.i64 2) w fun t16 w =>
  iff' t16
  (ncP t0 <|
  fld 0 t0 w fun t19 w =>
  ld1 t19 w fun t20 w =>
  Cl prog 23 #[t20, t1, t12] w fun t23 w =>
  K t23 w)
  (bi .eql .i64 t14 (Value.int IntKind.i64 0) w fun t25 w =>
  iff' t25
  (ncP t0 <|
  fld 0 t0 w fun t28 w =>
  ld1 t28 w fun t29 w =>
  Cl prog 24 #[t29, t1] w fun t31 w =>
  bi .lss .i64 t31 (Value.int IntKind.i64 0) w fun t34 w =>
  iff' t34
  (K (Value.int IntKind.i64 1) w)
  (bi .lss .i64 t12 t31 w fun t38 w =>
  iff' t38
  (K (Value.int IntKind.i64 110) w)
  (dr w fun w =>
  ncP t0 <|
  fld 1 t0 w fun t41 _ =>
  fld 0 t41 w fun t42 _ =>
  ld1 t42 w fun t43 _ =>
  fld 1 t5 w fun t44 _ =>
  ldN 6 t44 w fun t45 _ =>
  Cl prog 25 #[t43, t45] w fun t46 w =>
  K t46 w)))
  (K (Value.int IntKind.i64 130) w))
theorem cmb_Node_Hear_eq (t0 t1 t2 : Value) (w : World) (K : KV) : cmb_Node_Hear t0 t1 t2 w K = fnW prog 47 [6] (match fn11.body with | some c => c | none => .skip) #[t0, t1, t2] w K := by kernel_rfl
theorem cmb_Node_Hear_ok : fnOk prog 47 [6] (match fn11.body with | some c => c | none => .skip) = true := by kernel_rfl
theorem cmb_Node_Hear_calls {t0 t1 t2 : Value} {w : World} {K : KV} (h : cmb_Node_Hear t0 t1 t2 w K) : Cl prog 11 #[t0, t1, t2] w K :=
  Cl.mk (by kernel_rfl) (calls_of_F (fn := fn11) (nt := 47) (rs := [6]) mixed fnAt11 (by kernel_rfl) (by kernel_rfl) (by kernel_rfl) (Nat.le_of_ble_eq_true (by kernel_rfl)) cmb_Node_Hear_ok (cmb_Node_Hear_eq t0 t1 t2 w K) h)

/-- (*paceline/cmb.Node).Step -/
def cmb_Node_Step (t0 : Value) (w : World) (K : KV) : Prop :=
  al (zeroD prog 51) 51 w fun t2 w =>
  Cl prog 16 #[t0] w fun t12 w =>
  bnot t12 w fun t13 w =>
  iff' t13
  (bld (zeroD prog 51) #[(0, 6), (6, 1)] [] w fun t14 w =>
  stN 7 t2 t14 w fun _ w =>
  ldN 7 t2 w fun r0 _ =>
  K (Value.tuple #[r0, (Value.slice none 0 0), (Value.int IntKind.i64 150)]) w)
  (ncP t0 <|
  fld 1 t0 w fun t18 w =>
  fld 0 t18 w fun t19 w =>
  ld1 t19 w fun t20 w =>
  Cl prog 26 #[t20] w fun t21 w =>
  xt 0 t21 w fun t22 w =>
  xt 1 t21 w fun _ w =>
  al (zeroD prog 36) 36 w fun t5 w =>
  stN 6 t5 t22 w fun _ w =>
  dr w fun w =>
  ncP t0 <|
  fld 2 t0 w fun t27 _ =>
  fld 1 t27 w fun t28 _ =>
  ld1 t28 w fun t29 _ =>
  ncP t0 <|
  fld 5 t0 w fun t32 _ =>
  ld1 t32 w fun t33 _ =>
  ixS 7 t29 t33 w fun t34 _ =>
  fld 3 t34 w fun t35 _ =>
  ld1 t35 w fun t36 _ =>
  ncP t0 <|
  fld 6 t0 w fun t39 _ =>
  ld1 t39 w fun t40 _ =>
  fld 4 t5 w fun t41 _ =>
  ld1 t41 w fun t42 _ =>
  Cl prog 27 #[t36, t40, t42] w fun t43 w =>
  xt 0 t43 w fun t44 _ =>
  xt 1 t43 w fun t45 _ =>
  dr w fun w =>
  ncP t0 <|
  fld 2 t0 w fun t48 _ =>
  ldN 3 t48 w fun t49 _ =>
  ncP t0 <|
  fld 5 t0 w fun t52 _ =>
  ld1 t52 w fun t53 _ =>
  ncP t0 <|
  fld 7 t0 w fun t56 _ =>
  ld1 t56 w fun t57 _ =>
  fld 0 t5 w fun t58 _ =>
  fld 0 t58 w fun t59 _ =>
  ld1 t59 w fun t60 _ =>
  fld 5 t5 w fun t61 _ =>
  ld1 t61 w fun t62 _ =>
  Cl prog 28 #[t49, t53, t57, t60, t62, t45] w fun t64 w =>
  ncP t0 <|
  fld 7 t0 w fun t70 w =>
  ld1 t70 w fun t71 w =>
  lnS t45 w fun t73 w =>
  bi .add .i64 t71 t73 w fun t74 w =>
  ncP t0 <|
  fld 6 t0 w fun t76 w =>
  stN 1 t76 t44 w fun _ w =>
  ncP t0 <|
  fld 7 t0 w fun t78 w =>
  stN 1 t78 t74 w fun _ w =>
  ldN 6 t5 w fun t79 w =>
  bld (zeroD prog 51) #[(0, 6), (6, 1)] [(0, t79), (1, t44)] w fun t81 w =>
  al (zeroD prog 51) 51 w fun t10 w =>
  stN 7 t10 t81 w fun _ w =>
  dr w fun w =>
  ncP t0 <|
  fld 8 t0 w fun t85 _ =>
  ld1 t85 w fun t86 _ =>
  ldN 7 t10 w fun t87 _ =>
  bsl 51 7 1 (zeroD prog 51) [(0, t87)] w fun t88 w =>
  (ld1 t85 w (fun v' w'' => v' = t86 ∧ w'' = w)) ∧ (apS prog #[46, 46] 46 t86 t88 w fun t89 w =>
  ncP t0 <|
  fld 8 t0 w fun t91 _ =>
  stN 1 t91 t89 w fun _ w =>
  ldN 7 t10 w fun t92 w =>
  stN 7 t2 t92 w fun _ w =>
  ldN 7 t2 w fun r0 _ =>
  K (Value.tuple #[r0, t64, (Value.int IntKind.i64 0)]) w))
theorem cmb_Node_Step_eq (t0 : Value) (w : World) (K : KV) : cmb_Node_Step t0 w K = fnWC prog 94 [(2, some 51), (3, none), (4, none)] (match fn12.body with | some c => c | none => .skip) #[t0] w K := by kernel_rfl
theorem cmb_Node_Step_ok : fnOkC prog 94 [(2, some 51), (3, none), (4, none)] (match fn12.body with | some c => c | none => .skip) = true := by kernel_rfl
theorem cmb_Node_Step_calls {t0 : Value} {w : World} {K : KV} (h : cmb_Node_Step t0 w K) : Cl prog 12 #[t0] w K :=
  Cl.mk (by kernel_rfl) (calls_of_FC (fn := fn12) (nt := 94) (rs := [(2, some 51), (3, none), (4, none)]) mixed fnAt12 (by kernel_rfl) (by kernel_rfl) (by kernel_rfl) (Nat.le_of_ble_eq_true (by kernel_rfl)) cmb_Node_Step_ok (cmb_Node_Step_eq t0 w K) h)

/-- (*paceline/cmb.Node).Log -/
def cmb_Node_Log (t0 : Value) (w : World) (K : KV) : Prop :=
  ncP t0 <|
  fld 8 t0 w fun t5 w =>
  ld1 t5 w fun t6 w =>
  Cl prog 29 #[t6] w fun t7 w =>
  K t7 w
theorem cmb_Node_Log_eq (t0 : Value) (w : World) (K : KV) : cmb_Node_Log t0 w K = fnW prog 8 [2] (match fn13.body with | some c => c | none => .skip) #[t0] w K := by kernel_rfl
theorem cmb_Node_Log_ok : fnOk prog 8 [2] (match fn13.body with | some c => c | none => .skip) = true := by kernel_rfl
theorem cmb_Node_Log_calls {t0 : Value} {w : World} {K : KV} (h : cmb_Node_Log t0 w K) : Cl prog 13 #[t0] w K :=
  Cl.mk (by kernel_rfl) (calls_of_F (fn := fn13) (nt := 8) (rs := [2]) mixed fnAt13 (by kernel_rfl) (by kernel_rfl) (by kernel_rfl) (Nat.le_of_ble_eq_true (by kernel_rfl)) cmb_Node_Log_ok (cmb_Node_Log_eq t0 w K) h)

/-- paceline/pacelineref01.Cmp -/
def pacelineref01_Cmp (t0 t1 : Value) (w : World) (K : KV) : Prop :=
  al (Value.cells t0) 34 w fun t2 w =>
  al (Value.cells t1) 34 w fun t3 w =>
  ldN 3 t2 w fun t5 w =>
  ldN 3 t3 w fun t6 w =>
  bO prog .eql 34 (Operand.tmp 5) (Operand.tmp 6) t5 t6 w fun t7 w =>
  iff' t7
  (K (Value.int IntKind.i64 0) w)
  (fld 0 t2 w fun t8 w =>
  ld1 t8 w fun t9 w =>
  fld 0 t3 w fun t10 w =>
  ld1 t10 w fun t11 w =>
  bi .lss .i64 t9 t11 w fun t12 w =>
  gd t12 false (fun k => fld 0 t2 w k) w fun t14 w =>
  gd t12 false (fun k => ld1 t14 w k) w fun t15 w =>
  gd t12 false (fun k => fld 0 t3 w k) w fun t16 w =>
  gd t12 false (fun k => ld1 t16 w k) w fun t17 w =>
  gd t12 false (fun k => bi .eql .i64 t15 t17 w k) w fun t18 w =>
  gd t12 false (fun k => k t18 w) w fun t19 w =>
  gd t19 true (fun k => fld 1 t2 w k) w fun t20 w =>
  gd t19 true (fun k => ld1 t20 w k) w fun t21 w =>
  gd t19 true (fun k => fld 1 t3 w k) w fun t22 w =>
  gd t19 true (fun k => ld1 t22 w k) w fun t23 w =>
  gd t19 true (fun k => bi .lss .i64 t21 t23 w k) w fun t24 w =>
  gd t12 false (fun k => pk t19 t24 (Value.bool false) w k) w fun t25 w =>
  pk t12 (Value.bool true) t25 w fun t26 w =>
  gd t26 false (fun k => fld 0 t2 w k) w fun t28 w =>
  gd t26 false (fun k => ld1 t28 w k) w fun t29 w =>
  gd t26 false (fun k => fld 0 t3 w k) w fun t30 w =>
  gd t26 false (fun k => ld1 t30 w k) w fun t31 w =>
  gd t26 false (fun k => bi .eql .i64 t29 t31 w k) w fun t32 w =>
  gd t26 false (fun k => k t32 w) w fun t33 w =>
  gd t33 true (fun k => fld 1 t2 w k) w fun t34 w =>
  gd t33 true (fun k => ld1 t34 w k) w fun t35 w =>
  gd t33 true (fun k => fld 1 t3 w k) w fun t36 w =>
  gd t33 true (fun k => ld1 t36 w k) w fun t37 w =>
  gd t33 true (fun k => bi .eql .i64 t35 t37 w k) w fun t38 w =>
  gd t26 false (fun k => pk t33 t38 (Value.bool false) w k) w fun t39 w =>
  gd t26 false (fun k => k t39 w) w fun t40 w =>
  gd t40 true (fun k => fld 2 t2 w k) w fun t41 w =>
  gd t40 true (fun k => ld1 t41 w k) w fun t42 w =>
  gd t40 true (fun k => fld 2 t3 w k) w fun t43 w =>
  gd t40 true (fun k => ld1 t43 w k) w fun t44 w =>
  gd t40 true (fun k => bi .lss .i64 t42 t44 w k) w fun t45 w =>
  gd t26 false (fun k => pk t40 t45 (Value.bool false) w k) w fun t46 w =>
  pk t26 (Value.bool true) t46 w fun t47 w =>
  iff' t47
  (K (Value.int IntKind.i64 (-1)) w)
  (K (Value.int IntKind.i64 1) w))
theorem pacelineref01_Cmp_eq (t0 t1 : Value) (w : World) (K : KV) : pacelineref01_Cmp t0 t1 w K = fnW prog 48 [4] (match fn14.body with | some c => c | none => .skip) #[t0, t1] w K := by kernel_rfl
theorem pacelineref01_Cmp_ok : fnOk prog 48 [4] (match fn14.body with | some c => c | none => .skip) = true := by kernel_rfl
theorem pacelineref01_Cmp_calls {t0 t1 : Value} {w : World} {K : KV} (h : pacelineref01_Cmp t0 t1 w K) : Cl prog 14 #[t0, t1] w K :=
  Cl.mk (by kernel_rfl) (calls_of_F (fn := fn14) (nt := 48) (rs := [4]) mixed fnAt14 (by kernel_rfl) (by kernel_rfl) (by kernel_rfl) (Nat.le_of_ble_eq_true (by kernel_rfl)) pacelineref01_Cmp_ok (pacelineref01_Cmp_eq t0 t1 w K) h)

/-- (*paceline/cmb.Node).Tell -/
def cmb_Node_Tell (t0 : Value) (w : World) (K : KV) : Prop :=
  ncP t0 <|
  fld 1 t0 w fun t10 w =>
  ldN 1 t10 w fun t11 w =>
  Cl prog 30 #[t11] w fun t12 w =>
  xt 0 t12 w fun t13 w =>
  xt 1 t12 w fun t14 w =>
  al (zeroD prog 36) 36 w fun t5 w =>
  stN 6 t5 t13 w fun _ w =>
  J1 (fun t4 w =>
  dr w fun w =>
  ncP t0 <|
  fld 0 t0 w fun t21 _ =>
  ld1 t21 w fun t22 _ =>
  ncP t0 <|
  fld 2 t0 w fun t26 _ =>
  fld 1 t26 w fun t27 _ =>
  ld1 t27 w fun t28 _ =>
  ncP t0 <|
  fld 5 t0 w fun t31 _ =>
  ld1 t31 w fun t32 _ =>
  ixS 7 t28 t32 w fun t33 _ =>
  fld 1 t33 w fun t34 _ =>
  ld1 t34 w fun t35 _ =>
  Cl prog 31 #[t22, t4, t35] w fun t36 w =>
  xt 0 t36 w fun t37 _ =>
  xt 1 t36 w fun t38 _ =>
  K (Value.tuple #[t37, t38]) w) fun k1 =>
  iff' t14
  (fld 0 t5 w fun t16 w =>
  fld 0 t16 w fun t17 w =>
  ld1 t17 w fun t18 w =>
  k1 t18 w)
  (k1 (Value.int IntKind.i64 1125899906842624) w)
theorem cmb_Node_Tell_eq (t0 : Value) (w : World) (K : KV) : cmb_Node_Tell t0 w K = fnW prog 39 [2, 3] (match fn15.body with | some c => c | none => .skip) #[t0] w K := by kernel_rfl
theorem cmb_Node_Tell_ok : fnOk prog 39 [2, 3] (match fn15.body with | some c => c | none => .skip) = true := by kernel_rfl
theorem cmb_Node_Tell_calls {t0 : Value} {w : World} {K : KV} (h : cmb_Node_Tell t0 w K) : Cl prog 15 #[t0] w K :=
  Cl.mk (by kernel_rfl) (calls_of_F (fn := fn15) (nt := 39) (rs := [2, 3]) mixed fnAt15 (by kernel_rfl) (by kernel_rfl) (by kernel_rfl) (Nat.le_of_ble_eq_true (by kernel_rfl)) cmb_Node_Tell_ok (cmb_Node_Tell_eq t0 w K) h)

/-- (*paceline/cmb.Node).Safe -/
def cmb_Node_Safe (t0 : Value) (w : World) (K : KV) : Prop :=
  ncP t0 <|
  fld 1 t0 w fun t8 w =>
  ldN 1 t8 w fun t9 w =>
  Cl prog 30 #[t9] w fun t10 w =>
  xt 0 t10 w fun t11 w =>
  xt 1 t10 w fun t12 w =>
  al (zeroD prog 36) 36 w fun t3 w =>
  stN 6 t3 t11 w fun _ w =>
  dr w fun w =>
  gd t12 true (fun k => fld 0 t3 w k) w fun t15 _ =>
  gd t12 true (fun k => fld 0 t15 w k) w fun t16 _ =>
  gd t12 true (fun k => ld1 t16 w k) w fun t17 _ =>
  gd t12 true (fun k => k t0 w) w fun t18 _ =>
  gd t12 true (fun k => nc t18 w k) w fun t19 _ =>
  gd t12 true (fun k => fld 2 t19 w k) w fun t20 _ =>
  gd t12 true (fun k => fld 2 t20 w k) w fun t21 _ =>
  gd t12 true (fun k => ld1 t21 w k) w fun t22 _ =>
  gd t12 true (fun k => k t0 w) w fun t23 _ =>
  gd t12 true (fun k => nc t23 w k) w fun t24 _ =>
  gd t12 true (fun k => fld 0 t24 w k) w fun t25 _ =>
  gd t12 true (fun k => ld1 t25 w k) w fun t26 _ =>
  gd t12 true (fun k => Cl prog 10 #[t26] w k) w fun t27 w =>
  (gd t12 true (fun k => ld1 t21 w k) w (fun v' w'' => v' = t22 ∧ w'' = w)) ∧ ((gd t12 true (fun k => ld1 t16 w k) w (fun v' w'' => v' = t17 ∧ w'' = w)) ∧ (gd t12 true (fun k => mnI .i64 t22 t27 w k) w fun t28 w =>
  (gd t12 true (fun k => ld1 t16 w k) w (fun v' w'' => v' = t17 ∧ w'' = w)) ∧ (gd t12 true (fun k => bi .lss .i64 t17 t28 w k) w fun t29 _ =>
  pk t12 t29 (Value.bool false) w fun t30 _ =>
  K t30 w)))
theorem cmb_Node_Safe_eq (t0 : Value) (w : World) (K : KV) : cmb_Node_Safe t0 w K = fnW prog 31 [2] (match fn16.body with | some c => c | none => .skip) #[t0] w K := by kernel_rfl
theorem cmb_Node_Safe_ok : fnOk prog 31 [2] (match fn16.body with | some c => c | none => .skip) = true := by kernel_rfl
theorem cmb_Node_Safe_calls {t0 : Value} {w : World} {K : KV} (h : cmb_Node_Safe t0 w K) : Cl prog 16 #[t0] w K :=
  Cl.mk (by kernel_rfl) (calls_of_F (fn := fn16) (nt := 31) (rs := [2]) mixed fnAt16 (by kernel_rfl) (by kernel_rfl) (by kernel_rfl) (Nat.le_of_ble_eq_true (by kernel_rfl)) cmb_Node_Safe_ok (cmb_Node_Safe_eq t0 w K) h)

/-- (paceline/cmb.queue).Waiting -/
def cmb_queue_Waiting (t0 : Value) (w : World) (K : KV) : Prop :=
  al (Value.cells t0) 45 w fun t1 w =>
  fld 0 t1 w fun t3 w =>
  ld1 t3 w fun t4 w =>
  Cl prog 32 #[t4] w fun t5 w =>
  K t5 w
theorem cmb_queue_Waiting_eq (t0 : Value) (w : World) (K : KV) : cmb_queue_Waiting t0 w K = fnW prog 6 [2] (match fn17.body with | some c => c | none => .skip) #[t0] w K := by kernel_rfl
theorem cmb_queue_Waiting_ok : fnOk prog 6 [2] (match fn17.body with | some c => c | none => .skip) = true := by kernel_rfl
theorem cmb_queue_Waiting_calls {t0 : Value} {w : World} {K : KV} (h : cmb_queue_Waiting t0 w K) : Cl prog 17 #[t0] w K :=
  Cl.mk (by kernel_rfl) (calls_of_F (fn := fn17) (nt := 6) (rs := [2]) mixed fnAt17 (by kernel_rfl) (by kernel_rfl) (by kernel_rfl) (Nat.le_of_ble_eq_true (by kernel_rfl)) cmb_queue_Waiting_ok (cmb_queue_Waiting_eq t0 w K) h)

/-- paceline/config.Check -/
def config_Check (t0 : Value) (w : World) (K : KV) : Prop :=
  al (Value.cells t0) 31 w fun t1 w =>
  fld 2 t1 w fun t9 w =>
  ld1 t9 w fun t10 w =>
  Cl prog 37 #[t10, (Value.int IntKind.i64 0), (Value.int IntKind.i64 1099511627776)] w fun t11 w =>
  gd t11 true (fun k => fld 1 t1 w k) w fun t13 w =>
  gd t11 true (fun k => ld1 t13 w k) w fun t14 w =>
  gd t11 true (fun k => lnS t14 w k) w fun t15 w =>
  gd t11 true (fun k => Cl prog 37 #[t15, (Value.int IntKind.i64 1), (Value.int IntKind.i64 8)] w k) w fun t16 w =>
  pk t11 t16 (Value.bool false) w fun t17 w =>
  Cl prog 36 #[t17, (Value.int IntKind.i64 1)] w fun t18 w =>
  bsl 94 1 2 (zeroD prog 94) [(0, (Value.func (Fn.func 34) #[] #[t1])), (1, t18)] w fun t19 w =>
  Cl prog 33 #[t19] w fun t20 w =>
  bi .neq .i64 t20 (Value.int IntKind.i64 0) w fun t22 w =>
  iff' t22
  (K (Value.tuple #[(Value.int IntKind.i64 (-1)), t20]) w)
  (fld 1 t1 w fun t24 w =>
  ld1 t24 w fun t25 w =>
  lnS t25 w fun t26 w =>
  lp [(Value.int IntKind.i64 0)] w (b1 fun t27 w g1 =>
  bi .lss .i64 t27 t26 w fun t28 w =>
  iff' t28
  (ixS 7 t25 t27 w fun t30 w =>
  ldN 7 t30 w fun t31 w =>
  al (zeroD prog 69) 69 w fun t6 w =>
  stN 7 t6 t31 w fun _ w =>
  ldN 7 t6 w fun t32 w =>
  fld 0 t1 w fun t33 w =>
  ld1 t33 w fun t34 w =>
  lnS t34 w fun t35 w =>
  Cl prog 38 #[t32, t35] w fun t36 w =>
  bi .neq .i64 t36 (Value.int IntKind.i64 0) w fun t38 w =>
  iff' t38
  (K (Value.tuple #[t27, t36]) w)
  (bi .add .i64 t27 (Value.int IntKind.i64 1) w fun t41 w =>
  g1 [t41] w))
  (K (Value.tuple #[(Value.int IntKind.i64 (-1)), (Value.int IntKind.i64 0)]) w)))
theorem config_Check_eq (t0 : Value) (w : World) (K : KV) : config_Check t0 w K = fnW prog 42 [2, 3] (match fn18.body with | some c => c | none => .skip) #[t0] w K := by kernel_rfl
theorem config_Check_ok : fnOk prog 42 [2, 3] (match fn18.body with | some c => c | none => .skip) = true := by kernel_rfl
theorem config_Check_calls {t0 : Value} {w : World} {K : KV} (h : config_Check t0 w K) : Cl prog 18 #[t0] w K :=
  Cl.mk (by kernel_rfl) (calls_of_F (fn := fn18) (nt := 42) (rs := [2, 3]) mixed fnAt18 (by kernel_rfl) (by kernel_rfl) (by kernel_rfl) (Nat.le_of_ble_eq_true (by kernel_rfl)) config_Check_ok (config_Check_eq t0 w K) h)

/-- paceline/clock.New -/
def clock_New (t0 t1 : Value) (w : World) (K : KV) : Prop :=
  bi .lss .i64 t0 (Value.int IntKind.i64 1) w fun t9 w =>
  gd t9 false (fun k => k t0 w) w fun t11 w =>
  gd t9 false (fun k => bi .gtr .i64 t11 (Value.int IntKind.i64 8) w k) w fun t12 w =>
  pk t9 (Value.bool true) t12 w fun t13 w =>
  gd t13 false (fun k => k t1 w) w fun t15 w =>
  gd t13 false (fun k => bi .lss .i64 t15 (Value.int IntKind.i64 0) w k) w fun t16 w =>
  pk t13 (Value.bool true) t16 w fun t17 w =>
  gd t17 false (fun k => k t1 w) w fun t19 w =>
  gd t17 false (fun k => k t0 w) w fun t20 w =>
  gd t17 false (fun k => bi .geq .i64 t19 t20 w k) w fun t21 w =>
  pk t17 (Value.bool true) t21 w fun t22 w =>
  iff' t22
  (K (Value.tuple #[(Value.pointer none), (Value.int IntKind.i64 1)]) w)
  (mkMap w fun t23 w =>
  bld (zeroD prog 81) #[(0, 1), (1, 1)] [(0, t23)] w fun t24 w =>
  al (Value.cells t24) 81 w fun t25 w =>
  lp [(Value.int IntKind.i64 0)] w (b1 fun t27 w g1 =>
  bi .lss .i64 t27 t0 w fun t28 w =>
  iff' t28
  (J0 (fun w =>
  bi .add .i64 t27 (Value.int IntKind.i64 1) w fun t38 w =>
  g1 [t38] w) fun k2 =>
  bi .neq .i64 t27 t1 w fun t32 w =>
  iff' t32
  (ncP t25 <|
  fld 0 t25 w fun t35 w =>
  ld1 t35 w fun t36 w =>
  upM prog 79 t36 t27 (Value.int IntKind.i64 0) w fun _ w =>
  k2 w)
  (k2 w))
  (K (Value.tuple #[t25, (Value.int IntKind.i64 0)]) w)))
theorem clock_New_eq (t0 t1 : Value) (w : World) (K : KV) : clock_New t0 t1 w K = fnW prog 40 [4, 5] (match fn19.body with | some c => c | none => .skip) #[t0, t1] w K := by kernel_rfl
theorem clock_New_ok : fnOk prog 40 [4, 5] (match fn19.body with | some c => c | none => .skip) = true := by kernel_rfl
theorem clock_New_calls {t0 t1 : Value} {w : World} {K : KV} (h : clock_New t0 t1 w K) : Cl prog 19 #[t0, t1] w K :=
  Cl.mk (by kernel_rfl) (calls_of_F (fn := fn19) (nt := 40) (rs := [4, 5]) mixed fnAt19 (by kernel_rfl) (by kernel_rfl) (by kernel_rfl) (Nat.le_of_ble_eq_true (by kernel_rfl)) clock_New_ok (clock_New_eq t0 t1 w K) h)

/-- paceline/prio.New -/
def prio_New (t0 : Value) (w : World) (K : KV) : Prop :=
  mnI .i64 t0 (Value.int IntKind.i64 64) w fun t4 w =>
  mxI .i64 (Value.int IntKind.i64 0) t4 w fun t5 w =>
  mkMap w fun t6 w =>
  bld (zeroD prog 100) #[(0, 1), (1, 1), (2, 1)] [(0, t5), (2, t6)] w fun t7 w =>
  al (Value.cells t7) 100 w fun t8 w =>
  K t8 w
theorem prio_New_eq (t0 : Value) (w : World) (K : KV) : prio_New t0 w K = fnW prog 9 [2] (match fn20.body with | some c => c | none => .skip) #[t0] w K := by kernel_rfl
theorem prio_New_ok : fnOk prog 9 [2] (match fn20.body with | some c => c | none => .skip) = true := by kernel_rfl
theorem prio_New_calls {t0 : Value} {w : World} {K : KV} (h : prio_New t0 w K) : Cl prog 20 #[t0] w K :=
  Cl.mk (by kernel_rfl) (calls_of_F (fn := fn20) (nt := 9) (rs := [2]) mixed fnAt20 (by kernel_rfl) (by kernel_rfl) (by kernel_rfl) (Nat.le_of_ble_eq_true (by kernel_rfl)) prio_New_ok (prio_New_eq t0 w K) h)

/-- paceline/cmb.copied -/
def cmb_copied (t0 : Value) (w : World) (K : KV) : Prop :=
  al (Value.cells t0) 31 w fun t1 w =>
  al (zeroD prog 31) 31 w fun t2 w =>
  fld 0 t1 w fun t6 w =>
  ld1 t6 w fun t7 w =>
  Cl prog 39 #[t7] w fun t8 w =>
  fld 0 t1 w fun t9 w =>
  stN 1 t9 t8 w fun _ w =>
  fld 1 t1 w fun t10 w =>
  ld1 t10 w fun t11 w =>
  Cl prog 40 #[t11] w fun t12 w =>
  fld 1 t1 w fun t13 w =>
  stN 1 t13 t12 w fun _ w =>
  fld 1 t1 w fun t14 w =>
  ld1 t14 w fun t15 w =>
  lnS t15 w fun t16 w =>
  lp [(Value.int IntKind.i64 0)] w (b1 fun t17 w g1 =>
  bi .lss .i64 t17 t16 w fun t18 w =>
  iff' t18
  (fld 1 t1 w fun t20 w =>
  ld1 t20 w fun t21 w =>
  ixS 7 t21 t17 w fun t23 w =>
  dr w fun w =>
  ncP t23 <|
  fld 4 t23 w fun t30 _ =>
  ld1 t30 w fun t31 _ =>
  ncP t23 <|
  fld 5 t23 w fun t35 _ =>
  ld1 t35 w fun t36 _ =>
  ncP t23 <|
  fld 6 t23 w fun t40 _ =>
  ld1 t40 w fun t41 _ =>
  ncP t23 <|
  fld 3 t23 w fun t45 _ =>
  ld1 t45 w fun t46 _ =>
  Cl prog 39 #[t31] w fun t32 w =>
  (ld1 t45 w (fun v' w'' => v' = t46 ∧ w'' = w)) ∧ ((ld1 t40 w (fun v' w'' => v' = t41 ∧ w'' = w)) ∧ ((ld1 t35 w (fun v' w'' => v' = t36 ∧ w'' = w)) ∧ (Cl prog 39 #[t36] w fun t37 w =>
  (ld1 t45 w (fun v' w'' => v' = t46 ∧ w'' = w)) ∧ ((ld1 t40 w (fun v' w'' => v' = t41 ∧ w'' = w)) ∧ (Cl prog 41 #[t41] w fun t42 w =>
  (ld1 t45 w (fun v' w'' => v' = t46 ∧ w'' = w)) ∧ (Cl prog 42 #[t46] w fun t47 w =>
  ncP t23 <|
  fld 4 t23 w fun t49 _ =>
  stN 1 t49 t32 w fun _ w =>
  ncP t23 <|
  fld 5 t23 w fun t51 _ =>
  stN 1 t51 t37 w fun _ w =>
  ncP t23 <|
  fld 6 t23 w fun t53 _ =>
  stN 1 t53 t42 w fun _ w =>
  ncP t23 <|
  fld 3 t23 w fun t55 _ =>
  stN 1 t55 t47 w fun _ w =>
  ncP t23 <|
  fld 3 t23 w fun t58 w =>
  ld1 t58 w fun t59 w =>
  lnS t59 w fun t60 w =>
  lp [(Value.int IntKind.i64 0)] w (b1 fun t61 w g2 =>
  bi .lss .i64 t61 t60 w fun t62 w =>
  iff' t62
  (dr w fun w =>
  ncP t23 <|
  fld 3 t23 w fun t66 _ =>
  ld1 t66 w fun t67 _ =>
  ncP t23 <|
  fld 3 t23 w fun t71 _ =>
  ld1 t71 w fun t72 _ =>
  ixS 4 t72 t61 w fun t74 _ =>
  fld 3 t74 w fun t75 _ =>
  ld1 t75 w fun t76 _ =>
  Cl prog 41 #[t76] w fun t77 w =>
  (ld1 t66 w (fun v' w'' => v' = t67 ∧ w'' = w)) ∧ (ixS 4 t67 t61 w fun t78 _ =>
  fld 3 t78 w fun t79 _ =>
  stN 1 t79 t77 w fun _ w =>
  bi .add .i64 t61 (Value.int IntKind.i64 1) w fun t80 w =>
  g2 [t80] w))
  (bi .add .i64 t17 (Value.int IntKind.i64 1) w fun t81 w =>
  g1 [t81] w)))))))))
  (ldN 3 t1 w fun t82 w =>
  stN 3 t2 t82 w fun _ w =>
  ldN 3 t2 w fun r0 _ =>
  K r0 w))
theorem cmb_copied_eq (t0 : Value) (w : World) (K : KV) : cmb_copied t0 w K = fnWC prog 83 [(2, some 31)] (match fn21.body with | some c => c | none => .skip) #[t0] w K := by kernel_rfl
theorem cmb_copied_ok : fnOkC prog 83 [(2, some 31)] (match fn21.body with | some c => c | none => .skip) = true := by kernel_rfl
theorem cmb_copied_calls {t0 : Value} {w : World} {K : KV} (h : cmb_copied t0 w K) : Cl prog 21 #[t0] w K :=
  Cl.mk (by kernel_rfl) (calls_of_FC (fn := fn21) (nt := 83) (rs := [(2, some 31)]) mixed fnAt21 (by kernel_rfl) (by kernel_rfl) (by kernel_rfl) (Nat.le_of_ble_eq_true (by kernel_rfl)) cmb_copied_ok (cmb_copied_eq t0 w K) h)

/-- (*paceline/clock.Clocks).Bound$1 -/
def clock_Clocks_Bound_1 (t0 t1 : Value) (w : World) (K : KV) : Prop :=
  ld1 t1 w fun t3 w =>
  mnI .i64 t3 t0 w fun t5 w =>
  stN 1 t1 t5 w fun _ w =>
  K (Value.tuple #[]) w
theorem clock_Clocks_Bound_1_eq (t0 t1 : Value) (w : World) (K : KV) : clock_Clocks_Bound_1 t0 t1 w K = fnW prog 6 [] (match fn22.body with | some c => c | none => .skip) #[t0, t1] w K := by kernel_rfl
theorem clock_Clocks_Bound_1_ok : fnOk prog 6 [] (match fn22.body with | some c => c | none => .skip) = true := by kernel_rfl
theorem clock_Clocks_Bound_1_calls {t0 t1 : Value} {w : World} {K : KV} (h : clock_Clocks_Bound_1 t0 t1 w K) : Cl prog 22 #[t0, t1] w K :=
  Cl.mk (by kernel_rfl) (calls_of_F (fn := fn22) (nt := 6) (rs := []) mixed fnAt22 (by kernel_rfl) (by kernel_rfl) (by kernel_rfl) (Nat.le_of_ble_eq_true (by kernel_rfl)) clock_Clocks_Bound_1_ok (clock_Clocks_Bound_1_eq t0 t1 w K) h)

/-- (*paceline/clock.Clocks).Hear -/
def clock_Clocks_Hear (t0 t1 t2 : Value) (w : World) (K : KV) : Prop :=
  ncP t0 <|
  fld 0 t0 w fun t12 w =>
  ld1 t12 w fun t13 w =>
  lkM prog 79 t13 t1 true w fun t15 w =>
  xt 0 t15 w fun t16 w =>
  xt 1 t15 w fun t17 w =>
  bnot t17 w fun t20 w =>
  gd t20 false (fun k => k t2 w) w fun t22 w =>
  gd t20 false (fun k => Cl prog 43 #[t22] w k) w fun t23 w =>
  gd t20 false (fun k => bnot t23 w k) w fun t24 w =>
  pk t20 (Value.bool true) t24 w fun t25 w =>
  iff' t25
  (K (Value.int IntKind.i64 1) w)
  (bi .lss .i64 t2 t16 w fun t29 w =>
  iff' t29
  (K (Value.int IntKind.i64 110) w)
  (ncP t0 <|
  fld 0 t0 w fun t32 w =>
  ld1 t32 w fun t33 w =>
  upM prog 79 t33 t1 t2 w fun _ w =>
  K (Value.int IntKind.i64 0) w))
theorem clock_Clocks_Hear_eq (t0 t1 t2 : Value) (w : World) (K : KV) : clock_Clocks_Hear t0 t1 t2 w K = fnW prog 36 [6] (match fn23.body with | some c => c | none => .skip) #[t0, t1, t2] w K := by kernel_rfl
theorem clock_Clocks_Hear_ok : fnOk prog 36 [6] (match fn23.body with | some c => c | none => .skip) = true := by kernel_rfl
theorem clock_Clocks_Hear_calls {t0 t1 t2 : Value} {w : World} {K : KV} (h : clock_Clocks_Hear t0 t1 t2 w K) : Cl prog 23 #[t0, t1, t2] w K :=
  Cl.mk (by kernel_rfl) (calls_of_F (fn := fn23) (nt := 36) (rs := [6]) mixed fnAt23 (by kernel_rfl) (by kernel_rfl) (by kernel_rfl) (Nat.le_of_ble_eq_true (by kernel_rfl)) clock_Clocks_Hear_ok (clock_Clocks_Hear_eq t0 t1 t2 w K) h)

/-- (*paceline/clock.Clocks).At -/
def clock_Clocks_At (t0 t1 : Value) (w : World) (K : KV) : Prop :=
  ncP t0 <|
  fld 0 t0 w fun t10 w =>
  ld1 t10 w fun t11 w =>
  lkM prog 79 t11 t1 true w fun t13 w =>
  xt 0 t13 w fun t14 w =>
  xt 1 t13 w fun t15 w =>
  iff' t15
  (K t14 w)
  (K (Value.int IntKind.i64 (-1)) w)
theorem clock_Clocks_At_eq (t0 t1 : Value) (w : World) (K : KV) : clock_Clocks_At t0 t1 w K = fnW prog 18 [4] (match fn24.body with | some c => c | none => .skip) #[t0, t1] w K := by kernel_rfl
theorem clock_Clocks_At_ok : fnOk prog 18 [4] (match fn24.body with | some c => c | none => .skip) = true := by kernel_rfl
theorem clock_Clocks_At_calls {t0 t1 : Value} {w : World} {K : KV} (h : clock_Clocks_At t0 t1 w K) : Cl prog 24 #[t0, t1] w K :=
  Cl.mk (by kernel_rfl) (calls_of_F (fn := fn24) (nt := 18) (rs := [4]) mixed fnAt24 (by kernel_rfl) (by kernel_rfl) (by kernel_rfl) (Nat.le_of_ble_eq_true (by kernel_rfl)) clock_Clocks_At_ok (clock_Clocks_At_eq t0 t1 w K) h)

/-- (*paceline/prio.Queue).Push -/
def prio_Queue_Push (t0 t1 : Value) (w : World) (K : KV) : Prop :=
  al (Value.cells t1) 36 w fun t3 w =>
  dr w fun w =>
  ncP t0 <|
  fld 2 t0 w fun t10 _ =>
  ld1 t10 w fun t11 _ =>
  fld 0 t3 w fun t12 _ =>
  ldN 3 t12 w fun t13 _ =>
  lkM prog 98 t11 t13 true w fun t14 w =>
  xt 0 t14 w fun _ _ =>
  xt 1 t14 w fun t16 _ =>
  iff' t16
  (K (Value.int IntKind.i64 3) w)
  (dr w fun w =>
  ncP t0 <|
  fld 1 t0 w fun t20 _ =>
  ld1 t20 w fun t21 _ =>
  lnS t21 w fun t22 _ =>
  ncP t0 <|
  fld 0 t0 w fun t25 _ =>
  ld1 t25 w fun t26 _ =>
  bi .geq .i64 t22 t26 w fun t27 _ =>
  iff' t27
  (K (Value.int IntKind.i64 2) w)
  (bld (zeroD prog 109) #[(0, 1)] [(0, t0)] w fun t29 w =>
  ldN 6 t3 w fun t31 w =>
  Cl prog 44 #[(Value.iface 109 t29), (Value.iface 36 t31)] w fun _ w =>
  K (Value.int IntKind.i64 0) w))
theorem prio_Queue_Push_eq (t0 t1 : Value) (w : World) (K : KV) : prio_Queue_Push t0 t1 w K = fnW prog 34 [4] (match fn25.body with | some c => c | none => .skip) #[t0, t1] w K := by kernel_rfl
theorem prio_Queue_Push_ok : fnOk prog 34 [4] (match fn25.body with | some c => c | none => .skip) = true := by kernel_rfl
theorem prio_Queue_Push_calls {t0 t1 : Value} {w : World} {K : KV} (h : prio_Queue_Push t0 t1 w K) : Cl prog 25 #[t0, t1] w K :=
  Cl.mk (by kernel_rfl) (calls_of_F (fn := fn25) (nt := 34) (rs := [4]) mixed fnAt25 (by kernel_rfl) (by kernel_rfl) (by kernel_rfl) (Nat.le_of_ble_eq_true (by kernel_rfl)) prio_Queue_Push_ok (prio_Queue_Push_eq t0 t1 w K) h)

/-- (*paceline/prio.Queue).Pop -/
def prio_Queue_Pop (t0 : Value) (w : World) (K : KV) : Prop :=
  al (zeroD prog 36) 36 w fun t2 w =>
  ncP t0 <|
  fld 1 t0 w fun t6 w =>
  ld1 t6 w fun t7 w =>
  lnS t7 w fun t8 w =>
  bi .eql .i64 t8 (Value.int IntKind.i64 0) w fun t9 w =>
  iff' t9
  (bld (zeroD prog 36) #[(0, 3), (3, 1), (4, 1), (5, 1)] [] w fun t10 w =>
  stN 6 t2 t10 w fun _ w =>
  ldN 6 t2 w fun r0 _ =>
  K (Value.tuple #[r0, (Value.bool false)]) w)
  (bld (zeroD prog 109) #[(0, 1)] [(0, t0)] w fun t12 w =>
  Cl prog 45 #[(Value.iface 109 t12)] w fun t14 w =>
  tyA prog t14 20 36 false w fun t15 w =>
  stN 6 t2 t15 w fun _ w =>
  ldN 6 t2 w fun r0 _ =>
  K (Value.tuple #[r0, (Value.bool true)]) w)
theorem prio_Queue_Pop_eq (t0 : Value) (w : World) (K : KV) : prio_Queue_Pop t0 w K = fnWC prog 16 [(2, some 36), (3, none)] (match fn26.body with | some c => c | none => .skip) #[t0] w K := by kernel_rfl
theorem prio_Queue_Pop_ok : fnOkC prog 16 [(2, some 36), (3, none)] (match fn26.body with | some c => c | none => .skip) = true := by kernel_rfl
theorem prio_Queue_Pop_calls {t0 : Value} {w : World} {K : KV} (h : prio_Queue_Pop t0 w K) : Cl prog 26 #[t0] w K :=
  Cl.mk (by kernel_rfl) (calls_of_FC (fn := fn26) (nt := 16) (rs := [(2, some 36), (3, none)]) mixed fnAt26 (by kernel_rfl) (by kernel_rfl) (by kernel_rfl) (Nat.le_of_ble_eq_true (by kernel_rfl)) prio_Queue_Pop_ok (prio_Queue_Pop_eq t0 w K) h)

end Go.Proofs.Ytenglfaeohgkfaa
