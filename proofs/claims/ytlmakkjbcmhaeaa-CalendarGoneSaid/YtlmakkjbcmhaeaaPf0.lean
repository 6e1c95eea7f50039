/- Printed by prt.py: the Go functions of this seat as shallow predicate transformers. Conditions: none. -/
import Derived.Test.YtlmakkjbcmhaeaaEngO
import Derived.Test.YtlmakkjbcmhaeaaPfHead
import Derived.KernelRfl
namespace Go.Proofs.Ytlmakkjbcmhaeaa
open Go Go.E
set_option linter.unusedVariables false
set_option maxRecDepth 100000
/-- paceline/pacelinelaw04.CalendarDays -/
def pacelinelaw04_CalendarDays (t0 t1 : Value) (w : World) (K : KV) : Prop :=
  lnS t1 w fun t13 w =>
  bi .gtr .i64 t13 (Value.int IntKind.i64 64) w fun t14 w =>
  iff' t14
  (K (Value.bool true) w)
  (cvI .i64 t0 w fun t16 w =>
  bi .add .i64 (Value.int IntKind.i64 1) t16 w fun t17 w =>
  Cl prog 8 #[(Value.int IntKind.i64 64), t17] w fun t19 w =>
  mkS prog 26 (Value.int IntKind.i64 8) (Value.int IntKind.i64 8) w fun t20 w =>
  lp [(Value.int IntKind.i64 0)] w (b1 fun t8 w g1 =>
  lnS t1 w fun t23 w =>
  bi .lss .i64 t8 t23 w fun t24 w =>
  iff' t24
  (ixS 1 t1 t8 w fun t30 w =>
  ld1 t30 w fun t31 w =>
  cvI .i64 t31 w fun t32 w =>
  bld (zeroD prog 30) #[(0, 1), (1, 1), (2, 1)] [(0, t32), (2, t8)] w fun t34 w =>
  bld (zeroD prog 32) #[(0, 3), (3, 1), (4, 1), (5, 1)] [(0, t34)] w fun t35 w =>
  Cl prog 9 #[t19, t35] w fun t36 w =>
  bi .neq .i64 t36 (Value.int IntKind.i64 0) w fun t37 w =>
  iff' t37
  (K (Value.bool false) w)
  (ixS 1 t1 t8 w fun t40 w =>
  ld1 t40 w fun t41 w =>
  cvI .i64 t41 w fun t42 w =>
  bi .quo .i64 t42 t17 w fun t44 w =>
  bi .rem .i64 t44 (Value.int IntKind.i64 8) w fun t45 w =>
  ixS 1 t20 t45 w fun t50 w =>
  ld1 t50 w fun t51 w =>
  bi .add .i64 t51 (Value.int IntKind.i64 1) w fun t52 w =>
  ixS 1 t20 t45 w fun t53 w =>
  stN 1 t53 t52 w fun _ w =>
  bi .add .i64 t8 (Value.int IntKind.i64 1) w fun t26 w =>
  g1 [t26] w))
  (Cl prog 10 #[t19] w fun t55 w =>
  lnS t55 w fun t57 w =>
  bi .neq .i64 t57 (Value.int IntKind.i64 8) w fun t58 w =>
  gd t58 false (fun k => k t19 w) w fun t60 w =>
  gd t58 false (fun k => Cl prog 11 #[t60] w k) w fun t61 w =>
  gd t58 false (fun k => k t1 w) w fun t62 w =>
  gd t58 false (fun k => lnS t62 w k) w fun t63 w =>
  gd t58 false (fun k => bi .neq .i64 t61 t63 w k) w fun t64 w =>
  pk t58 (Value.bool true) t64 w fun t65 w =>
  iff' t65
  (K (Value.bool false) w)
  (lp [(Value.int IntKind.i64 0)] w (b1 fun t11 w g2 =>
  bi .lss .i64 t11 (Value.int IntKind.i64 8) w fun t67 w =>
  iff' t67
  (dr w fun w =>
  ixS 1 t55 t11 w fun t72 _ =>
  ld1 t72 w fun t73 _ =>
  ixS 1 t20 t11 w fun t76 _ =>
  ld1 t76 w fun t77 _ =>
  bi .neq .i64 t73 t77 w fun t78 _ =>
  iff' t78
  (K (Value.bool false) w)
  (bi .add .i64 t11 (Value.int IntKind.i64 1) w fun t69 w =>
  g2 [t69] w))
  (K (Value.bool true) w))))))
theorem pacelinelaw04_CalendarDays_eq (t0 t1 : Value) (w : World) (K : KV) : pacelinelaw04_CalendarDays t0 t1 w K = fnW prog 79 [4] (match fn3.body with | some c => c | none => .skip) #[t0, t1] w K := by kernel_rfl
theorem pacelinelaw04_CalendarDays_ok : fnOk prog 79 [4] (match fn3.body with | some c => c | none => .skip) = true := by kernel_rfl
theorem pacelinelaw04_CalendarDays_calls {t0 t1 : Value} {w : World} {K : KV} (h : pacelinelaw04_CalendarDays t0 t1 w K) : Cl prog 3 #[t0, t1] w K :=
  Cl.mk (by kernel_rfl) (calls_of_F (fn := fn3) (nt := 79) (rs := [4]) mixed fnAt3 (by kernel_rfl) (by kernel_rfl) (by kernel_rfl) (Nat.le_of_ble_eq_true (by kernel_rfl)) pacelinelaw04_CalendarDays_ok (pacelinelaw04_CalendarDays_eq t0 t1 w K) h)

/-- paceline/pacelinelaw04.CalendarGone -/
def pacelinelaw04_CalendarGone (t0 t1 t2 : Value) (w : World) (K : KV) : Prop :=
  al (Value.cells t2) 30 w fun t5 w =>
  lnS t1 w fun t21 w =>
  bi .gtr .i64 t21 (Value.int IntKind.i64 64) w fun t22 w =>
  iff' t22
  (K (Value.bool true) w)
  (Cl prog 8 #[(Value.int IntKind.i64 64), t0] w fun t24 w =>
  Cl prog 12 #[(Value.int IntKind.i64 64), t0] w fun t26 w =>
  lp [(Value.int IntKind.i64 0)] w (b1 fun t9 w g1 =>
  lnS t1 w fun t29 w =>
  bi .lss .i64 t9 t29 w fun t30 w =>
  iff' t30
  (dr w fun w =>
  ixS 6 t1 t9 w fun t36 _ =>
  ldN 6 t36 w fun t37 _ =>
  ixS 6 t1 t9 w fun t42 _ =>
  ldN 6 t42 w fun t43 _ =>
  Cl prog 9 #[t24, t37] w fun t38 w =>
  (ldN 6 t42 w (fun v' w'' => v' = t43 ∧ w'' = w)) ∧ (Cl prog 13 #[t26, t43] w fun t44 w =>
  bi .neq .i64 t38 t44 w fun t45 _ =>
  iff' t45
  (K (Value.bool false) w)
  (bi .add .i64 t9 (Value.int IntKind.i64 1) w fun t32 w =>
  g1 [t32] w)))
  (lnS t1 w fun t47 w =>
  bi .gtr .i64 t47 (Value.int IntKind.i64 0) w fun t48 w =>
  J0 (fun w =>
  ldN 3 t5 w fun t66 w =>
  Cl prog 14 #[t24, t66] w fun t67 w =>
  xt 0 t67 w fun t68 w =>
  xt 1 t67 w fun t69 w =>
  al (zeroD prog 32) 32 w fun t10 w =>
  stN 6 t10 t68 w fun _ w =>
  dr w fun w =>
  ncP t26 <|
  fld 0 t26 w fun t73 _ =>
  ld1 t73 w fun t74 _ =>
  ldN 3 t5 w fun t75 _ =>
  (Cl prog 15 #[t74, t75] w fun t76 w =>
  xt 0 t76 w fun t77 _ =>
  xt 1 t76 w fun t78 _ =>
  al (zeroD prog 32) 32 w fun t12 w =>
  (ldN 3 t5 w (fun v' w'' => v' = t75 ∧ w'' = w)) ∧ ((ld1 t73 w (fun v' w'' => v' = t74 ∧ w'' = w)) ∧ (stN 6 t12 t77 w fun _ w =>
  ldN 3 t5 w fun t81 w =>
  Cl prog 14 #[t24, t81] w fun t82 w =>
  xt 0 t82 w fun t83 w =>
  xt 1 t82 w fun t84 w =>
  al (zeroD prog 32) 32 w fun t14 w =>
  stN 6 t14 t83 w fun _ w =>
  Cl prog 10 #[t24] w fun t86 w =>
  Cl prog 16 #[t26] w fun t88 w =>
  ldN 6 t10 w fun t89 w =>
  ldN 6 t12 w fun t90 w =>
  bO prog .neq 32 (Operand.tmp 89) (Operand.tmp 90) t89 t90 w fun t91 w =>
  gd t91 false (fun k => k t69 w) w fun t93 w =>
  gd t91 false (fun k => k t78 w) w fun t94 w =>
  gd t91 false (fun k => bb .neq t93 t94 w k) w fun t95 w =>
  pk t91 (Value.bool true) t95 w fun t96 w =>
  gd t96 false (fun k => k t84 w) w fun t98 w =>
  pk t96 (Value.bool true) t98 w fun t99 w =>
  gd t99 false (fun k => k t86 w) w fun t101 w =>
  gd t99 false (fun k => lnS t101 w k) w fun t102 w =>
  gd t99 false (fun k => bi .neq .i64 t102 (Value.int IntKind.i64 8) w k) w fun t103 w =>
  pk t99 (Value.bool true) t103 w fun t104 w =>
  iff' t104
  (K (Value.bool false) w)
  (lp [(Value.int IntKind.i64 0), (Value.int IntKind.i64 0)] w (b2 fun t18 t19 w g3 =>
  bi .lss .i64 t19 (Value.int IntKind.i64 8) w fun t106 w =>
  iff' t106
  (ixS 1 t86 t19 w fun t112 w =>
  ld1 t112 w fun t113 w =>
  bi .add .i64 t18 t113 w fun t114 w =>
  dr w fun w =>
  ixS 1 t86 t19 w fun t117 _ =>
  ld1 t117 w fun t118 _ =>
  ixS 1 t88 t19 w fun t121 _ =>
  ld1 t121 w fun t122 _ =>
  bi .neq .i64 t118 t122 w fun t123 _ =>
  iff' t123
  (K (Value.bool false) w)
  (bi .add .i64 t19 (Value.int IntKind.i64 1) w fun t108 w =>
  g3 [t114, t108] w))
  (dr w fun w =>
  Cl prog 11 #[t24] w fun t126 w =>
  bi .eql .i64 t18 t126 w fun t127 _ =>
  gd t127 true (fun k => k t24 w) w fun t129 _ =>
  gd t127 true (fun k => k t26 w) w fun t131 _ =>
  gd t127 true (fun k => nc t131 w k) w fun t132 _ =>
  gd t127 true (fun k => fld 0 t132 w k) w fun t133 _ =>
  gd t127 true (fun k => ld1 t133 w k) w fun t134 _ =>
  gd t127 true (fun k => Cl prog 18 #[t129] w k) w fun t130 w =>
  (gd t127 true (fun k => ld1 t133 w k) w (fun v' w'' => v' = t134 ∧ w'' = w)) ∧ (gd t127 true (fun k => Cl prog 19 #[t134] w k) w fun t135 w =>
  gd t127 true (fun k => Cl prog 17 #[t130, t135] w k) w fun t136 w =>
  pk t127 t136 (Value.bool false) w fun t137 _ =>
  K t137 w))))))) ∧ (al (zeroD prog 32) 32 w fun t12_1 w =>
  (ldN 3 t5 w (fun v' w'' => v' = t75 ∧ w'' = w)) ∧ ((ld1 t73 w (fun v' w'' => v' = t74 ∧ w'' = w)) ∧ (Cl prog 15 #[t74, t75] w fun t76_1 w =>
  xt 0 t76_1 w fun t77_1 _ =>
  xt 1 t76_1 w fun t78_1 _ =>
  stN 6 t12_1 t77_1 w fun _ w =>
  ldN 3 t5 w fun t81_1 w =>
  Cl prog 14 #[t24, t81_1] w fun t82_1 w =>
  xt 0 t82_1 w fun t83_1 w =>
  xt 1 t82_1 w fun t84_1 w =>
  al (zeroD prog 32) 32 w fun t14_1 w =>
  stN 6 t14_1 t83_1 w fun _ w =>
  Cl prog 10 #[t24] w fun t86_1 w =>
  Cl prog 16 #[t26] w fun t88_1 w =>
  ldN 6 t10 w fun t89_1 w =>
  ldN 6 t12_1 w fun t90_1 w =>
  bO prog .neq 32 (Operand.tmp 89) (Operand.tmp 90) t89_1 t90_1 w fun t91_1 w =>
  gd t91_1 false (fun k => k t69 w) w fun t93_1 w =>
  gd t91_1 false (fun k => k t78_1 w) w fun t94_1 w =>
  gd t91_1 false (fun k => bb .neq t93_1 t94_1 w k) w fun t95_1 w =>
  pk t91_1 (Value.bool true) t95_1 w fun t96_1 w =>
  gd t96_1 false (fun k => k t84_1 w) w fun t98_1 w =>
  pk t96_1 (Value.bool true) t98_1 w fun t99_1 w =>
  gd t99_1 false (fun k => k t86_1 w) w fun t101_1 w =>
  gd t99_1 false (fun k => lnS t101_1 w k) w fun t102_1 w =>
  gd t99_1 false (fun k => bi .neq .i64 t102_1 (Value.int IntKind.i64 8) w k) w fun t103_1 w =>
  pk t99_1 (Value.bool true) t103_1 w fun t104_1 w =>
  iff' t104_1
  (K (Value.bool false) w)
  (lp [(Value.int IntKind.i64 0), (Value.int IntKind.i64 0)] w (b2 fun t18_1 t19_1 w g4 =>
  bi .lss .i64 t19_1 (Value.int IntKind.i64 8) w fun t106_1 w =>
  iff' t106_1
  (ixS 1 t86_1 t19_1 w fun t112_1 w =>
  ld1 t112_1 w fun t113_1 w =>
  bi .add .i64 t18_1 t113_1 w fun t114_1 w =>
  dr w fun w =>
  ixS 1 t86_1 t19_1 w fun t117_1 _ =>
  ld1 t117_1 w fun t118_1 _ =>
  ixS 1 t88_1 t19_1 w fun t121_1 _ =>
  ld1 t121_1 w fun t122_1 _ =>
  bi .neq .i64 t118_1 t122_1 w fun t123_1 _ =>
  iff' t123_1
  (K (Value.bool false) w)
  (bi .add .i64 t19_1 (Value.int IntKind.i64 1) w fun t108_1 w =>
  g4 [t114_1, t108_1] w))
  (dr w fun w =>
  Cl prog 11 #[t24] w fun t126_1 w =>
  bi .eql .i64 t18_1 t126_1 w fun t127_1 _ =>
  gd t127_1 true (fun k => k t24 w) w fun t129_1 _ =>
  gd t127_1 true (fun k => k t26 w) w fun t131_1 _ =>
  gd t127_1 true (fun k => nc t131_1 w k) w fun t132_1 _ =>
  gd t127_1 true (fun k => fld 0 t132_1 w k) w fun t133_1 _ =>
  gd t127_1 true (fun k => ld1 t133_1 w k) w fun t134_1 _ =>
  gd t127_1 true (fun k => Cl prog 18 #[t129_1] w k) w fun t130_1 w =>
  (gd t127_1 true (fun k => ld1 t133_1 w k) w (fun v' w'' => v' = t134_1 ∧ w'' = w)) ∧ (gd t127_1 true (fun k => Cl prog 19 #[t134_1] w k) w fun t135_1 w =>
  gd t127_1 true (fun k => Cl prog 17 #[t130_1, t135_1] w k) w fun t136_1 w =>
  pk t127_1 t136_1 (Value.bool false) w fun t137_1 _ =>
  K t137_1 w)))))))) fun k2 =>
  iff' t48
  (ixS 6 t1 (Value.int IntKind.i64 0) w fun t51 w =>
  fld 0 t51 w fun t52 w =>
  ldN 3 t52 w fun t53 w =>
  Cl prog 14 #[t24, t53] w fun _ w =>
  dr w fun w =>
  ncP t26 <|
  fld 0 t26 w fun t57 _ =>
  ld1 t57 w fun t58 _ =>
  ixS 6 t1 (Value.int IntKind.i64 0) w fun t60 _ =>
  fld 0 t60 w fun t61 _ =>
  ldN 3 t61 w fun t62 _ =>
  Cl prog 15 #[t58, t62] w fun _ w =>
  k2 w)
  (k2 w))))
theorem pacelinelaw04_CalendarGone_eq (t0 t1 t2 : Value) (w : World) (K : KV) : pacelinelaw04_CalendarGone t0 t1 t2 w K = fnW prog 138 [6] (match fn4.body with | some c => c | none => .skip) #[t0, t1, t2] w K := by kernel_rfl
theorem pacelinelaw04_CalendarGone_ok : fnOk prog 138 [6] (match fn4.body with | some c => c | none => .skip) = true := by kernel_rfl
theorem pacelinelaw04_CalendarGone_calls {t0 t1 t2 : Value} {w : World} {K : KV} (h : pacelinelaw04_CalendarGone t0 t1 t2 w K) : Cl prog 4 #[t0, t1, t2] w K :=
  Cl.mk (by kernel_rfl) (calls_of_F (fn := fn4) (nt := 138) (rs := [6]) mixed fnAt4 (by kernel_rfl) (by kernel_rfl) (by kernel_rfl) (Nat.le_of_ble_eq_true (by kernel_rfl)) pacelinelaw04_CalendarGone_ok (pacelinelaw04_CalendarGone_eq t0 t1 t2 w K) h)

/-- paceline/pacelinelaw04.CalendarAny -/
def pacelinelaw04_CalendarAny (t0 t1 t2 : Value) (w : World) (K : KV) : Prop :=
  lnS t2 w fun t16 w =>
  bi .gtr .i64 t16 (Value.int IntKind.i64 200) w fun t17 w =>
  iff' t17
  (K (Value.bool true) w)
  (Cl prog 8 #[(Value.int IntKind.i64 64), t0] w fun t19 w =>
  Cl prog 8 #[(Value.int IntKind.i64 64), t1] w fun t21 w =>
  lp [(Value.int IntKind.i64 0)] w (b1 fun t9 w g1 =>
  lnS t2 w fun t24 w =>
  bi .lss .i64 t9 t24 w fun t25 w =>
  iff' t25
  (ixS 7 t2 t9 w fun t30 w =>
  ldN 7 t30 w fun t31 w =>
  al (zeroD prog 49) 49 w fun t10 w =>
  stN 7 t10 t31 w fun _ w =>
  dr w fun w =>
  fld 0 t10 w fun t32 _ =>
  ld1 t32 w fun t33 _ =>
  bi .eql .i64 t33 (Value.int IntKind.i64 0) w fun t34 _ =>
  gd t34 true (fun k => k t19 w) w fun t36 _ =>
  gd t34 true (fun k => fld 1 t10 w k) w fun t37 _ =>
  gd t34 true (fun k => ldN 6 t37 w k) w fun t38 _ =>
  gd t34 true (fun k => k t21 w) w fun t40 _ =>
  gd t34 true (fun k => fld 1 t10 w k) w fun t41 _ =>
  gd t34 true (fun k => ldN 6 t41 w k) w fun t42 _ =>
  gd t34 true (fun k => Cl prog 9 #[t36, t38] w k) w fun t39 w =>
  (gd t34 true (fun k => ldN 6 t41 w k) w (fun v' w'' => v' = t42 ∧ w'' = w)) ∧ (gd t34 true (fun k => Cl prog 9 #[t40, t42] w k) w fun t43 w =>
  gd t34 true (fun k => bi .neq .i64 t39 t43 w k) w fun t44 _ =>
  pk t34 t44 (Value.bool false) w fun t45 _ =>
  iff' t45
  (K (Value.bool false) w)
  (fld 0 t10 w fun t46 w =>
  ld1 t46 w fun t47 w =>
  bi .eql .i64 t47 (Value.int IntKind.i64 1) w fun t48 w =>
  J0 (fun w =>
  Cl prog 18 #[t19] w fun t68 w =>
  Cl prog 18 #[t21] w fun t70 w =>
  Cl prog 17 #[t68, t70] w fun t71 w =>
  bnot t71 w fun t72 w =>
  gd t72 false (fun k => k t19 w) w fun t74 w =>
  gd t72 false (fun k => Cl prog 11 #[t74] w k) w fun t75 w =>
  gd t72 false (fun k => k t21 w) w fun t76 w =>
  gd t72 false (fun k => Cl prog 11 #[t76] w k) w fun t77 w =>
  gd t72 false (fun k => bi .neq .i64 t75 t77 w k) w fun t78 w =>
  pk t72 (Value.bool true) t78 w fun t79 w =>
  iff' t79
  (K (Value.bool false) w)
  (bi .add .i64 t9 (Value.int IntKind.i64 1) w fun t27 w =>
  g1 [t27] w)) fun k2 =>
  iff' t48
  (Cl prog 20 #[t19] w fun t51 w =>
  xt 0 t51 w fun t52 w =>
  xt 1 t51 w fun t53 w =>
  al (zeroD prog 32) 32 w fun t11 w =>
  stN 6 t11 t52 w fun _ w =>
  Cl prog 20 #[t21] w fun t56 w =>
  xt 0 t56 w fun t57 w =>
  xt 1 t56 w fun t58 w =>
  al (zeroD prog 32) 32 w fun t13 w =>
  stN 6 t13 t57 w fun _ w =>
  ldN 6 t11 w fun t59 w =>
  ldN 6 t13 w fun t60 w =>
  bO prog .neq 32 (Operand.tmp 59) (Operand.tmp 60) t59 t60 w fun t61 w =>
  gd t61 false (fun k => k t53 w) w fun t63 w =>
  gd t61 false (fun k => k t58 w) w fun t64 w =>
  gd t61 false (fun k => bb .neq t63 t64 w k) w fun t65 w =>
  pk t61 (Value.bool true) t65 w fun t66 w =>
  iff' t66
  (K (Value.bool false) w)
  (k2 w))
  (k2 w))))
  (bld (zeroD prog 30) #[(0, 1), (1, 1), (2, 1)] [(0, (Value.int IntKind.i64 (-1)))] w fun t81 w =>
  bld (zeroD prog 32) #[(0, 3), (3, 1), (4, 1), (5, 1)] [(0, t81)] w fun t82 w =>
  Cl prog 9 #[t19, t82] w fun t83 w =>
  bi .eql .i64 t83 (Value.int IntKind.i64 1) w fun t84 w =>
  gd t84 true (fun k => k t21 w) w fun t86 w =>
  gd t84 true (fun k => Cl prog 10 #[t86] w k) w fun t87 w =>
  gd t84 true (fun k => lnS t87 w k) w fun t88 w =>
  gd t84 true (fun k => bi .eql .i64 t88 (Value.int IntKind.i64 8) w k) w fun t89 w =>
  pk t84 t89 (Value.bool false) w fun t90 w =>
  K t90 w)))
theorem pacelinelaw04_CalendarAny_eq (t0 t1 t2 : Value) (w : World) (K : KV) : pacelinelaw04_CalendarAny t0 t1 t2 w K = fnW prog 91 [6] (match fn5.body with | some c => c | none => .skip) #[t0, t1, t2] w K := by kernel_rfl
theorem pacelinelaw04_CalendarAny_ok : fnOk prog 91 [6] (match fn5.body with | some c => c | none => .skip) = true := by kernel_rfl
theorem pacelinelaw04_CalendarAny_calls {t0 t1 t2 : Value} {w : World} {K : KV} (h : pacelinelaw04_CalendarAny t0 t1 t2 w K) : Cl prog 5 #[t0, t1, t2] w K :=
  Cl.mk (by kernel_rfl) (calls_of_F (fn := fn5) (nt := 91) (rs := [6]) mixed fnAt5 (by kernel_rfl) (by kernel_rfl) (by kernel_rfl) (Nat.le_of_ble_eq_true (by kernel_rfl)) pacelinelaw04_CalendarAny_ok (pacelinelaw04_CalendarAny_eq t0 t1 t2 w K) h)

/-- paceline/pacelinelaw04.CalendarScript -/
def pacelinelaw04_CalendarScript (t0 t1 t2 : Value) (w : World) (K : KV) : Prop :=
  lnS t2 w fun t19 w =>
  bi .gtr .i64 t19 (Value.int IntKind.i64 300) w fun t20 w =>
  iff' t20
  (K (Value.bool true) w)
  (Cl prog 8 #[t0, t1] w fun t23 w =>
  Cl prog 12 #[t0, t1] w fun t26 w =>
  bn .eql t23 w fun t28 w =>
  gd t28 false (fun k => k t23 w) w fun t30 w =>
  gd t28 false (fun k => Cl prog 10 #[t30] w k) w fun t31 w =>
  gd t28 false (fun k => lnS t31 w k) w fun t32 w =>
  gd t28 false (fun k => bi .neq .i64 t32 (Value.int IntKind.i64 8) w k) w fun t33 w =>
  pk t28 (Value.bool true) t33 w fun t34 w =>
  iff' t34
  (K (Value.bool false) w)
  (lp [(Value.int IntKind.i64 0)] w (b1 fun t9 w g1 =>
  lnS t2 w fun t37 w =>
  bi .lss .i64 t9 t37 w fun t38 w =>
  iff' t38
  (ixS 7 t2 t9 w fun t43 w =>
  ldN 7 t43 w fun t44 w =>
  al (zeroD prog 49) 49 w fun t10 w =>
  stN 7 t10 t44 w fun _ w =>
  fld 0 t10 w fun t45 w =>
  ld1 t45 w fun t46 w =>
  J0 (fun w =>
  Cl prog 10 #[t23] w fun t141 w =>
  Cl prog 16 #[t26] w fun t143 w =>
  dr w fun w =>
  ncP t26 <|
  fld 0 t26 w fun t148 _ =>
  ld1 t148 w fun t149 _ =>
  Cl prog 11 #[t23] w fun t145 w =>
  (ld1 t148 w (fun v' w'' => v' = t149 ∧ w'' = w)) ∧ (Cl prog 26 #[t149] w fun t150 w =>
  bi .neq .i64 t145 t150 w fun t151 _ =>
  gd t151 false (fun k => k t23 w) w fun t153 _ =>
  gd t151 false (fun k => k t26 w) w fun t155 _ =>
  gd t151 false (fun k => nc t155 w k) w fun t156 _ =>
  gd t151 false (fun k => fld 0 t156 w k) w fun t157 _ =>
  gd t151 false (fun k => ld1 t157 w k) w fun t158 _ =>
  gd t151 false (fun k => Cl prog 18 #[t153] w k) w fun t154 w =>
  (gd t151 false (fun k => ld1 t157 w k) w (fun v' w'' => v' = t158 ∧ w'' = w)) ∧ (gd t151 false (fun k => Cl prog 19 #[t158] w k) w fun t159 w =>
  gd t151 false (fun k => Cl prog 17 #[t154, t159] w k) w fun t160 w =>
  gd t151 false (fun k => bnot t160 w k) w fun t161 _ =>
  pk t151 (Value.bool true) t161 w fun t162 _ =>
  gd t162 false (fun k => k t141 w) w fun t164 _ =>
  gd t162 false (fun k => lnS t164 w k) w fun t165 _ =>
  gd t162 false (fun k => bi .neq .i64 t165 (Value.int IntKind.i64 8) w k) w fun t166 _ =>
  pk t162 (Value.bool true) t166 w fun t167 _ =>
  iff' t167
  (K (Value.bool false) w)
  (lp [(Value.int IntKind.i64 0)] w (b1 fun t17 w g3 =>
  bi .lss .i64 t17 (Value.int IntKind.i64 8) w fun t169 w =>
  iff' t169
  (dr w fun w =>
  ixS 1 t141 t17 w fun t174 _ =>
  ld1 t174 w fun t175 _ =>
  ixS 1 t143 t17 w fun t178 _ =>
  ld1 t178 w fun t179 _ =>
  bi .neq .i64 t175 t179 w fun t180 _ =>
  iff' t180
  (K (Value.bool false) w)
  (bi .add .i64 t17 (Value.int IntKind.i64 1) w fun t171 w =>
  g3 [t171] w))
  (bi .add .i64 t9 (Value.int IntKind.i64 1) w fun t40 w =>
  g1 [t40] w)))))) fun k2 =>
  bi .eql .i64 t46 (Value.int IntKind.i64 0) w fun t48 w =>
  iff' t48
  (dr w fun w =>
  fld 1 t10 w fun t50 _ =>
  ldN 6 t50 w fun t51 _ =>
  fld 1 t10 w fun t54 _ =>
  ldN 6 t54 w fun t55 _ =>
  Cl prog 9 #[t23, t51] w fun t52 w =>
  (ldN 6 t54 w (fun v' w'' => v' = t55 ∧ w'' = w)) ∧ (Cl prog 13 #[t26, t55] w fun t56 w =>
  bi .neq .i64 t52 t56 w fun t57 _ =>
  iff' t57
  (K (Value.bool false) w)
  (k2 w)))
  (bi .eql .i64 t46 (Value.int IntKind.i64 1) w fun t59 w =>
  J1 (fun t58 w =>
  iff' t58
  (Cl prog 21 #[t23] w fun t64 w =>
  xt 0 t64 w fun t65 w =>
  xt 1 t64 w fun t66 w =>
  al (zeroD prog 32) 32 w fun t11 w =>
  stN 6 t11 t65 w fun _ w =>
  ncP t26 <|
  fld 0 t26 w fun t70 w =>
  ld1 t70 w fun t71 w =>
  Cl prog 22 #[t71] w fun t72 w =>
  xt 0 t72 w fun t73 w =>
  xt 1 t72 w fun t74 w =>
  al (zeroD prog 32) 32 w fun t13 w =>
  stN 6 t13 t73 w fun _ w =>
  fld 0 t10 w fun t75 w =>
  ld1 t75 w fun t76 w =>
  bi .eql .i64 t76 (Value.int IntKind.i64 1) w fun t77 w =>
  J2 (fun t12 t14 w =>
  fld 0 t10 w fun t91 w =>
  ld1 t91 w fun t92 w =>
  bi .eql .i64 t92 (Value.int IntKind.i64 3) w fun t93 w =>
  J2 (fun t12_1 t14_1 w =>
  ldN 6 t11 w fun t113 w =>
  ldN 6 t13 w fun t114 w =>
  bO prog .neq 32 (Operand.tmp 113) (Operand.tmp 114) t113 t114 w fun t115 w =>
  gd t115 false (fun k => k t12_1 w) w fun t117 w =>
  gd t115 false (fun k => k t14_1 w) w fun t118 w =>
  gd t115 false (fun k => bb .neq t117 t118 w k) w fun t119 w =>
  pk t115 (Value.bool true) t119 w fun t120 w =>
  iff' t120
  (K (Value.bool false) w)
  (k2 w)) fun k6 =>
  iff' t93
  (fld 1 t10 w fun t96 w =>
  fld 0 t96 w fun t97 w =>
  ldN 3 t97 w fun t98 w =>
  Cl prog 14 #[t23, t98] w fun t99 w =>
  xt 0 t99 w fun t100 w =>
  xt 1 t99 w fun t101 w =>
  stN 6 t11 t100 w fun _ w =>
  dr w fun w =>
  ncP t26 <|
  fld 0 t26 w fun t105 _ =>
  ld1 t105 w fun t106 _ =>
  fld 1 t10 w fun t107 _ =>
  fld 0 t107 w fun t108 _ =>
  ldN 3 t108 w fun t109 _ =>
  Cl prog 15 #[t106, t109] w fun t110 w =>
  xt 0 t110 w fun t111 _ =>
  xt 1 t110 w fun t112 _ =>
  stN 6 t13 t111 w fun _ w =>
  k6 t101 t112 w)
  (k6 t12 t14 w)) fun k5 =>
  iff' t77
  (Cl prog 20 #[t23] w fun t80 w =>
  xt 0 t80 w fun t81 w =>
  xt 1 t80 w fun t82 w =>
  stN 6 t11 t81 w fun _ w =>
  ncP t26 <|
  fld 0 t26 w fun t86 w =>
  ld1 t86 w fun t87 w =>
  Cl prog 23 #[t87] w fun t88 w =>
  xt 0 t88 w fun t89 w =>
  xt 1 t88 w fun t90 w =>
  stN 6 t13 t89 w fun _ w =>
  k5 t82 t90 w)
  (k5 t66 t74 w))
  (bi .eql .i64 t46 (Value.int IntKind.i64 4) w fun t122 w =>
  iff' t122
  (dr w fun w =>
  fld 1 t10 w fun t124 _ =>
  fld 0 t124 w fun t125 _ =>
  fld 0 t125 w fun t126 _ =>
  ld1 t126 w fun t127 _ =>
  ncP t26 <|
  fld 0 t26 w fun t131 _ =>
  ld1 t131 w fun t132 _ =>
  fld 1 t10 w fun t133 _ =>
  fld 0 t133 w fun t134 _ =>
  fld 0 t134 w fun t135 _ =>
  ld1 t135 w fun t136 _ =>
  Cl prog 24 #[t23, t127] w fun t128 w =>
  (ld1 t135 w (fun v' w'' => v' = t136 ∧ w'' = w)) ∧ ((ld1 t131 w (fun v' w'' => v' = t132 ∧ w'' = w)) ∧ (Cl prog 25 #[t132, t136] w fun t137 w =>
  Cl prog 17 #[t128, t137] w fun t138 w =>
  bnot t138 w fun t139 _ =>
  iff' t139
  (K (Value.bool false) w)
  (k2 w))))
  (k2 w))) fun k4 =>
  iff' t59
  (k4 t59 w)
  (bi .eql .i64 t46 (Value.int IntKind.i64 2) w fun t60 w =>
  iff' t60
  (k4 t60 w)
  (bi .eql .i64 t46 (Value.int IntKind.i64 3) w fun t61 w =>
  k4 t61 w))))
  (K (Value.bool true) w))))
theorem pacelinelaw04_CalendarScript_eq (t0 t1 t2 : Value) (w : World) (K : KV) : pacelinelaw04_CalendarScript t0 t1 t2 w K = fnW prog 181 [6] (match fn6.body with | some c => c | none => .skip) #[t0, t1, t2] w K := by kernel_rfl
theorem pacelinelaw04_CalendarScript_ok : fnOk prog 181 [6] (match fn6.body with | some c => c | none => .skip) = true := by kernel_rfl
theorem pacelinelaw04_CalendarScript_calls {t0 t1 t2 : Value} {w : World} {K : KV} (h : pacelinelaw04_CalendarScript t0 t1 t2 w K) : Cl prog 6 #[t0, t1, t2] w K :=
  Cl.mk (by kernel_rfl) (calls_of_F (fn := fn6) (nt := 181) (rs := [6]) mixed fnAt6 (by kernel_rfl) (by kernel_rfl) (by kernel_rfl) (Nat.le_of_ble_eq_true (by kernel_rfl)) pacelinelaw04_CalendarScript_ok (pacelinelaw04_CalendarScript_eq t0 t1 t2 w K) h)

/-- paceline/pacelinelaw04.CalendarHeap -/
def pacelinelaw04_CalendarHeap (t0 t1 : Value) (w : World) (K : KV) : Prop :=
  lnS t1 w fun t19 w =>
  bi .gtr .i64 t19 (Value.int IntKind.i64 300) w fun t20 w =>
  iff' t20
  (K (Value.bool true) w)
  (Cl prog 8 #[(Value.int IntKind.i64 64), t0] w fun t22 w =>
  Cl prog 27 #[(Value.int IntKind.i64 64)] w fun t23 w =>
  lp [(Value.int IntKind.i64 0)] w (b1 fun t7 w g1 =>
  lnS t1 w fun t26 w =>
  bi .lss .i64 t7 t26 w fun t27 w =>
  iff' t27
  (J0 (fun w =>
  bi .add .i64 t7 (Value.int IntKind.i64 1) w fun t29 w =>
  g1 [t29] w) fun k2 =>
  ixS 7 t1 t7 w fun t32 w =>
  ldN 7 t32 w fun t33 w =>
  al (zeroD prog 49) 49 w fun t8 w =>
  stN 7 t8 t33 w fun _ w =>
  fld 1 t8 w fun t34 w =>
  fld 0 t34 w fun t35 w =>
  fld 0 t35 w fun t36 w =>
  ld1 t36 w fun t37 w =>
  bi .lss .i64 t37 (Value.int IntKind.i64 0) w fun t39 w =>
  gd t39 false (fun k => k t37 w) w fun t41 w =>
  gd t39 false (fun k => bi .gtr .i64 t41 (Value.int IntKind.i64 1099511627776) w k) w fun t42 w =>
  gd t39 false (fun k => k t42 w) w fun t43 w =>
  gd t43 true (fun k => k t37 w) w fun t44 w =>
  gd t43 true (fun k => bi .neq .i64 t44 (Value.int IntKind.i64 1125899906842624) w k) w fun t45 w =>
  gd t39 false (fun k => pk t43 t45 (Value.bool false) w k) w fun t46 w =>
  pk t39 (Value.bool true) t46 w fun t47 w =>
  iff' t47
  (k2 w)
  (dr w fun w =>
  fld 0 t8 w fun t48 _ =>
  ld1 t48 w fun t49 _ =>
  bi .eql .i64 t49 (Value.int IntKind.i64 0) w fun t50 _ =>
  gd t50 true (fun k => k t22 w) w fun t52 _ =>
  gd t50 true (fun k => fld 1 t8 w k) w fun t53 _ =>
  gd t50 true (fun k => ldN 6 t53 w k) w fun t54 _ =>
  gd t50 true (fun k => k t23 w) w fun t56 _ =>
  gd t50 true (fun k => fld 1 t8 w k) w fun t57 _ =>
  gd t50 true (fun k => ldN 6 t57 w k) w fun t58 _ =>
  gd t50 true (fun k => Cl prog 9 #[t52, t54] w k) w fun t55 w =>
  (gd t50 true (fun k => ldN 6 t57 w k) w (fun v' w'' => v' = t58 ∧ w'' = w)) ∧ (gd t50 true (fun k => Cl prog 28 #[t56, t58] w k) w fun t59 w =>
  gd t50 true (fun k => bi .neq .i64 t55 t59 w k) w fun t60 _ =>
  pk t50 t60 (Value.bool false) w fun t61 _ =>
  iff' t61
  (K (Value.bool false) w)
  (fld 0 t8 w fun t62 w =>
  ld1 t62 w fun t63 w =>
  bi .eql .i64 t63 (Value.int IntKind.i64 1) w fun t64 w =>
  J0 (fun w =>
  fld 0 t8 w fun t83 w =>
  ld1 t83 w fun t84 w =>
  bi .eql .i64 t84 (Value.int IntKind.i64 3) w fun t85 w =>
  J0 (fun w =>
  Cl prog 11 #[t22] w fun t111 w =>
  Cl prog 31 #[t23] w fun t113 w =>
  bi .neq .i64 t111 t113 w fun t114 w =>
  gd t114 false (fun k => k t22 w) w fun t116 w =>
  gd t114 false (fun k => Cl prog 18 #[t116] w k) w fun t117 w =>
  gd t114 false (fun k => k t23 w) w fun t118 w =>
  gd t114 false (fun k => Cl prog 32 #[t118] w k) w fun t119 w =>
  gd t114 false (fun k => Cl prog 17 #[t117, t119] w k) w fun t120 w =>
  gd t114 false (fun k => bnot t120 w k) w fun t121 w =>
  pk t114 (Value.bool true) t121 w fun t122 w =>
  iff' t122
  (K (Value.bool false) w)
  (k2 w)) fun k4 =>
  iff' t85
  (fld 1 t8 w fun t88 w =>
  fld 0 t88 w fun t89 w =>
  ldN 3 t89 w fun t90 w =>
  Cl prog 14 #[t22, t90] w fun t91 w =>
  xt 0 t91 w fun t92 w =>
  xt 1 t91 w fun t93 w =>
  al (zeroD prog 32) 32 w fun t14 w =>
  stN 6 t14 t92 w fun _ w =>
  fld 1 t8 w fun t96 w =>
  fld 0 t96 w fun t97 w =>
  ldN 3 t97 w fun t98 w =>
  Cl prog 30 #[t23, t98] w fun t99 w =>
  xt 0 t99 w fun t100 w =>
  xt 1 t99 w fun t101 w =>
  al (zeroD prog 32) 32 w fun t16 w =>
  stN 6 t16 t100 w fun _ w =>
  ldN 6 t14 w fun t102 w =>
  ldN 6 t16 w fun t103 w =>
  bO prog .neq 32 (Operand.tmp 102) (Operand.tmp 103) t102 t103 w fun t104 w =>
  gd t104 false (fun k => k t93 w) w fun t106 w =>
  gd t104 false (fun k => k t101 w) w fun t107 w =>
  gd t104 false (fun k => bb .neq t106 t107 w k) w fun t108 w =>
  pk t104 (Value.bool true) t108 w fun t109 w =>
  iff' t109
  (K (Value.bool false) w)
  (k4 w))
  (k4 w)) fun k3 =>
  iff' t64
  (Cl prog 20 #[t22] w fun t67 w =>
  xt 0 t67 w fun t68 w =>
  xt 1 t67 w fun t69 w =>
  al (zeroD prog 32) 32 w fun t10 w =>
  stN 6 t10 t68 w fun _ w =>
  Cl prog 29 #[t23] w fun t72 w =>
  xt 0 t72 w fun t73 w =>
  xt 1 t72 w fun t74 w =>
  al (zeroD prog 32) 32 w fun t12 w =>
  stN 6 t12 t73 w fun _ w =>
  ldN 6 t10 w fun t75 w =>
  ldN 6 t12 w fun t76 w =>
  bO prog .neq 32 (Operand.tmp 75) (Operand.tmp 76) t75 t76 w fun t77 w =>
  gd t77 false (fun k => k t69 w) w fun t79 w =>
  gd t77 false (fun k => k t74 w) w fun t80 w =>
  gd t77 false (fun k => bb .neq t79 t80 w k) w fun t81 w =>
  pk t77 (Value.bool true) t81 w fun t82 w =>
  iff' t82
  (K (Value.bool false) w)
  (k3 w))
  (k3 w)))))
  (bld (zeroD prog 30) #[(0, 1), (1, 1), (2, 1)] [(0, (Value.int IntKind.i64 (-1)))] w fun t124 w =>
  bld (zeroD prog 32) #[(0, 3), (3, 1), (4, 1), (5, 1)] [(0, t124)] w fun t125 w =>
  Cl prog 9 #[t22, t125] w fun t126 w =>
  bi .eql .i64 t126 (Value.int IntKind.i64 1) w fun t127 w =>
  K t127 w)))
theorem pacelinelaw04_CalendarHeap_eq (t0 t1 : Value) (w : World) (K : KV) : pacelinelaw04_CalendarHeap t0 t1 w K = fnW prog 128 [4] (match fn7.body with | some c => c | none => .skip) #[t0, t1] w K := by kernel_rfl
theorem pacelinelaw04_CalendarHeap_ok : fnOk prog 128 [4] (match fn7.body with | some c => c | none => .skip) = true := by kernel_rfl
theorem pacelinelaw04_CalendarHeap_calls {t0 t1 : Value} {w : World} {K : KV} (h : pacelinelaw04_CalendarHeap t0 t1 w K) : Cl prog 7 #[t0, t1] w K :=
  Cl.mk (by kernel_rfl) (calls_of_F (fn := fn7) (nt := 128) (rs := [4]) mixed fnAt7 (by kernel_rfl) (by kernel_rfl) (by kernel_rfl) (Nat.le_of_ble_eq_true (by kernel_rfl)) pacelinelaw04_CalendarHeap_ok (pacelinelaw04_CalendarHeap_eq t0 t1 w K) h)

/-- paceline/calendar.New -/
def calendar_New (t0 t1 : Value) (w : World) (K : KV) : Prop :=
  mnI .i64 t0 (Value.int IntKind.i64 64) w fun t6 w =>
  mxI .i64 (Value.int IntKind.i64 0) t6 w fun t7 w =>
  mnI .i64 t1 (Value.int IntKind.i64 1048576) w fun t9 w =>
  mxI .i64 (Value.int IntKind.i64 1) t9 w fun t10 w =>
  bld (zeroD prog 58) #[(0, 1), (1, 1), (2, 1), (3, 8)] [(0, t7), (1, t10)] w fun t11 w =>
  al (Value.cells t11) 58 w fun t12 w =>
  K t12 w
theorem calendar_New_eq (t0 t1 : Value) (w : World) (K : KV) : calendar_New t0 t1 w K = fnW prog 13 [4] (match fn8.body with | some c => c | none => .skip) #[t0, t1] w K := by kernel_rfl
theorem calendar_New_ok : fnOk prog 13 [4] (match fn8.body with | some c => c | none => .skip) = true := by kernel_rfl
theorem calendar_New_calls {t0 t1 : Value} {w : World} {K : KV} (h : calendar_New t0 t1 w K) : Cl prog 8 #[t0, t1] w K :=
  Cl.mk (by kernel_rfl) (calls_of_F (fn := fn8) (nt := 13) (rs := [4]) mixed fnAt8 (by kernel_rfl) (by kernel_rfl) (by kernel_rfl) (Nat.le_of_ble_eq_true (by kernel_rfl)) calendar_New_ok (calendar_New_eq t0 t1 w K) h)

end Go.Proofs.Ytlmakkjbcmhaeaa
