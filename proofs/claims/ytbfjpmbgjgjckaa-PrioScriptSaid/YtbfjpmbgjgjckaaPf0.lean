/- Printed by prt.py: the Go functions of this seat as shallow predicate transformers. Conditions: none. -/
import Derived.Test.YtbfjpmbgjgjckaaEngO
import Derived.Test.YtbfjpmbgjgjckaaPfHead
import Derived.KernelRfl
namespace Go.Proofs.Ytbfjpmbgjgjckaa
open Go Go.E
set_option linter.unusedVariables false
set_option maxRecDepth 100000
/-- paceline/pacelinelaw03.PrioTwice -/
def pacelinelaw03_PrioTwice (t0 t1 : Value) (w : World) (K : KV) : Prop :=
  lnS t0 w fun t13 w =>
  bi .gtr .i64 t13 (Value.int IntKind.i64 200) w fun t14 w =>
  iff' t14
  (K (Value.bool true) w)
  (cvI .i64 t1 w fun t16 w =>
  bi .rem .i64 t16 (Value.int IntKind.i64 65) w fun t17 w =>
  Cl prog 8 #[t17] w fun t19 w =>
  lp [(Value.int IntKind.i64 0)] w (b1 fun t7 w g1 =>
  lnS t0 w fun t22 w =>
  bi .lss .i64 t7 t22 w fun t23 w =>
  iff' t23
  (ixS 6 t0 t7 w fun t29 w =>
  ldN 6 t29 w fun t30 w =>
  Cl prog 9 #[t19, t30] w fun t31 w =>
  ixS 6 t0 t7 w fun t35 w =>
  ldN 6 t35 w fun t36 w =>
  Cl prog 9 #[t19, t36] w fun t37 w =>
  bi .eql .i64 t31 (Value.int IntKind.i64 0) w fun t39 w =>
  gd t39 true (fun k => k t37 w) w fun t41 w =>
  gd t39 true (fun k => bi .neq .i64 t41 (Value.int IntKind.i64 3) w k) w fun t42 w =>
  pk t39 t42 (Value.bool false) w fun t43 w =>
  gd t43 false (fun k => k t37 w) w fun t45 w =>
  gd t43 false (fun k => bi .eql .i64 t45 (Value.int IntKind.i64 0) w k) w fun t46 w =>
  pk t43 (Value.bool true) t46 w fun t47 w =>
  gd t47 false (fun k => k t19 w) w fun t49 w =>
  gd t47 false (fun k => Cl prog 10 #[t49] w k) w fun t50 w =>
  gd t47 false (fun k => k t17 w) w fun t51 w =>
  gd t47 false (fun k => bi .gtr .i64 t50 t51 w k) w fun t52 w =>
  pk t47 (Value.bool true) t52 w fun t53 w =>
  iff' t53
  (K (Value.bool false) w)
  (Cl prog 11 #[t19] w fun t56 w =>
  xt 0 t56 w fun t57 w =>
  xt 1 t56 w fun t58 w =>
  al (zeroD prog 30) 30 w fun t10 w =>
  stN 6 t10 t57 w fun _ w =>
  Cl prog 10 #[t19] w fun t61 w =>
  bi .gtr .i64 t61 (Value.int IntKind.i64 0) w fun t62 w =>
  bb .neq t58 t62 w fun t63 w =>
  iff' t63
  (K (Value.bool false) w)
  (bi .add .i64 t7 (Value.int IntKind.i64 1) w fun t25 w =>
  g1 [t25] w)))
  (Cl prog 8 #[(Value.int IntKind.i64 1)] w fun t64 w =>
  bld (zeroD prog 30) #[(0, 3), (3, 1), (4, 1), (5, 1)] [] w fun t65 w =>
  Cl prog 9 #[t64, t65] w fun t66 w =>
  bi .eql .i64 t66 (Value.int IntKind.i64 0) w fun t67 w =>
  gd t67 true (fun k => Cl prog 8 #[(Value.int IntKind.i64 0)] w k) w fun t69 w =>
  gd t67 true (fun k => bld (zeroD prog 30) #[(0, 3), (3, 1), (4, 1), (5, 1)] [] w k) w fun t70 w =>
  gd t67 true (fun k => Cl prog 9 #[t69, t70] w k) w fun t71 w =>
  gd t67 true (fun k => bi .eql .i64 t71 (Value.int IntKind.i64 2) w k) w fun t72 w =>
  pk t67 t72 (Value.bool false) w fun t73 w =>
  K t73 w)))
theorem pacelinelaw03_PrioTwice_eq (t0 t1 : Value) (w : World) (K : KV) : pacelinelaw03_PrioTwice t0 t1 w K = fnW prog 74 [4] (match fn3.body with | some c => c | none => .skip) #[t0, t1] w K := by kernel_rfl
theorem pacelinelaw03_PrioTwice_ok : fnOk prog 74 [4] (match fn3.body with | some c => c | none => .skip) = true := by kernel_rfl
theorem pacelinelaw03_PrioTwice_calls {t0 t1 : Value} {w : World} {K : KV} (h : pacelinelaw03_PrioTwice t0 t1 w K) : Cl prog 3 #[t0, t1] w K :=
  Cl.mk (by kernel_rfl) (calls_of_F (fn := fn3) (nt := 74) (rs := [4]) mixed fnAt3 (by kernel_rfl) (by kernel_rfl) (by kernel_rfl) (Nat.le_of_ble_eq_true (by kernel_rfl)) pacelinelaw03_PrioTwice_ok (pacelinelaw03_PrioTwice_eq t0 t1 w K) h)

/-- paceline/pacelinelaw03.PrioBelow -/
def pacelinelaw03_PrioBelow (t0 t1 : Value) (w : World) (K : KV) : Prop :=
  lnS t0 w fun t11 w =>
  bi .gtr .i64 t11 (Value.int IntKind.i64 200) w fun t12 w =>
  iff' t12
  (K (Value.bool true) w)
  (Cl prog 8 #[(Value.int IntKind.i64 64)] w fun t13 w =>
  lp [(Value.int IntKind.i64 0)] w (b1 fun t6 w g1 =>
  lnS t0 w fun t16 w =>
  bi .lss .i64 t6 t16 w fun t17 w =>
  iff' t17
  (ixS 6 t0 t6 w fun t23 w =>
  ldN 6 t23 w fun t24 w =>
  Cl prog 9 #[t13, t24] w fun _ w =>
  bi .add .i64 t6 (Value.int IntKind.i64 1) w fun t19 w =>
  g1 [t19] w)
  (Cl prog 12 #[t13] w fun t27 w =>
  Cl prog 13 #[t13, t1] w fun t30 w =>
  lnS t27 w fun t32 w =>
  Cl prog 10 #[t13] w fun t34 w =>
  bi .neq .i64 t32 t34 w fun t35 w =>
  gd t35 false (fun k => k t30 w) w fun t37 w =>
  gd t35 false (fun k => lnS t37 w k) w fun t38 w =>
  gd t35 false (fun k => k t27 w) w fun t39 w =>
  gd t35 false (fun k => lnS t39 w k) w fun t40 w =>
  gd t35 false (fun k => bi .gtr .i64 t38 t40 w k) w fun t41 w =>
  pk t35 (Value.bool true) t41 w fun t42 w =>
  gd t42 false (fun k => k t0 w) w fun t44 w =>
  gd t42 false (fun k => lnS t44 w k) w fun t45 w =>
  gd t42 false (fun k => bi .gtr .i64 t45 (Value.int IntKind.i64 0) w k) w fun t46 w =>
  gd t42 false (fun k => k t46 w) w fun t47 w =>
  gd t47 true (fun k => k t27 w) w fun t48 w =>
  gd t47 true (fun k => lnS t48 w k) w fun t49 w =>
  gd t47 true (fun k => bi .eql .i64 t49 (Value.int IntKind.i64 0) w k) w fun t50 w =>
  gd t42 false (fun k => pk t47 t50 (Value.bool false) w k) w fun t51 w =>
  pk t42 (Value.bool true) t51 w fun t52 w =>
  iff' t52
  (K (Value.bool false) w)
  (lp [(Value.int IntKind.i64 0)] w (b1 fun t9 w g2 =>
  lnS t27 w fun t55 w =>
  bi .lss .i64 t9 t55 w fun t56 w =>
  iff' t56
  (dr w fun w =>
  ixS 6 t27 t9 w fun t61 _ =>
  fld 0 t61 w fun t62 _ =>
  fld 0 t62 w fun t63 _ =>
  ld1 t63 w fun t64 _ =>
  bi .lss .i64 t64 t1 w fun t66 _ =>
  lnS t30 w fun t69 _ =>
  bi .lss .i64 t9 t69 w fun t70 _ =>
  bb .neq t66 t70 w fun t71 _ =>
  gd t71 false (fun k => k t9 w) w fun t73 _ =>
  gd t71 false (fun k => k t30 w) w fun t74 _ =>
  gd t71 false (fun k => lnS t74 w k) w fun t75 _ =>
  gd t71 false (fun k => bi .lss .i64 t73 t75 w k) w fun t76 _ =>
  gd t71 false (fun k => k t76 w) w fun t77 _ =>
  gd t77 true (fun k => k t30 w) w fun t78 _ =>
  gd t77 true (fun k => k t9 w) w fun t79 _ =>
  gd t77 true (fun k => ixS 6 t78 t79 w k) w fun t80 _ =>
  gd t77 true (fun k => ldN 6 t80 w k) w fun t81 _ =>
  gd t77 true (fun k => k t27 w) w fun t82 _ =>
  gd t77 true (fun k => k t9 w) w fun t83 _ =>
  gd t77 true (fun k => ixS 6 t82 t83 w k) w fun t84 _ =>
  gd t77 true (fun k => ldN 6 t84 w k) w fun t85 _ =>
  gd t77 true (fun k => bO prog .neq 30 (Operand.tmp 81) (Operand.tmp 85) t81 t85 w k) w fun t86 w =>
  gd t71 false (fun k => pk t77 t86 (Value.bool false) w k) w fun t87 _ =>
  pk t71 (Value.bool true) t87 w fun t88 _ =>
  iff' t88
  (K (Value.bool false) w)
  (bi .add .i64 t9 (Value.int IntKind.i64 1) w fun t58 w =>
  g2 [t58] w))
  (Cl prog 8 #[(Value.int IntKind.i64 1)] w fun t89 w =>
  bld (zeroD prog 30) #[(0, 3), (3, 1), (4, 1), (5, 1)] [] w fun t90 w =>
  Cl prog 9 #[t89, t90] w fun t91 w =>
  bi .eql .i64 t91 (Value.int IntKind.i64 0) w fun t92 w =>
  K t92 w))))))
theorem pacelinelaw03_PrioBelow_eq (t0 t1 : Value) (w : World) (K : KV) : pacelinelaw03_PrioBelow t0 t1 w K = fnW prog 93 [4] (match fn4.body with | some c => c | none => .skip) #[t0, t1] w K := by kernel_rfl
theorem pacelinelaw03_PrioBelow_ok : fnOk prog 93 [4] (match fn4.body with | some c => c | none => .skip) = true := by kernel_rfl
theorem pacelinelaw03_PrioBelow_calls {t0 t1 : Value} {w : World} {K : KV} (h : pacelinelaw03_PrioBelow t0 t1 w K) : Cl prog 4 #[t0, t1] w K :=
  Cl.mk (by kernel_rfl) (calls_of_F (fn := fn4) (nt := 93) (rs := [4]) mixed fnAt4 (by kernel_rfl) (by kernel_rfl) (by kernel_rfl) (Nat.le_of_ble_eq_true (by kernel_rfl)) pacelinelaw03_PrioBelow_ok (pacelinelaw03_PrioBelow_eq t0 t1 w K) h)

/-- paceline/pacelinelaw03.PrioFirst -/
def pacelinelaw03_PrioFirst (t0 t1 : Value) (w : World) (K : KV) : Prop :=
  lnS t0 w fun t17 w =>
  bi .gtr .i64 t17 (Value.int IntKind.i64 64) w fun t18 w =>
  iff' t18
  (K (Value.bool true) w)
  (Cl prog 8 #[(Value.int IntKind.i64 64)] w fun t19 w =>
  lp [(Value.int IntKind.i64 0)] w (b1 fun t6 w g1 =>
  lnS t0 w fun t22 w =>
  bi .lss .i64 t6 t22 w fun t23 w =>
  iff' t23
  (ixS 6 t0 t6 w fun t29 w =>
  ldN 6 t29 w fun t30 w =>
  Cl prog 9 #[t19, t30] w fun _ w =>
  bi .add .i64 t6 (Value.int IntKind.i64 1) w fun t25 w =>
  g1 [t25] w)
  (Cl prog 8 #[(Value.int IntKind.i64 1)] w fun t32 w =>
  bld (zeroD prog 30) #[(0, 3), (3, 1), (4, 1), (5, 1)] [] w fun t34 w =>
  Cl prog 9 #[t32, t34] w fun t35 w =>
  bi .neq .i64 t35 (Value.int IntKind.i64 0) w fun t36 w =>
  gd t36 false (fun k => k t32 w) w fun t38 w =>
  gd t36 false (fun k => Cl prog 10 #[t38] w k) w fun t39 w =>
  gd t36 false (fun k => bi .neq .i64 t39 (Value.int IntKind.i64 1) w k) w fun t40 w =>
  pk t36 (Value.bool true) t40 w fun t41 w =>
  iff' t41
  (K (Value.bool false) w)
  (lp [(Value.int IntKind.i64 0)] w (b1 fun t8 w g2 =>
  cvI .i64 t1 w fun t44 w =>
  bi .rem .i64 t44 (Value.int IntKind.i64 9) w fun t45 w =>
  bi .leq .i64 t8 t45 w fun t46 w =>
  iff' t46
  (Cl prog 11 #[t19] w fun t51 w =>
  xt 0 t51 w fun t52 w =>
  xt 1 t51 w fun t53 w =>
  al (zeroD prog 30) 30 w fun t9 w =>
  stN 6 t9 t52 w fun _ w =>
  Cl prog 12 #[t19] w fun t55 w =>
  lnS t55 w fun t58 w =>
  bi .gtr .i64 t58 (Value.int IntKind.i64 0) w fun t59 w =>
  bb .neq t53 t59 w fun t60 w =>
  iff' t60
  (K (Value.bool false) w)
  (lp [(Value.int IntKind.i64 0)] w (b1 fun t12 w g3 =>
  lnS t55 w fun t63 w =>
  bi .lss .i64 t12 t63 w fun t64 w =>
  iff' t64
  (dr w fun w =>
  fld 0 t9 w fun t67 _ =>
  ldN 3 t67 w fun t68 _ =>
  ixS 6 t55 t12 w fun t71 _ =>
  fld 0 t71 w fun t72 _ =>
  ldN 3 t72 w fun t73 _ =>
  Cl prog 14 #[t68, t73] w fun t74 w =>
  bi .gtr .i64 t74 (Value.int IntKind.i64 0) w fun t75 _ =>
  gd t75 false (fun k => k t12 w) w fun t77 _ =>
  gd t75 false (fun k => bi .eql .i64 t77 (Value.int IntKind.i64 0) w k) w fun t78 _ =>
  gd t75 false (fun k => k t78 w) w fun t79 _ =>
  gd t79 true (fun k => ldN 6 t9 w k) w fun t80 _ =>
  gd t79 true (fun k => k t55 w) w fun t81 _ =>
  gd t79 true (fun k => ixS 6 t81 (Value.int IntKind.i64 0) w k) w fun t82 _ =>
  gd t79 true (fun k => ldN 6 t82 w k) w fun t83 _ =>
  gd t79 true (fun k => bO prog .neq 30 (Operand.tmp 80) (Operand.tmp 83) t80 t83 w k) w fun t84 w =>
  gd t75 false (fun k => pk t79 t84 (Value.bool false) w k) w fun t85 _ =>
  pk t75 (Value.bool true) t85 w fun t86 _ =>
  iff' t86
  (K (Value.bool false) w)
  (bi .add .i64 t12 (Value.int IntKind.i64 1) w fun t66 w =>
  g3 [t66] w))
  (Cl prog 10 #[t19] w fun t88 w =>
  Cl prog 15 #[t19] w fun t91 w =>
  xt 0 t91 w fun t92 w =>
  xt 1 t91 w fun t93 w =>
  al (zeroD prog 30) 30 w fun t14 w =>
  stN 6 t14 t92 w fun _ w =>
  ldN 6 t14 w fun t94 w =>
  ldN 6 t9 w fun t95 w =>
  bO prog .neq 30 (Operand.tmp 94) (Operand.tmp 95) t94 t95 w fun t96 w =>
  gd t96 false (fun k => k t93 w) w fun t98 w =>
  gd t96 false (fun k => k t53 w) w fun t99 w =>
  gd t96 false (fun k => bb .neq t98 t99 w k) w fun t100 w =>
  pk t96 (Value.bool true) t100 w fun t101 w =>
  gd t101 false (fun k => k t53 w) w fun t103 w =>
  gd t101 false (fun k => k t103 w) w fun t104 w =>
  gd t104 true (fun k => k t19 w) w fun t105 w =>
  gd t104 true (fun k => Cl prog 10 #[t105] w k) w fun t106 w =>
  gd t104 true (fun k => k t88 w) w fun t107 w =>
  gd t104 true (fun k => bi .sub .i64 t107 (Value.int IntKind.i64 1) w k) w fun t108 w =>
  gd t104 true (fun k => bi .neq .i64 t106 t108 w k) w fun t109 w =>
  gd t101 false (fun k => pk t104 t109 (Value.bool false) w k) w fun t110 w =>
  pk t101 (Value.bool true) t110 w fun t111 w =>
  iff' t111
  (K (Value.bool false) w)
  (bi .add .i64 t8 (Value.int IntKind.i64 1) w fun t48 w =>
  g2 [t48] w)))))
  (Cl prog 8 #[(Value.int IntKind.i64 1)] w fun t112 w =>
  bld (zeroD prog 30) #[(0, 3), (3, 1), (4, 1), (5, 1)] [] w fun t113 w =>
  Cl prog 9 #[t112, t113] w fun t114 w =>
  bi .eql .i64 t114 (Value.int IntKind.i64 0) w fun t115 w =>
  K t115 w))))))
theorem pacelinelaw03_PrioFirst_eq (t0 t1 : Value) (w : World) (K : KV) : pacelinelaw03_PrioFirst t0 t1 w K = fnW prog 116 [4] (match fn5.body with | some c => c | none => .skip) #[t0, t1] w K := by kernel_rfl
theorem pacelinelaw03_PrioFirst_ok : fnOk prog 116 [4] (match fn5.body with | some c => c | none => .skip) = true := by kernel_rfl
theorem pacelinelaw03_PrioFirst_calls {t0 t1 : Value} {w : World} {K : KV} (h : pacelinelaw03_PrioFirst t0 t1 w K) : Cl prog 5 #[t0, t1] w K :=
  Cl.mk (by kernel_rfl) (calls_of_F (fn := fn5) (nt := 116) (rs := [4]) mixed fnAt5 (by kernel_rfl) (by kernel_rfl) (by kernel_rfl) (Nat.le_of_ble_eq_true (by kernel_rfl)) pacelinelaw03_PrioFirst_ok (pacelinelaw03_PrioFirst_eq t0 t1 w K) h)

/-- paceline/pacelinelaw03.PrioGone -/
def pacelinelaw03_PrioGone (t0 t1 : Value) (w : World) (K : KV) : Prop :=
  lnS t0 w fun t15 w =>
  bi .gtr .i64 t15 (Value.int IntKind.i64 64) w fun t16 w =>
  gd t16 false (fun k => k t1 w) w fun t18 w =>
  gd t16 false (fun k => lnS t18 w k) w fun t19 w =>
  gd t16 false (fun k => bi .gtr .i64 t19 (Value.int IntKind.i64 200) w k) w fun t20 w =>
  pk t16 (Value.bool true) t20 w fun t21 w =>
  iff' t21
  (K (Value.bool true) w)
  (Cl prog 8 #[(Value.int IntKind.i64 64)] w fun t22 w =>
  bsl 30 6 0 #[] [] w fun t23 w =>
  lp [t23, (Value.int IntKind.i64 0)] w (b2 fun t6 t7 w g1 =>
  lnS t0 w fun t26 w =>
  bi .lss .i64 t7 t26 w fun t27 w =>
  iff' t27
  (J1 (fun t6_1 w =>
  bi .add .i64 t7 (Value.int IntKind.i64 1) w fun t29 w =>
  g1 [t6_1, t29] w) fun k2 =>
  ixS 6 t0 t7 w fun t33 w =>
  ldN 6 t33 w fun t34 w =>
  Cl prog 9 #[t22, t34] w fun t35 w =>
  bi .eql .i64 t35 (Value.int IntKind.i64 0) w fun t36 w =>
  iff' t36
  (ixS 6 t0 t7 w fun t40 w =>
  ldN 6 t40 w fun t41 w =>
  Cl prog 16 #[t6, t41] w fun t42 w =>
  k2 t42 w)
  (k2 t6 w))
  (Cl prog 10 #[t22] w fun t44 w =>
  lnS t6 w fun t46 w =>
  bi .neq .i64 t44 t46 w fun t47 w =>
  iff' t47
  (K (Value.bool false) w)
  (lp [t6, (Value.int IntKind.i64 0)] w (b2 fun t6_2 t8 w g3 =>
  lnS t1 w fun t50 w =>
  bi .lss .i64 t8 t50 w fun t51 w =>
  gd t51 true (fun k => k t6_2 w) w fun t53 w =>
  gd t51 true (fun k => lnS t53 w k) w fun t54 w =>
  gd t51 true (fun k => bi .gtr .i64 t54 (Value.int IntKind.i64 0) w k) w fun t55 w =>
  pk t51 t55 (Value.bool false) w fun t56 w =>
  iff' t56
  (ixS 1 t1 t8 w fun t62 w =>
  ld1 t62 w fun t63 w =>
  cvI .i64 t63 w fun t64 w =>
  lnS t6_2 w fun t66 w =>
  bi .rem .i64 t64 t66 w fun t67 w =>
  ixS 6 t6_2 t67 w fun t68 w =>
  ldN 6 t68 w fun t69 w =>
  al (zeroD prog 30) 30 w fun t9 w =>
  stN 6 t9 t69 w fun _ w =>
  fld 0 t9 w fun t72 w =>
  ldN 3 t72 w fun t73 w =>
  Cl prog 17 #[t22, t73] w fun t74 w =>
  xt 0 t74 w fun t75 w =>
  xt 1 t74 w fun t76 w =>
  al (zeroD prog 30) 30 w fun t10 w =>
  stN 6 t10 t75 w fun _ w =>
  fld 0 t9 w fun t79 w =>
  ldN 3 t79 w fun t80 w =>
  Cl prog 17 #[t22, t80] w fun t81 w =>
  xt 0 t81 w fun t82 w =>
  xt 1 t81 w fun t83 w =>
  al (zeroD prog 30) 30 w fun t12 w =>
  stN 6 t12 t82 w fun _ w =>
  ldN 6 t10 w fun t84 w =>
  ldN 6 t9 w fun t85 w =>
  bO prog .neq 30 (Operand.tmp 84) (Operand.tmp 85) t84 t85 w fun t86 w =>
  gd t86 false (fun k => k t76 w) w fun t88 w =>
  gd t86 false (fun k => bnot t88 w k) w fun t89 w =>
  pk t86 (Value.bool true) t89 w fun t90 w =>
  gd t90 false (fun k => k t83 w) w fun t92 w =>
  pk t90 (Value.bool true) t92 w fun t93 w =>
  iff' t93
  (K (Value.bool false) w)
  (fld 0 t9 w fun t95 w =>
  ldN 3 t95 w fun t96 w =>
  Cl prog 18 #[t6_2, t96] w fun t97 w =>
  bi .add .i64 t8 (Value.int IntKind.i64 1) w fun t58 w =>
  g3 [t97, t58] w))
  (Cl prog 12 #[t22] w fun t99 w =>
  Cl prog 19 #[t99, t6_2] w fun t101 w =>
  gd t101 true (fun k => k t22 w) w fun t103 w =>
  gd t101 true (fun k => bld (zeroD prog 28) #[(0, 1), (1, 1), (2, 1)] [(0, (Value.int IntKind.i64 (-3))), (1, (Value.int IntKind.i64 (-3)))] w k) w fun t104 w =>
  gd t101 true (fun k => bld (zeroD prog 30) #[(0, 3), (3, 1), (4, 1), (5, 1)] [(0, t104)] w k) w fun t105 w =>
  gd t101 true (fun k => Cl prog 9 #[t103, t105] w k) w fun t106 w =>
  gd t101 true (fun k => bi .neq .i64 t106 (Value.int IntKind.i64 4) w k) w fun t107 w =>
  pk t101 t107 (Value.bool false) w fun t108 w =>
  gd t108 true (fun k => k t22 w) w fun t110 w =>
  gd t108 true (fun k => Cl prog 10 #[t110] w k) w fun t111 w =>
  gd t108 true (fun k => bi .gtr .i64 t111 (Value.int IntKind.i64 0) w k) w fun t112 w =>
  pk t108 t112 (Value.bool false) w fun t113 w =>
  K t113 w))))))
theorem pacelinelaw03_PrioGone_eq (t0 t1 : Value) (w : World) (K : KV) : pacelinelaw03_PrioGone t0 t1 w K = fnW prog 114 [4] (match fn6.body with | some c => c | none => .skip) #[t0, t1] w K := by kernel_rfl
theorem pacelinelaw03_PrioGone_ok : fnOk prog 114 [4] (match fn6.body with | some c => c | none => .skip) = true := by kernel_rfl
theorem pacelinelaw03_PrioGone_calls {t0 t1 : Value} {w : World} {K : KV} (h : pacelinelaw03_PrioGone t0 t1 w K) : Cl prog 6 #[t0, t1] w K :=
  Cl.mk (by kernel_rfl) (calls_of_F (fn := fn6) (nt := 114) (rs := [4]) mixed fnAt6 (by kernel_rfl) (by kernel_rfl) (by kernel_rfl) (Nat.le_of_ble_eq_true (by kernel_rfl)) pacelinelaw03_PrioGone_ok (pacelinelaw03_PrioGone_eq t0 t1 w K) h)

/-- paceline/pacelinelaw03.PrioScript -/
def pacelinelaw03_PrioScript (t0 t1 : Value) (w : World) (K : KV) : Prop :=
  lnS t1 w fun t14 w =>
  bi .gtr .i64 t14 (Value.int IntKind.i64 300) w fun t15 w =>
  iff' t15
  (K (Value.bool true) w)
  (Cl prog 8 #[t0] w fun t17 w =>
  Cl prog 20 #[t0] w fun t19 w =>
  bn .eql t17 w fun t21 w =>
  iff' t21
  (K (Value.bool false) w)
  (lp [(Value.int IntKind.i64 0)] w (b1 fun t7 w g1 =>
  lnS t1 w fun t24 w =>
  bi .lss .i64 t7 t24 w fun t25 w =>
  iff' t25
  (ixS 7 t1 t7 w fun t30 w =>
  ldN 7 t30 w fun t31 w =>
  al (zeroD prog 49) 49 w fun t8 w =>
  stN 7 t8 t31 w fun _ w =>
  fld 0 t8 w fun t32 w =>
  ld1 t32 w fun t33 w =>
  J0 (fun w =>
  Cl prog 10 #[t17] w fun t116 w =>
  Cl prog 26 #[t19] w fun t118 w =>
  bi .neq .i64 t116 t118 w fun t119 w =>
  gd t119 false (fun k => k t17 w) w fun t121 w =>
  gd t119 false (fun k => Cl prog 12 #[t121] w k) w fun t122 w =>
  gd t119 false (fun k => k t19 w) w fun t123 w =>
  gd t119 false (fun k => Cl prog 27 #[t123] w k) w fun t124 w =>
  gd t119 false (fun k => Cl prog 19 #[t122, t124] w k) w fun t125 w =>
  gd t119 false (fun k => bnot t125 w k) w fun t126 w =>
  pk t119 (Value.bool true) t126 w fun t127 w =>
  iff' t127
  (K (Value.bool false) w)
  (bi .add .i64 t7 (Value.int IntKind.i64 1) w fun t27 w =>
  g1 [t27] w)) fun k2 =>
  bi .eql .i64 t33 (Value.int IntKind.i64 0) w fun t35 w =>
  iff' t35
  (dr w fun w =>
  fld 1 t8 w fun t37 _ =>
  ldN 6 t37 w fun t38 _ =>
  fld 1 t8 w fun t41 _ =>
  ldN 6 t41 w fun t42 _ =>
  Cl prog 9 #[t17, t38] w fun t39 w =>
  (ldN 6 t41 w (fun v' w'' => v' = t42 ∧ w'' = w)) ∧ (Cl prog 21 #[t19, t42] w fun t43 w =>
  bi .neq .i64 t39 t43 w fun t44 _ =>
  iff' t44
  (K (Value.bool false) w)
  (k2 w)))
  (bi .eql .i64 t33 (Value.int IntKind.i64 1) w fun t46 w =>
  J1 (fun t45 w =>
  iff' t45
  (Cl prog 11 #[t17] w fun t51 w =>
  xt 0 t51 w fun t52 w =>
  xt 1 t51 w fun t53 w =>
  al (zeroD prog 30) 30 w fun t9 w =>
  stN 6 t9 t52 w fun _ w =>
  Cl prog 22 #[t19] w fun t56 w =>
  xt 0 t56 w fun t57 w =>
  xt 1 t56 w fun t58 w =>
  al (zeroD prog 30) 30 w fun t11 w =>
  stN 6 t11 t57 w fun _ w =>
  fld 0 t8 w fun t59 w =>
  ld1 t59 w fun t60 w =>
  bi .eql .i64 t60 (Value.int IntKind.i64 1) w fun t61 w =>
  J2 (fun t10 t12 w =>
  fld 0 t8 w fun t72 w =>
  ld1 t72 w fun t73 w =>
  bi .eql .i64 t73 (Value.int IntKind.i64 3) w fun t74 w =>
  J2 (fun t10_1 t12_1 w =>
  ldN 6 t9 w fun t91 w =>
  ldN 6 t11 w fun t92 w =>
  bO prog .neq 30 (Operand.tmp 91) (Operand.tmp 92) t91 t92 w fun t93 w =>
  gd t93 false (fun k => k t10_1 w) w fun t95 w =>
  gd t93 false (fun k => k t12_1 w) w fun t96 w =>
  gd t93 false (fun k => bb .neq t95 t96 w k) w fun t97 w =>
  pk t93 (Value.bool true) t97 w fun t98 w =>
  iff' t98
  (K (Value.bool false) w)
  (k2 w)) fun k5 =>
  iff' t74
  (fld 1 t8 w fun t77 w =>
  fld 0 t77 w fun t78 w =>
  ldN 3 t78 w fun t79 w =>
  Cl prog 17 #[t17, t79] w fun t80 w =>
  xt 0 t80 w fun t81 w =>
  xt 1 t80 w fun t82 w =>
  stN 6 t9 t81 w fun _ w =>
  fld 1 t8 w fun t85 w =>
  fld 0 t85 w fun t86 w =>
  ldN 3 t86 w fun t87 w =>
  Cl prog 24 #[t19, t87] w fun t88 w =>
  xt 0 t88 w fun t89 w =>
  xt 1 t88 w fun t90 w =>
  stN 6 t11 t89 w fun _ w =>
  k5 t82 t90 w)
  (k5 t10 t12 w)) fun k4 =>
  iff' t61
  (Cl prog 15 #[t17] w fun t64 w =>
  xt 0 t64 w fun t65 w =>
  xt 1 t64 w fun t66 w =>
  stN 6 t9 t65 w fun _ w =>
  Cl prog 23 #[t19] w fun t69 w =>
  xt 0 t69 w fun t70 w =>
  xt 1 t69 w fun t71 w =>
  stN 6 t11 t70 w fun _ w =>
  k4 t66 t71 w)
  (k4 t53 t58 w))
  (bi .eql .i64 t33 (Value.int IntKind.i64 4) w fun t100 w =>
  iff' t100
  (dr w fun w =>
  fld 1 t8 w fun t102 _ =>
  fld 0 t102 w fun t103 _ =>
  fld 0 t103 w fun t104 _ =>
  ld1 t104 w fun t105 _ =>
  fld 1 t8 w fun t108 _ =>
  fld 0 t108 w fun t109 _ =>
  fld 0 t109 w fun t110 _ =>
  ld1 t110 w fun t111 _ =>
  Cl prog 13 #[t17, t105] w fun t106 w =>
  (ld1 t110 w (fun v' w'' => v' = t111 ∧ w'' = w)) ∧ (Cl prog 25 #[t19, t111] w fun t112 w =>
  Cl prog 19 #[t106, t112] w fun t113 w =>
  bnot t113 w fun t114 _ =>
  iff' t114
  (K (Value.bool false) w)
  (k2 w)))
  (k2 w))) fun k3 =>
  iff' t46
  (k3 t46 w)
  (bi .eql .i64 t33 (Value.int IntKind.i64 2) w fun t47 w =>
  iff' t47
  (k3 t47 w)
  (bi .eql .i64 t33 (Value.int IntKind.i64 3) w fun t48 w =>
  k3 t48 w))))
  (bld (zeroD prog 28) #[(0, 1), (1, 1), (2, 1)] [(0, (Value.int IntKind.i64 (-7)))] w fun t129 w =>
  bld (zeroD prog 30) #[(0, 3), (3, 1), (4, 1), (5, 1)] [(0, t129)] w fun t130 w =>
  Cl prog 9 #[t17, t130] w fun t131 w =>
  bld (zeroD prog 28) #[(0, 1), (1, 1), (2, 1)] [(0, (Value.int IntKind.i64 (-7)))] w fun t133 w =>
  bld (zeroD prog 30) #[(0, 3), (3, 1), (4, 1), (5, 1)] [(0, t133)] w fun t134 w =>
  Cl prog 21 #[t19, t134] w fun t135 w =>
  bi .eql .i64 t131 t135 w fun t136 w =>
  gd t136 true (fun k => k t17 w) w fun t138 w =>
  gd t136 true (fun k => Cl prog 10 #[t138] w k) w fun t139 w =>
  gd t136 true (fun k => k t19 w) w fun t140 w =>
  gd t136 true (fun k => Cl prog 26 #[t140] w k) w fun t141 w =>
  gd t136 true (fun k => bi .eql .i64 t139 t141 w k) w fun t142 w =>
  pk t136 t142 (Value.bool false) w fun t143 w =>
  K t143 w))))
theorem pacelinelaw03_PrioScript_eq (t0 t1 : Value) (w : World) (K : KV) : pacelinelaw03_PrioScript t0 t1 w K = fnW prog 144 [4] (match fn7.body with | some c => c | none => .skip) #[t0, t1] w K := by kernel_rfl
theorem pacelinelaw03_PrioScript_ok : fnOk prog 144 [4] (match fn7.body with | some c => c | none => .skip) = true := by kernel_rfl
theorem pacelinelaw03_PrioScript_calls {t0 t1 : Value} {w : World} {K : KV} (h : pacelinelaw03_PrioScript t0 t1 w K) : Cl prog 7 #[t0, t1] w K :=
  Cl.mk (by kernel_rfl) (calls_of_F (fn := fn7) (nt := 144) (rs := [4]) mixed fnAt7 (by kernel_rfl) (by kernel_rfl) (by kernel_rfl) (Nat.le_of_ble_eq_true (by kernel_rfl)) pacelinelaw03_PrioScript_ok (pacelinelaw03_PrioScript_eq t0 t1 w K) h)

/-- paceline/prio.New -/
def prio_New (t0 : Value) (w : World) (K : KV) : Prop :=
  mnI .i64 t0 (Value.int IntKind.i64 64) w fun t4 w =>
  mxI .i64 (Value.int IntKind.i64 0) t4 w fun t5 w =>
  mkMap w fun t6 w =>
  bld (zeroD prog 53) #[(0, 1), (1, 1), (2, 1)] [(0, t5), (2, t6)] w fun t7 w =>
  al (Value.cells t7) 53 w fun t8 w =>
  K t8 w
theorem prio_New_eq (t0 : Value) (w : World) (K : KV) : prio_New t0 w K = fnW prog 9 [2] (match fn8.body with | some c => c | none => .skip) #[t0] w K := by kernel_rfl
theorem prio_New_ok : fnOk prog 9 [2] (match fn8.body with | some c => c | none => .skip) = true := by kernel_rfl
theorem prio_New_calls {t0 : Value} {w : World} {K : KV} (h : prio_New t0 w K) : Cl prog 8 #[t0] w K :=
  Cl.mk (by kernel_rfl) (calls_of_F (fn := fn8) (nt := 9) (rs := [2]) mixed fnAt8 (by kernel_rfl) (by kernel_rfl) (by kernel_rfl) (Nat.le_of_ble_eq_true (by kernel_rfl)) prio_New_ok (prio_New_eq t0 w K) h)

end Go.Proofs.Ytbfjpmbgjgjckaa
