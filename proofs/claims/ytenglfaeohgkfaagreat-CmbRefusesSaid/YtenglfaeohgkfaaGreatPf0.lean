/- Printed by prt.py: the Go functions of this seat as shallow predicate transformers. Conditions: none. -/
import Derived.Test.YtenglfaeohgkfaaGreatEngO
import Derived.Test.YtenglfaeohgkfaaGreatEngZ
import Derived.Test.YtenglfaeohgkfaaGreatPfHead
import Derived.KernelRfl
namespace Go.Proofs.YtenglfaeohgkfaaGreat
open Go Go.E
set_option linter.unusedVariables false
set_option maxRecDepth 100000
/-- paceline/pacelinelaw12.CmbRefuses -/
def pacelinelaw12_CmbRefuses (t0 t1 : Value) (w : World) (K : KV) : Prop :=
  al (Value.cells t1) 30 w fun t3 w =>
  lnS t0 w fun t16 w =>
  bi .gtr .i64 t16 (Value.int IntKind.i64 100) w fun t17 w =>
  gd t17 false (fun k => Cl prog 5 #[] w k) w fun t19 w =>
  gd t17 false (fun k => bnot t19 w k) w fun t20 w =>
  pk t17 (Value.bool true) t20 w fun t21 w =>
  iff' t21
  (Cl prog 5 #[] w fun t22 w =>
  K t22 w)
  (Cl prog 7 #[] w fun t24 w =>
  Cl prog 6 #[t24, (Value.int IntKind.i64 0)] w fun t25 w =>
  xt 0 t25 w fun t26 w =>
  xt 1 t25 w fun t27 w =>
  Cl prog 7 #[] w fun t29 w =>
  Cl prog 8 #[t29, (Value.int IntKind.i64 0)] w fun t30 w =>
  xt 0 t30 w fun t31 w =>
  xt 1 t30 w fun t32 w =>
  bi .neq .i64 t27 (Value.int IntKind.i64 0) w fun t34 w =>
  gd t34 false (fun k => k t32 w) w fun t36 w =>
  gd t34 false (fun k => bi .neq .i64 t36 (Value.int IntKind.i64 0) w k) w fun t37 w =>
  pk t34 (Value.bool true) t37 w fun t38 w =>
  gd t38 false (fun k => k t26 w) w fun t40 w =>
  gd t38 false (fun k => bn .eql t40 w k) w fun t41 w =>
  pk t38 (Value.bool true) t41 w fun t42 w =>
  iff' t42
  (K (Value.bool false) w)
  (lp [(Value.int IntKind.i64 0)] w (b1 fun t9 w g1 =>
  lnS t0 w fun t45 w =>
  bi .lss .i64 t9 t45 w fun t46 w =>
  iff' t46
  (J0 (fun w =>
  bi .add .i64 t9 (Value.int IntKind.i64 1) w fun t48 w =>
  g1 [t48] w) fun k2 =>
  ixS 10 t0 t9 w fun t51 w =>
  fld 0 t51 w fun t52 w =>
  ld1 t52 w fun t53 w =>
  bi .eql .i64 t53 (Value.int IntKind.i64 0) w fun t55 w =>
  iff' t55
  (dr w fun w =>
  ixS 10 t0 t9 w fun t59 _ =>
  fld 1 t59 w fun t60 _ =>
  ld1 t60 w fun t61 _ =>
  ixS 10 t0 t9 w fun t64 _ =>
  fld 2 t64 w fun t65 _ =>
  ldN 8 t65 w fun t66 _ =>
  Cl prog 9 #[t26, t61, t66] w fun _ w =>
  dr w fun w =>
  ixS 10 t0 t9 w fun t71 _ =>
  fld 1 t71 w fun t72 _ =>
  ld1 t72 w fun t73 _ =>
  ixS 10 t0 t9 w fun t76 _ =>
  fld 2 t76 w fun t77 _ =>
  ldN 8 t77 w fun t78 _ =>
  Cl prog 10 #[t31, t73, t78] w fun _ w =>
  k2 w)
  (bi .eql .i64 t53 (Value.int IntKind.i64 1) w fun t81 w =>
  iff' t81
  (Cl prog 11 #[t26] w fun _ w =>
  Cl prog 12 #[t31] w fun _ w =>
  k2 w)
  (k2 w)))
  (ncP t26 <|
  fld 1 t26 w fun t88 w =>
  ldN 1 t88 w fun t89 w =>
  Cl prog 13 #[t89] w fun t90 w =>
  ncP t26 <|
  fld 0 t26 w fun t93 w =>
  ld1 t93 w fun t94 w =>
  Cl prog 14 #[t94] w fun t95 w =>
  Cl prog 15 #[t26] w fun t97 w =>
  Cl prog 16 #[t26] w fun t99 w =>
  lnS t99 w fun t100 w =>
  fld 1 t3 w fun t102 w =>
  ld1 t102 w fun t103 w =>
  fld 2 t3 w fun t104 w =>
  ldN 8 t104 w fun t105 w =>
  Cl prog 9 #[t26, t103, t105] w fun t106 w =>
  fld 1 t3 w fun t109 w =>
  ld1 t109 w fun t110 w =>
  fld 2 t3 w fun t111 w =>
  ldN 8 t111 w fun t112 w =>
  Cl prog 10 #[t31, t110, t112] w fun t113 w =>
  bi .neq .i64 t106 t113 w fun t114 w =>
  iff' t114
  (K (Value.bool false) w)
  (bi .eql .i64 t106 (Value.int IntKind.i64 0) w fun t116 w =>
  iff' t116
  (fld 2 t3 w fun t117 w =>
  fld 0 t117 w fun t118 w =>
  ld1 t118 w fun t119 w =>
  bi .neq .i64 t119 (Value.int IntKind.i64 0) w fun t120 w =>
  gd t120 false (fun k => k t26 w) w fun t122 w =>
  gd t120 false (fun k => nc t122 w k) w fun t123 w =>
  gd t120 false (fun k => fld 1 t123 w k) w fun t124 w =>
  gd t120 false (fun k => ldN 1 t124 w k) w fun t125 w =>
  gd t120 false (fun k => Cl prog 13 #[t125] w k) w fun t126 w =>
  gd t120 false (fun k => lnS t126 w k) w fun t127 w =>
  gd t120 false (fun k => k t90 w) w fun t128 w =>
  gd t120 false (fun k => lnS t128 w k) w fun t129 w =>
  gd t120 false (fun k => bi .add .i64 t129 (Value.int IntKind.i64 1) w k) w fun t130 w =>
  gd t120 false (fun k => bi .eql .i64 t127 t130 w k) w fun t131 w =>
  pk t120 (Value.bool true) t131 w fun t132 w =>
  K t132 w)
  (ncP t26 <|
  fld 1 t26 w fun t135 w =>
  ldN 1 t135 w fun t136 w =>
  Cl prog 13 #[t136] w fun t137 w =>
  Cl prog 17 #[t137, t90] w fun t139 w =>
  gd t139 true (fun k => k t26 w) w fun t141 w =>
  gd t139 true (fun k => nc t141 w k) w fun t142 w =>
  gd t139 true (fun k => fld 0 t142 w k) w fun t143 w =>
  gd t139 true (fun k => ld1 t143 w k) w fun t144 w =>
  gd t139 true (fun k => Cl prog 14 #[t144] w k) w fun t145 w =>
  gd t139 true (fun k => k t95 w) w fun t146 w =>
  gd t139 true (fun k => bi .eql .i64 t145 t146 w k) w fun t147 w =>
  pk t139 t147 (Value.bool false) w fun t148 w =>
  gd t148 true (fun k => k t26 w) w fun t150 w =>
  gd t148 true (fun k => Cl prog 15 #[t150] w k) w fun t151 w =>
  gd t148 true (fun k => k t97 w) w fun t152 w =>
  gd t148 true (fun k => bi .eql .i64 t151 t152 w k) w fun t153 w =>
  pk t148 t153 (Value.bool false) w fun t154 w =>
  gd t154 true (fun k => k t26 w) w fun t156 w =>
  gd t154 true (fun k => Cl prog 16 #[t156] w k) w fun t157 w =>
  gd t154 true (fun k => lnS t157 w k) w fun t158 w =>
  gd t154 true (fun k => k t100 w) w fun t159 w =>
  gd t154 true (fun k => bi .eql .i64 t158 t159 w k) w fun t160 w =>
  pk t154 t160 (Value.bool false) w fun t161 w =>
  K t161 w))))))
theorem pacelinelaw12_CmbRefuses_eq (t0 t1 : Value) (w : World) (K : KV) : pacelinelaw12_CmbRefuses t0 t1 w K = fnW prog 162 [4] (match fn3.body with | some c => c | none => .skip) #[t0, t1] w K := by kernel_rfl
theorem pacelinelaw12_CmbRefuses_ok : fnOk prog 162 [4] (match fn3.body with | some c => c | none => .skip) = true := by kernel_rfl
theorem pacelinelaw12_CmbRefuses_calls {t0 t1 : Value} {w : World} {K : KV} (h : pacelinelaw12_CmbRefuses t0 t1 w K) : Cl prog 3 #[t0, t1] w K :=
  Cl.mk (by kernel_rfl) (calls_of_F (fn := fn3) (nt := 162) (rs := [4]) mixed fnAt3 (by kernel_rfl) (by kernel_rfl) (by kernel_rfl) (Nat.le_of_ble_eq_true (by kernel_rfl)) pacelinelaw12_CmbRefuses_ok (pacelinelaw12_CmbRefuses_eq t0 t1 w K) h)

/-- paceline/pacelinelaw12.CmbScript -/
def pacelinelaw12_CmbScript (t0 t1 t2 : Value) (w : World) (K : KV) : Prop :=
  al (Value.cells t0) 39 w fun t3 w =>
  ldN 3 t3 w fun t23 w =>
  Cl prog 18 #[t23] w fun t24 w =>
  bnot t24 w fun t25 w =>
  gd t25 false (fun k => k t2 w) w fun t27 w =>
  gd t25 false (fun k => lnS t27 w k) w fun t28 w =>
  gd t25 false (fun k => bi .gtr .i64 t28 (Value.int IntKind.i64 60) w k) w fun t29 w =>
  pk t25 (Value.bool true) t29 w fun t30 w =>
  iff' t30
  (Cl prog 5 #[] w fun t31 w =>
  K t31 w)
  (ldN 3 t3 w fun t33 w =>
  Cl prog 6 #[t33, t1] w fun t35 w =>
  xt 0 t35 w fun t36 w =>
  xt 1 t35 w fun t37 w =>
  ldN 3 t3 w fun t39 w =>
  Cl prog 8 #[t39, t1] w fun t41 w =>
  xt 0 t41 w fun t42 w =>
  xt 1 t41 w fun t43 w =>
  bi .neq .i64 t37 t43 w fun t46 w =>
  gd t46 false (fun k => k t36 w) w fun t48 w =>
  gd t46 false (fun k => bn .eql t48 w k) w fun t49 w =>
  gd t46 false (fun k => k t42 w) w fun t50 w =>
  gd t46 false (fun k => bn .eql t50 w k) w fun t51 w =>
  gd t46 false (fun k => bb .neq t49 t51 w k) w fun t52 w =>
  pk t46 (Value.bool true) t52 w fun t53 w =>
  gd t53 false (fun k => Cl prog 5 #[] w k) w fun t55 w =>
  gd t53 false (fun k => bnot t55 w k) w fun t56 w =>
  pk t53 (Value.bool true) t56 w fun t57 w =>
  iff' t57
  (K (Value.bool false) w)
  (bn .eql t42 w fun t59 w =>
  iff' t59
  (K (Value.bool true) w)
  (lp [(Value.int IntKind.i64 0)] w (b1 fun t11 w g1 =>
  lnS t2 w fun t62 w =>
  bi .lss .i64 t11 t62 w fun t63 w =>
  iff' t63
  (ixS 10 t2 t11 w fun t68 w =>
  ldN 10 t68 w fun t69 w =>
  al (zeroD prog 30) 30 w fun t12 w =>
  stN 10 t12 t69 w fun _ w =>
  fld 0 t12 w fun t70 w =>
  ld1 t70 w fun t71 w =>
  J0 (fun w =>
  Cl prog 21 #[t36] w fun t136 w =>
  Cl prog 22 #[t42] w fun t138 w =>
  bb .neq t136 t138 w fun t139 w =>
  gd t139 false (fun k => k t36 w) w fun t141 w =>
  gd t139 false (fun k => Cl prog 15 #[t141] w k) w fun t142 w =>
  gd t139 false (fun k => k t42 w) w fun t143 w =>
  gd t139 false (fun k => Cl prog 23 #[t143] w k) w fun t144 w =>
  gd t139 false (fun k => bi .neq .i64 t142 t144 w k) w fun t145 w =>
  pk t139 (Value.bool true) t145 w fun t146 w =>
  gd t146 false (fun k => k t36 w) w fun t148 w =>
  gd t146 false (fun k => nc t148 w k) w fun t149 w =>
  gd t146 false (fun k => fld 0 t149 w k) w fun t150 w =>
  gd t146 false (fun k => ld1 t150 w k) w fun t151 w =>
  gd t146 false (fun k => Cl prog 14 #[t151] w k) w fun t152 w =>
  gd t146 false (fun k => k t42 w) w fun t153 w =>
  gd t146 false (fun k => Cl prog 24 #[t153] w k) w fun t154 w =>
  gd t146 false (fun k => bi .neq .i64 t152 t154 w k) w fun t155 w =>
  pk t146 (Value.bool true) t155 w fun t156 w =>
  gd t156 false (fun k => k t36 w) w fun t158 w =>
  gd t156 false (fun k => nc t158 w k) w fun t159 w =>
  gd t156 false (fun k => fld 1 t159 w k) w fun t160 w =>
  gd t156 false (fun k => ldN 1 t160 w k) w fun t161 w =>
  gd t156 false (fun k => Cl prog 13 #[t161] w k) w fun t162 w =>
  gd t156 false (fun k => k t42 w) w fun t163 w =>
  gd t156 false (fun k => Cl prog 25 #[t163] w k) w fun t164 w =>
  gd t156 false (fun k => Cl prog 17 #[t162, t164] w k) w fun t165 w =>
  gd t156 false (fun k => bnot t165 w k) w fun t166 w =>
  pk t156 (Value.bool true) t166 w fun t167 w =>
  iff' t167
  (K (Value.bool false) w)
  (bi .add .i64 t11 (Value.int IntKind.i64 1) w fun t65 w =>
  g1 [t65] w)) fun k2 =>
  bi .eql .i64 t71 (Value.int IntKind.i64 0) w fun t73 w =>
  iff' t73
  (dr w fun w =>
  fld 1 t12 w fun t75 _ =>
  ld1 t75 w fun t76 _ =>
  fld 2 t12 w fun t77 _ =>
  ldN 8 t77 w fun t78 _ =>
  fld 1 t12 w fun t81 _ =>
  ld1 t81 w fun t82 _ =>
  fld 2 t12 w fun t83 _ =>
  ldN 8 t83 w fun t84 _ =>
  Cl prog 9 #[t36, t76, t78] w fun t79 w =>
  (ldN 8 t83 w (fun v' w'' => v' = t84 ∧ w'' = w)) ∧ ((ld1 t81 w (fun v' w'' => v' = t82 ∧ w'' = w)) ∧ (Cl prog 10 #[t42, t82, t84] w fun t85 w =>
  bi .neq .i64 t79 t85 w fun t86 _ =>
  iff' t86
  (K (Value.bool false) w)
  (k2 w))))
  (bi .eql .i64 t71 (Value.int IntKind.i64 1) w fun t88 w =>
  iff' t88
  (Cl prog 11 #[t36] w fun t91 w =>
  xt 0 t91 w fun t92 w =>
  xt 1 t91 w fun t93 w =>
  xt 2 t91 w fun t94 w =>
  al (zeroD prog 46) 46 w fun t13 w =>
  stN 7 t13 t92 w fun _ w =>
  Cl prog 12 #[t42] w fun t97 w =>
  xt 0 t97 w fun t98 w =>
  xt 1 t97 w fun t99 w =>
  xt 2 t97 w fun t100 w =>
  al (zeroD prog 46) 46 w fun t16 w =>
  stN 7 t16 t98 w fun _ w =>
  ldN 7 t13 w fun t101 w =>
  ldN 7 t16 w fun t102 w =>
  bO prog .neq 46 (Operand.tmp 101) (Operand.tmp 102) t101 t102 w fun t103 w =>
  gd t103 false (fun k => k t94 w) w fun t105 w =>
  gd t103 false (fun k => k t100 w) w fun t106 w =>
  gd t103 false (fun k => bi .neq .i64 t105 t106 w k) w fun t107 w =>
  pk t103 (Value.bool true) t107 w fun t108 w =>
  gd t108 false (fun k => k t93 w) w fun t110 w =>
  gd t108 false (fun k => k t99 w) w fun t111 w =>
  gd t108 false (fun k => Cl prog 17 #[t110, t111] w k) w fun t112 w =>
  gd t108 false (fun k => bnot t112 w k) w fun t113 w =>
  pk t108 (Value.bool true) t113 w fun t114 w =>
  iff' t114
  (K (Value.bool false) w)
  (k2 w))
  (bi .eql .i64 t71 (Value.int IntKind.i64 2) w fun t116 w =>
  iff' t116
  (Cl prog 19 #[t36] w fun t119 w =>
  xt 0 t119 w fun t120 w =>
  xt 1 t119 w fun t121 w =>
  Cl prog 20 #[t42] w fun t124 w =>
  xt 0 t124 w fun t125 w =>
  xt 1 t124 w fun t126 w =>
  bi .neq .i64 t120 t125 w fun t129 w =>
  gd t129 false (fun k => k t121 w) w fun t131 w =>
  gd t129 false (fun k => k t126 w) w fun t132 w =>
  gd t129 false (fun k => bb .neq t131 t132 w k) w fun t133 w =>
  pk t129 (Value.bool true) t133 w fun t134 w =>
  iff' t134
  (K (Value.bool false) w)
  (k2 w))
  (k2 w))))
  (Cl prog 16 #[t36] w fun t169 w =>
  Cl prog 27 #[t42] w fun t171 w =>
  Cl prog 26 #[t169, t171] w fun t172 w =>
  K t172 w)))))
theorem pacelinelaw12_CmbScript_eq (t0 t1 t2 : Value) (w : World) (K : KV) : pacelinelaw12_CmbScript t0 t1 t2 w K = fnW prog 173 [6] (match fn4.body with | some c => c | none => .skip) #[t0, t1, t2] w K := by kernel_rfl
theorem pacelinelaw12_CmbScript_ok : fnOk prog 173 [6] (match fn4.body with | some c => c | none => .skip) = true := by kernel_rfl
theorem pacelinelaw12_CmbScript_calls {t0 t1 t2 : Value} {w : World} {K : KV} (h : pacelinelaw12_CmbScript t0 t1 t2 w K) : Cl prog 4 #[t0, t1, t2] w K :=
  Cl.mk (by kernel_rfl) (calls_of_F (fn := fn4) (nt := 173) (rs := [6]) mixed fnAt4 (by kernel_rfl) (by kernel_rfl) (by kernel_rfl) (Nat.le_of_ble_eq_true (by kernel_rfl)) pacelinelaw12_CmbScript_ok (pacelinelaw12_CmbScript_eq t0 t1 t2 w K) h)

/-- paceline/pacelinelaw12.shown -/
def pacelinelaw12_shown (w : World) (K : KV) : Prop :=
  Cl prog 7 #[] w fun t7 w =>
  Cl prog 6 #[t7, (Value.int IntKind.i64 0)] w fun t8 w =>
  xt 0 t8 w fun t9 w =>
  xt 1 t8 w fun t10 w =>
  bi .neq .i64 t10 (Value.int IntKind.i64 0) w fun t12 w =>
  gd t12 false (fun k => k t9 w) w fun t14 w =>
  gd t12 false (fun k => bn .eql t14 w k) w fun t15 w =>
  pk t12 (Value.bool true) t15 w fun t16 w =>
  gd t16 false (fun k => k t9 w) w fun t18 w =>
  gd t16 false (fun k => bld (zeroD prog 24) #[(0, 1), (1, 1), (2, 1)] [(0, (Value.int IntKind.i64 5)), (1, (Value.int IntKind.i64 1))] w k) w fun t19 w =>
  gd t16 false (fun k => bld (zeroD prog 26) #[(0, 3), (3, 1), (4, 1), (5, 1)] [(0, t19)] w k) w fun t20 w =>
  gd t16 false (fun k => bld (zeroD prog 28) #[(0, 1), (1, 6), (7, 1)] [(1, t20)] w k) w fun t21 w =>
  gd t16 false (fun k => Cl prog 9 #[t18, (Value.int IntKind.i64 1), t21] w k) w fun t22 w =>
  gd t16 false (fun k => bi .neq .i64 t22 (Value.int IntKind.i64 0) w k) w fun t23 w =>
  pk t16 (Value.bool true) t23 w fun t24 w =>
  gd t24 false (fun k => k t9 w) w fun t26 w =>
  gd t24 false (fun k => Cl prog 21 #[t26] w k) w fun t27 w =>
  pk t24 (Value.bool true) t27 w fun t28 w =>
  iff' t28
  (K (Value.bool false) w)
  (bld (zeroD prog 24) #[(0, 1), (1, 1), (2, 1)] [(0, (Value.int IntKind.i64 6))] w fun t30 w =>
  bld (zeroD prog 26) #[(0, 3), (3, 1), (4, 1), (5, 1)] [(0, t30)] w fun t31 w =>
  bld (zeroD prog 28) #[(0, 1), (1, 6), (7, 1)] [(0, (Value.int IntKind.i64 2)), (1, t31)] w fun t32 w =>
  Cl prog 9 #[t9, (Value.int IntKind.i64 1), t32] w fun _ w =>
  bld (zeroD prog 24) #[(0, 1), (1, 1), (2, 1)] [(0, (Value.int IntKind.i64 6))] w fun t35 w =>
  bld (zeroD prog 26) #[(0, 3), (3, 1), (4, 1), (5, 1)] [(0, t35)] w fun t36 w =>
  bld (zeroD prog 28) #[(0, 1), (1, 6), (7, 1)] [(0, (Value.int IntKind.i64 2)), (1, t36)] w fun t37 w =>
  Cl prog 9 #[t9, (Value.int IntKind.i64 2), t37] w fun _ w =>
  Cl prog 11 #[t9] w fun t41 w =>
  xt 0 t41 w fun t42 w =>
  xt 1 t41 w fun t43 w =>
  xt 2 t41 w fun t44 w =>
  al (zeroD prog 46) 46 w fun t3 w =>
  stN 7 t3 t42 w fun _ w =>
  bi .eql .i64 t44 (Value.int IntKind.i64 0) w fun t46 w =>
  gd t46 true (fun k => k t43 w) w fun t48 w =>
  gd t46 true (fun k => lnS t48 w k) w fun t49 w =>
  gd t46 true (fun k => bi .eql .i64 t49 (Value.int IntKind.i64 1) w k) w fun t50 w =>
  pk t46 t50 (Value.bool false) w fun t51 w =>
  gd t51 true (fun k => k t43 w) w fun t53 w =>
  gd t51 true (fun k => ixS 6 t53 (Value.int IntKind.i64 0) w k) w fun t54 w =>
  gd t51 true (fun k => fld 0 t54 w k) w fun t55 w =>
  gd t51 true (fun k => fld 0 t55 w k) w fun t56 w =>
  gd t51 true (fun k => ld1 t56 w k) w fun t57 w =>
  gd t51 true (fun k => bi .eql .i64 t57 (Value.int IntKind.i64 7) w k) w fun t58 w =>
  pk t51 t58 (Value.bool false) w fun t59 w =>
  gd t59 true (fun k => k t9 w) w fun t61 w =>
  gd t59 true (fun k => Cl prog 16 #[t61] w k) w fun t62 w =>
  gd t59 true (fun k => lnS t62 w k) w fun t63 w =>
  gd t59 true (fun k => bi .eql .i64 t63 (Value.int IntKind.i64 1) w k) w fun t64 w =>
  pk t59 t64 (Value.bool false) w fun t65 w =>
  K t65 w)
theorem pacelinelaw12_shown_eq (w : World) (K : KV) : pacelinelaw12_shown w K = fnW prog 66 [0] (match fn5.body with | some c => c | none => .skip) #[] w K := by kernel_rfl
theorem pacelinelaw12_shown_ok : fnOk prog 66 [0] (match fn5.body with | some c => c | none => .skip) = true := by kernel_rfl
theorem pacelinelaw12_shown_calls {w : World} {K : KV} (h : pacelinelaw12_shown w K) : Cl prog 5 #[] w K :=
  Cl.mk (by kernel_rfl) (calls_of_F (fn := fn5) (nt := 66) (rs := [0]) mixed fnAt5 (by kernel_rfl) (by kernel_rfl) (by kernel_rfl) (Nat.le_of_ble_eq_true (by kernel_rfl)) pacelinelaw12_shown_ok (pacelinelaw12_shown_eq w K) h)

/-- paceline/cmb.New -/
def cmb_New (t0 t1 : Value) (w : World) (K : KV) : Prop :=
  al (Value.cells t0) 39 w fun t2 w =>
  ldN 3 t2 w fun t11 w =>
  Cl prog 28 #[t11] w fun t12 w =>
  xt 0 t12 w fun _ w =>
  xt 1 t12 w fun t14 w =>
  bi .neq .i64 t14 (Value.int IntKind.i64 0) w fun t16 w =>
  iff' t16
  (K (Value.tuple #[(Value.pointer none), t14]) w)
  (bi .lss .i64 t1 (Value.int IntKind.i64 0) w fun t19 w =>
  gd t19 false (fun k => k t1 w) w fun t21 w =>
  gd t19 false (fun k => fld 1 t2 w k) w fun t22 w =>
  gd t19 false (fun k => ld1 t22 w k) w fun t23 w =>
  gd t19 false (fun k => lnS t23 w k) w fun t24 w =>
  gd t19 false (fun k => bi .geq .i64 t21 t24 w k) w fun t25 w =>
  pk t19 (Value.bool true) t25 w fun t26 w =>
  gd t26 false (fun k => fld 1 t2 w k) w fun t28 w =>
  gd t26 false (fun k => ld1 t28 w k) w fun t29 w =>
  gd t26 false (fun k => k t1 w) w fun t30 w =>
  gd t26 false (fun k => ixS 7 t29 t30 w k) w fun t31 w =>
  gd t26 false (fun k => fld 0 t31 w k) w fun t32 w =>
  gd t26 false (fun k => ld1 t32 w k) w fun t33 w =>
  gd t26 false (fun k => bi .neq .i64 t33 (Value.int IntKind.i64 0) w k) w fun t34 w =>
  pk t26 (Value.bool true) t34 w fun t35 w =>
  iff' t35
  (K (Value.tuple #[(Value.pointer none), (Value.int IntKind.i64 1)]) w)
  (fld 1 t2 w fun t37 w =>
  ld1 t37 w fun t38 w =>
  lnS t38 w fun t39 w =>
  Cl prog 29 #[t39, t1] w fun t41 w =>
  xt 0 t41 w fun t42 w =>
  xt 1 t41 w fun t43 w =>
  bi .neq .i64 t43 (Value.int IntKind.i64 0) w fun t45 w =>
  iff' t45
  (K (Value.tuple #[(Value.pointer none), t43]) w)
  (dr w fun w =>
  ldN 3 t2 w fun t50 _ =>
  fld 1 t2 w fun t53 _ =>
  ld1 t53 w fun t54 _ =>
  ixS 7 t54 t1 w fun t56 _ =>
  fld 2 t56 w fun t57 _ =>
  ld1 t57 w fun t58 _ =>
  fld 1 t2 w fun t59 _ =>
  ld1 t59 w fun t60 _ =>
  ixS 7 t60 t1 w fun t62 _ =>
  fld 6 t62 w fun t63 _ =>
  ld1 t63 w fun t64 _ =>
  lnS t64 w fun t65 _ =>
  Cl prog 30 #[(Value.int IntKind.i64 64)] w fun t48 w =>
  (ld1 t63 w (fun v' w'' => v' = t64 ∧ w'' = w)) ∧ ((ld1 t59 w (fun v' w'' => v' = t60 ∧ w'' = w)) ∧ ((ld1 t57 w (fun v' w'' => v' = t58 ∧ w'' = w)) ∧ ((ld1 t53 w (fun v' w'' => v' = t54 ∧ w'' = w)) ∧ ((ldN 3 t2 w (fun v' w'' => v' = t50 ∧ w'' = w)) ∧ ((bld (zeroD prog 54) #[(0, 1)] [(0, t48)] w fun t49 w =>
  (ld1 t63 w (fun v' w'' => v' = t64 ∧ w'' = w)) ∧ ((ld1 t59 w (fun v' w'' => v' = t60 ∧ w'' = w)) ∧ ((ld1 t57 w (fun v' w'' => v' = t58 ∧ w'' = w)) ∧ ((ld1 t53 w (fun v' w'' => v' = t54 ∧ w'' = w)) ∧ ((ldN 3 t2 w (fun v' w'' => v' = t50 ∧ w'' = w)) ∧ (Cl prog 31 #[t50] w fun t51 w =>
  (ld1 t63 w (fun v' w'' => v' = t64 ∧ w'' = w)) ∧ ((ld1 t59 w (fun v' w'' => v' = t60 ∧ w'' = w)) ∧ ((ld1 t57 w (fun v' w'' => v' = t58 ∧ w'' = w)) ∧ ((ld1 t53 w (fun v' w'' => v' = t54 ∧ w'' = w)) ∧ (bld (zeroD prog 57) #[(0, 1), (1, 1), (2, 3), (5, 1), (6, 1), (7, 1), (8, 1)] [(0, t42), (1, t49), (2, t51), (3, t1), (4, t58), (5, t65)] w fun t66 w =>
  al (Value.cells t66) 57 w fun t67 w =>
  K (Value.tuple #[t67, (Value.int IntKind.i64 0)]) w)))))))))) ∧ (Cl prog 31 #[t50] w fun t51_1 w =>
  (ld1 t63 w (fun v' w'' => v' = t64 ∧ w'' = w)) ∧ ((ld1 t59 w (fun v' w'' => v' = t60 ∧ w'' = w)) ∧ ((ld1 t57 w (fun v' w'' => v' = t58 ∧ w'' = w)) ∧ ((ld1 t53 w (fun v' w'' => v' = t54 ∧ w'' = w)) ∧ (bld (zeroD prog 54) #[(0, 1)] [(0, t48)] w fun t49_1 w =>
  (ld1 t63 w (fun v' w'' => v' = t64 ∧ w'' = w)) ∧ ((ld1 t59 w (fun v' w'' => v' = t60 ∧ w'' = w)) ∧ ((ld1 t57 w (fun v' w'' => v' = t58 ∧ w'' = w)) ∧ ((ld1 t53 w (fun v' w'' => v' = t54 ∧ w'' = w)) ∧ ((ldN 3 t2 w (fun v' w'' => v' = t50 ∧ w'' = w)) ∧ (bld (zeroD prog 57) #[(0, 1), (1, 1), (2, 3), (5, 1), (6, 1), (7, 1), (8, 1)] [(0, t42), (1, t49_1), (2, t51_1), (3, t1), (4, t58), (5, t65)] w fun t66_1 w =>
  al (Value.cells t66_1) 57 w fun t67_1 w =>
  K (Value.tuple #[t67_1, (Value.int IntKind.i64 0)]) w))))))))))))))))))
theorem cmb_New_eq (t0 t1 : Value) (w : World) (K : KV) : cmb_New t0 t1 w K = fnW prog 68 [4, 5] (match fn6.body with | some c => c | none => .skip) #[t0, t1] w K := by kernel_rfl
theorem cmb_New_ok : fnOk prog 68 [4, 5] (match fn6.body with | some c => c | none => .skip) = true := by kernel_rfl
theorem cmb_New_calls {t0 t1 : Value} {w : World} {K : KV} (h : cmb_New t0 t1 w K) : Cl prog 6 #[t0, t1] w K :=
  Cl.mk (by kernel_rfl) (calls_of_F (fn := fn6) (nt := 68) (rs := [4, 5]) mixed fnAt6 (by kernel_rfl) (by kernel_rfl) (by kernel_rfl) (Nat.le_of_ble_eq_true (by kernel_rfl)) cmb_New_ok (cmb_New_eq t0 t1 w K) h)

/-- paceline/pacelinelaw12.echo -/
def pacelinelaw12_echo (w : World) (K : KV) : Prop :=
  al (zeroD prog 39) 39 w fun t0 w =>
  bld (zeroD prog 78) #[(0, 1), (1, 1), (2, 1)] [(0, (Value.int IntKind.i64 0)), (1, (Value.int IntKind.i64 2)), (2, (Value.int IntKind.i64 1))] w fun t2 w =>
  bsl 78 3 1 (zeroD prog 78) [(0, t2)] w fun t3 w =>
  bld (zeroD prog 80) #[(0, 1), (1, 1), (2, 1), (3, 1)] [(1, (Value.int IntKind.i64 0)), (2, (Value.int IntKind.i64 0)), (3, t3)] w fun t4 w =>
  bsl 80 4 1 (zeroD prog 80) [(0, t4)] w fun t5 w =>
  bsl 3 1 1 (zeroD prog 3) [(0, (Value.int IntKind.i64 (-1)))] w fun t6 w =>
  bsl 3 1 1 (zeroD prog 3) [(0, (Value.int IntKind.i64 0))] w fun t8 w =>
  bsl 3 1 1 (zeroD prog 3) [(0, (Value.int IntKind.i64 0))] w fun t9 w =>
  bld (zeroD prog 72) #[(0, 1), (1, 1), (2, 1), (3, 1), (4, 1), (5, 1), (6, 1)] [(1, (Value.int IntKind.i64 2)), (3, t5), (4, t8), (5, t9)] w fun t10 w =>
  bsl 3 1 1 (zeroD prog 3) [(0, (Value.int IntKind.i64 0))] w fun t11 w =>
  bsl 3 1 1 (zeroD prog 3) [(0, (Value.int IntKind.i64 0))] w fun t12 w =>
  bld (zeroD prog 72) #[(0, 1), (1, 1), (2, 1), (3, 1), (4, 1), (5, 1), (6, 1)] [(1, (Value.int IntKind.i64 1)), (4, t11), (5, t12)] w fun t13 w =>
  bld (zeroD prog 72) #[(0, 1), (1, 1), (2, 1), (3, 1), (4, 1), (5, 1), (6, 1)] [(1, (Value.int IntKind.i64 1))] w fun t14 w =>
  bsl 72 7 3 (zeroD prog 72) [(0, t10), (1, t13), (2, t14)] w fun t15 w =>
  bld (zeroD prog 39) #[(0, 1), (1, 1), (2, 1)] [(0, t6), (2, (Value.int IntKind.i64 100)), (1, t15)] w fun t16 w =>
  stN 3 t0 t16 w fun _ w =>
  ldN 3 t0 w fun r0 _ =>
  K r0 w
theorem pacelinelaw12_echo_eq (w : World) (K : KV) : pacelinelaw12_echo w K = fnWC prog 17 [(0, some 39)] (match fn7.body with | some c => c | none => .skip) #[] w K := by kernel_rfl
theorem pacelinelaw12_echo_ok : fnOkC prog 17 [(0, some 39)] (match fn7.body with | some c => c | none => .skip) = true := by kernel_rfl
theorem pacelinelaw12_echo_calls {w : World} {K : KV} (h : pacelinelaw12_echo w K) : Cl prog 7 #[] w K :=
  Cl.mk (by kernel_rfl) (calls_of_FC (fn := fn7) (nt := 17) (rs := [(0, some 39)]) mixed fnAt7 (by kernel_rfl) (by kernel_rfl) (by kernel_rfl) (Nat.le_of_ble_eq_true (by kernel_rfl)) pacelinelaw12_echo_ok (pacelinelaw12_echo_eq w K) h)

/-- paceline/pacelineref12.New -/
def pacelineref12_New (t0 t1 : Value) (w : World) (K : KV) : Prop :=
  al (Value.cells t0) 39 w fun t2 w =>
  ldN 3 t2 w fun t11 w =>
  Cl prog 32 #[t11] w fun t12 w =>
  xt 0 t12 w fun _ w =>
  xt 1 t12 w fun t14 w =>
  bi .neq .i64 t14 (Value.int IntKind.i64 0) w fun t16 w =>
  iff' t16
  (K (Value.tuple #[(Value.pointer none), t14]) w)
  (bi .lss .i64 t1 (Value.int IntKind.i64 0) w fun t19 w =>
  gd t19 false (fun k => k t1 w) w fun t21 w =>
  gd t19 false (fun k => fld 1 t2 w k) w fun t22 w =>
  gd t19 false (fun k => ld1 t22 w k) w fun t23 w =>
  gd t19 false (fun k => lnS t23 w k) w fun t24 w =>
  gd t19 false (fun k => bi .geq .i64 t21 t24 w k) w fun t25 w =>
  pk t19 (Value.bool true) t25 w fun t26 w =>
  gd t26 false (fun k => fld 1 t2 w k) w fun t28 w =>
  gd t26 false (fun k => ld1 t28 w k) w fun t29 w =>
  gd t26 false (fun k => k t1 w) w fun t30 w =>
  gd t26 false (fun k => ixS 7 t29 t30 w k) w fun t31 w =>
  gd t26 false (fun k => fld 0 t31 w k) w fun t32 w =>
  gd t26 false (fun k => ld1 t32 w k) w fun t33 w =>
  gd t26 false (fun k => bi .neq .i64 t33 (Value.int IntKind.i64 0) w k) w fun t34 w =>
  pk t26 (Value.bool true) t34 w fun t35 w =>
  iff' t35
  (K (Value.tuple #[(Value.pointer none), (Value.int IntKind.i64 1)]) w)
  (fld 1 t2 w fun t37 w =>
  ld1 t37 w fun t38 w =>
  lnS t38 w fun t39 w =>
  Cl prog 33 #[t39, t1] w fun t41 w =>
  xt 0 t41 w fun t42 w =>
  xt 1 t41 w fun _ w =>
  dr w fun w =>
  ldN 3 t2 w fun t44 _ =>
  fld 1 t2 w fun t46 _ =>
  ld1 t46 w fun t47 _ =>
  ixS 7 t47 t1 w fun t49 _ =>
  fld 2 t49 w fun t50 _ =>
  ld1 t50 w fun t51 _ =>
  fld 1 t2 w fun t52 _ =>
  ld1 t52 w fun t53 _ =>
  ixS 7 t53 t1 w fun t55 _ =>
  fld 6 t55 w fun t56 _ =>
  ld1 t56 w fun t57 _ =>
  lnS t57 w fun t58 _ =>
  Cl prog 34 #[(Value.int IntKind.i64 64)] w fun t60 w =>
  (ld1 t56 w (fun v' w'' => v' = t57 ∧ w'' = w)) ∧ ((ld1 t52 w (fun v' w'' => v' = t53 ∧ w'' = w)) ∧ ((ld1 t50 w (fun v' w'' => v' = t51 ∧ w'' = w)) ∧ ((ld1 t46 w (fun v' w'' => v' = t47 ∧ w'' = w)) ∧ ((ldN 3 t2 w (fun v' w'' => v' = t44 ∧ w'' = w)) ∧ (bld (zeroD prog 87) #[(0, 3), (3, 1), (4, 1), (5, 1), (6, 1), (7, 1), (8, 1)] [(0, t44), (1, t1), (2, t51), (3, t58), (4, t42), (5, t60)] w fun t61 w =>
  al (Value.cells t61) 87 w fun t62 w =>
  K (Value.tuple #[t62, (Value.int IntKind.i64 0)]) w)))))))
theorem pacelineref12_New_eq (t0 t1 : Value) (w : World) (K : KV) : pacelineref12_New t0 t1 w K = fnW prog 63 [4, 5] (match fn8.body with | some c => c | none => .skip) #[t0, t1] w K := by kernel_rfl
theorem pacelineref12_New_ok : fnOk prog 63 [4, 5] (match fn8.body with | some c => c | none => .skip) = true := by kernel_rfl
theorem pacelineref12_New_calls {t0 t1 : Value} {w : World} {K : KV} (h : pacelineref12_New t0 t1 w K) : Cl prog 8 #[t0, t1] w K :=
  Cl.mk (by kernel_rfl) (calls_of_F (fn := fn8) (nt := 63) (rs := [4, 5]) mixed fnAt8 (by kernel_rfl) (by kernel_rfl) (by kernel_rfl) (Nat.le_of_ble_eq_true (by kernel_rfl)) pacelineref12_New_ok (pacelineref12_New_eq t0 t1 w K) h)

/-- (*paceline/cmb.Node).Hear -/
def cmb_Node_Hear (t0 t1 t2 : Value) (w : World) (K : KV) : Prop :=
  al (Value.cells t2) 28 w fun t5 w =>
  fld 1 t5 w fun t9 w =>
  fld 0 t9 w fun t10 w =>
  fld 0 t10 w fun t11 w =>
  ld1 t11 w fun t12 w =>
  fld 0 t5 w fun t13 w =>
  ld1 t13 w fun t14 w =>
  bi .eql .i64 t14 (Value.int IntKind.i64 2) w fun t16 w =>
  iff' t16
  (ncP t0 <|
  fld 0 t0 w fun t19 w =>
  ld1 t19 w fun t20 w =>
  Cl prog 35 #[t20, t1, t12] w fun t23 w =>
  K t23 w)
  (bi .eql .i64 t14 (Value.int IntKind.i64 0) w fun t25 w =>
  iff' t25
  (ncP t0 <|
  fld 0 t0 w fun t28 w =>
  ld1 t28 w fun t29 w =>
  Cl prog 36 #[t29, t1] w fun t31 w =>
  bi .lss .i64 t31 (Value.int IntKind.i64 0) w fun t34 w =>
  iff' t34
  (K (Value.int IntKind.i64 1) w)
  (bi .lss .i64 t12 t31 w fun t38 w =>
  iff' t38
  (K (Value.int IntKind.i64 110) w)
  (dr w fun w =>
  ncP t0 <|
  fld 1 t0 w fun t41 _ =>
  fld 0 t41 w fun t42 _ =>
  ld1 t42 w fun t43 _ =>
  fld 1 t5 w fun t44 _ =>
  ldN 6 t44 w fun t45 _ =>
  Cl prog 37 #[t43, t45] w fun t46 w =>
  K t46 w)))
  (K (Value.int IntKind.i64 130) w))
theorem cmb_Node_Hear_eq (t0 t1 t2 : Value) (w : World) (K : KV) : cmb_Node_Hear t0 t1 t2 w K = fnW prog 47 [6] (match fn9.body with | some c => c | none => .skip) #[t0, t1, t2] w K := by kernel_rfl
theorem cmb_Node_Hear_ok : fnOk prog 47 [6] (match fn9.body with | some c => c | none => .skip) = true := by kernel_rfl
theorem cmb_Node_Hear_calls {t0 t1 t2 : Value} {w : World} {K : KV} (h : cmb_Node_Hear t0 t1 t2 w K) : Cl prog 9 #[t0, t1, t2] w K :=
  Cl.mk (by kernel_rfl) (calls_of_F (fn := fn9) (nt := 47) (rs := [6]) mixed fnAt9 (by kernel_rfl) (by kernel_rfl) (by kernel_rfl) (Nat.le_of_ble_eq_true (by kernel_rfl)) cmb_Node_Hear_ok (cmb_Node_Hear_eq t0 t1 t2 w K) h)

/-- (*paceline/pacelineref12.Node).Hear -/
def pacelineref12_Node_Hear (t0 t1 t2 : Value) (w : World) (K : KV) : Prop :=
  al (Value.cells t2) 28 w fun t5 w =>
  fld 0 t5 w fun t7 w =>
  ld1 t7 w fun t8 w =>
  bi .eql .i64 t8 (Value.int IntKind.i64 2) w fun t10 w =>
  iff' t10
  (dr w fun w =>
  ncP t0 <|
  fld 6 t0 w fun t13 _ =>
  ld1 t13 w fun t14 _ =>
  fld 1 t5 w fun t16 _ =>
  fld 0 t16 w fun t17 _ =>
  fld 0 t17 w fun t18 _ =>
  ld1 t18 w fun t19 _ =>
  Cl prog 38 #[t14, t1, t19] w fun t20 w =>
  K t20 w)
  (bi .eql .i64 t8 (Value.int IntKind.i64 0) w fun t22 w =>
  iff' t22
  (ncP t0 <|
  fld 6 t0 w fun t25 w =>
  ld1 t25 w fun t26 w =>
  Cl prog 39 #[t26, t1] w fun t28 w =>
  bi .lss .i64 t28 (Value.int IntKind.i64 0) w fun t29 w =>
  iff' t29
  (K (Value.int IntKind.i64 1) w)
  (dr w fun w =>
  fld 1 t5 w fun t30 _ =>
  fld 0 t30 w fun t31 _ =>
  fld 0 t31 w fun t32 _ =>
  ld1 t32 w fun t33 _ =>
  ncP t0 <|
  fld 6 t0 w fun t36 _ =>
  ld1 t36 w fun t37 _ =>
  Cl prog 39 #[t37, t1] w fun t39 w =>
  (ld1 t32 w (fun v' w'' => v' = t33 ∧ w'' = w)) ∧ (bi .lss .i64 t33 t39 w fun t40 _ =>
  iff' t40
  (K (Value.int IntKind.i64 110) w)
  (dr w fun w =>
  ncP t0 <|
  fld 7 t0 w fun t43 _ =>
  ld1 t43 w fun t44 _ =>
  fld 1 t5 w fun t45 _ =>
  ldN 6 t45 w fun t46 _ =>
  Cl prog 40 #[t44, t46] w fun t47 w =>
  K t47 w))))
  (K (Value.int IntKind.i64 130) w))
theorem pacelineref12_Node_Hear_eq (t0 t1 t2 : Value) (w : World) (K : KV) : pacelineref12_Node_Hear t0 t1 t2 w K = fnW prog 48 [6] (match fn10.body with | some c => c | none => .skip) #[t0, t1, t2] w K := by kernel_rfl
theorem pacelineref12_Node_Hear_ok : fnOk prog 48 [6] (match fn10.body with | some c => c | none => .skip) = true := by kernel_rfl
theorem pacelineref12_Node_Hear_calls {t0 t1 t2 : Value} {w : World} {K : KV} (h : pacelineref12_Node_Hear t0 t1 t2 w K) : Cl prog 10 #[t0, t1, t2] w K :=
  Cl.mk (by kernel_rfl) (calls_of_F (fn := fn10) (nt := 48) (rs := [6]) mixed fnAt10 (by kernel_rfl) (by kernel_rfl) (by kernel_rfl) (Nat.le_of_ble_eq_true (by kernel_rfl)) pacelineref12_Node_Hear_ok (pacelineref12_Node_Hear_eq t0 t1 t2 w K) h)

/-- (*paceline/cmb.Node).Step -/
def cmb_Node_Step (t0 : Value) (w : World) (K : KV) : Prop :=
  al (zeroD prog 46) 46 w fun t2 w =>
  Cl prog 21 #[t0] w fun t12 w =>
  bnot t12 w fun t13 w =>
  iff' t13
  (bld (zeroD prog 46) #[(0, 6), (6, 1)] [] w fun t14 w =>
  stN 7 t2 t14 w fun _ w =>
  ldN 7 t2 w fun r0 _ =>
  K (Value.tuple #[r0, (Value.slice none 0 0), (Value.int IntKind.i64 150)]) w)
  (ncP t0 <|
  fld 1 t0 w fun t18 w =>
  fld 0 t18 w fun t19 w =>
  ld1 t19 w fun t20 w =>
  Cl prog 41 #[t20] w fun t21 w =>
  xt 0 t21 w fun t22 w =>
  xt 1 t21 w fun _ w =>
  al (zeroD prog 26) 26 w fun t5 w =>
  stN 6 t5 t22 w fun _ w =>
  dr w fun w =>
  ncP t0 <|
  fld 2 t0 w fun t27 _ =>
  fld 1 t27 w fun t28 _ =>
  ld1 t28 w fun t29 _ =>
  ncP t0 <|
  fld 5 t0 w fun t32 _ =>
  ld1 t32 w fun t33 _ =>
  ixS 7 t29 t33 w fun t34 _ =>
  fld 3 t34 w fun t35 _ =>
  ld1 t35 w fun t36 _ =>
  ncP t0 <|
  fld 6 t0 w fun t39 _ =>
  ld1 t39 w fun t40 _ =>
  fld 4 t5 w fun t41 _ =>
  ld1 t41 w fun t42 _ =>
  Cl prog 42 #[t36, t40, t42] w fun t43 w =>
  xt 0 t43 w fun t44 _ =>
  xt 1 t43 w fun t45 _ =>
  dr w fun w =>
  ncP t0 <|
  fld 2 t0 w fun t48 _ =>
  ldN 3 t48 w fun t49 _ =>
  ncP t0 <|
  fld 5 t0 w fun t52 _ =>
  ld1 t52 w fun t53 _ =>
  ncP t0 <|
  fld 7 t0 w fun t56 _ =>
  ld1 t56 w fun t57 _ =>
  fld 0 t5 w fun t58 _ =>
  fld 0 t58 w fun t59 _ =>
  ld1 t59 w fun t60 _ =>
  fld 5 t5 w fun t61 _ =>
  ld1 t61 w fun t62 _ =>
  Cl prog 43 #[t49, t53, t57, t60, t62, t45] w fun t64 w =>
  ncP t0 <|
  fld 7 t0 w fun t70 w =>
  ld1 t70 w fun t71 w =>
  lnS t45 w fun t73 w =>
  bi .add .i64 t71 t73 w fun t74 w =>
  ncP t0 <|
  fld 6 t0 w fun t76 w =>
  stN 1 t76 t44 w fun _ w =>
  ncP t0 <|
  fld 7 t0 w fun t78 w =>
  stN 1 t78 t74 w fun _ w =>
  ldN 6 t5 w fun t79 w =>
  bld (zeroD prog 46) #[(0, 6), (6, 1)] [(0, t79), (1, t44)] w fun t81 w =>
  al (zeroD prog 46) 46 w fun t10 w =>
  stN 7 t10 t81 w fun _ w =>
  dr w fun w =>
  ncP t0 <|
  fld 8 t0 w fun t85 _ =>
  ld1 t85 w fun t86 _ =>
  ldN 7 t10 w fun t87 _ =>
  bsl 46 7 1 (zeroD prog 46) [(0, t87)] w fun t88 w =>
  (ld1 t85 w (fun v' w'' => v' = t86 ∧ w'' = w)) ∧ (apS prog #[55, 55] 55 t86 t88 w fun t89 w =>
  ncP t0 <|
  fld 8 t0 w fun t91 _ =>
  stN 1 t91 t89 w fun _ w =>
  ldN 7 t10 w fun t92 w =>
  stN 7 t2 t92 w fun _ w =>
  ldN 7 t2 w fun r0 _ =>
  K (Value.tuple #[r0, t64, (Value.int IntKind.i64 0)]) w))
theorem cmb_Node_Step_eq (t0 : Value) (w : World) (K : KV) : cmb_Node_Step t0 w K = fnWC prog 94 [(2, some 46), (3, none), (4, none)] (match fn11.body with | some c => c | none => .skip) #[t0] w K := by kernel_rfl
theorem cmb_Node_Step_ok : fnOkC prog 94 [(2, some 46), (3, none), (4, none)] (match fn11.body with | some c => c | none => .skip) = true := by kernel_rfl
theorem cmb_Node_Step_calls {t0 : Value} {w : World} {K : KV} (h : cmb_Node_Step t0 w K) : Cl prog 11 #[t0] w K :=
  Cl.mk (by kernel_rfl) (calls_of_FC (fn := fn11) (nt := 94) (rs := [(2, some 46), (3, none), (4, none)]) mixed fnAt11 (by kernel_rfl) (by kernel_rfl) (by kernel_rfl) (Nat.le_of_ble_eq_true (by kernel_rfl)) cmb_Node_Step_ok (cmb_Node_Step_eq t0 w K) h)

/-- (*paceline/pacelineref12.Node).Step -/
def pacelineref12_Node_Step (t0 : Value) (w : World) (K : KV) : Prop :=
  al (zeroD prog 46) 46 w fun t2 w =>
  Cl prog 22 #[t0] w fun t12 w =>
  bnot t12 w fun t13 w =>
  iff' t13
  (bld (zeroD prog 46) #[(0, 6), (6, 1)] [] w fun t14 w =>
  stN 7 t2 t14 w fun _ w =>
  ldN 7 t2 w fun r0 _ =>
  K (Value.tuple #[r0, (Value.slice none 0 0), (Value.int IntKind.i64 150)]) w)
  (ncP t0 <|
  fld 7 t0 w fun t18 w =>
  ld1 t18 w fun t19 w =>
  Cl prog 44 #[t19] w fun t20 w =>
  xt 0 t20 w fun t21 w =>
  xt 1 t20 w fun _ w =>
  al (zeroD prog 26) 26 w fun t5 w =>
  stN 6 t5 t21 w fun _ w =>
  dr w fun w =>
  ncP t0 <|
  fld 0 t0 w fun t26 _ =>
  fld 1 t26 w fun t27 _ =>
  ld1 t27 w fun t28 _ =>
  ncP t0 <|
  fld 3 t0 w fun t31 _ =>
  ld1 t31 w fun t32 _ =>
  ixS 7 t28 t32 w fun t33 _ =>
  fld 3 t33 w fun t34 _ =>
  ld1 t34 w fun t35 _ =>
  ncP t0 <|
  fld 4 t0 w fun t38 _ =>
  ld1 t38 w fun t39 _ =>
  fld 4 t5 w fun t40 _ =>
  ld1 t40 w fun t41 _ =>
  Cl prog 45 #[t35, t39, t41] w fun t42 w =>
  xt 0 t42 w fun t43 _ =>
  xt 1 t42 w fun t44 _ =>
  ncP t0 <|
  fld 4 t0 w fun t48 w =>
  stN 1 t48 t43 w fun _ w =>
  dr w fun w =>
  ncP t0 <|
  fld 0 t0 w fun t51 _ =>
  ldN 3 t51 w fun t52 _ =>
  ncP t0 <|
  fld 3 t0 w fun t55 _ =>
  ld1 t55 w fun t56 _ =>
  ncP t0 <|
  fld 5 t0 w fun t59 _ =>
  ld1 t59 w fun t60 _ =>
  fld 0 t5 w fun t61 _ =>
  fld 0 t61 w fun t62 _ =>
  ld1 t62 w fun t63 _ =>
  fld 5 t5 w fun t64 _ =>
  ld1 t64 w fun t65 _ =>
  Cl prog 46 #[t52, t56, t60, t63, t65, t44] w fun t67 w =>
  ncP t0 <|
  fld 5 t0 w fun t71 w =>
  ld1 t71 w fun t72 w =>
  lnS t44 w fun t74 w =>
  bi .add .i64 t72 t74 w fun t75 w =>
  ncP t0 <|
  fld 5 t0 w fun t77 w =>
  stN 1 t77 t75 w fun _ w =>
  ldN 6 t5 w fun t78 w =>
  bld (zeroD prog 46) #[(0, 6), (6, 1)] [(0, t78), (1, t43)] w fun t80 w =>
  al (zeroD prog 46) 46 w fun t10 w =>
  stN 7 t10 t80 w fun _ w =>
  dr w fun w =>
  ncP t0 <|
  fld 8 t0 w fun t84 _ =>
  ld1 t84 w fun t85 _ =>
  ldN 7 t10 w fun t86 _ =>
  bsl 46 7 1 (zeroD prog 46) [(0, t86)] w fun t87 w =>
  (ld1 t84 w (fun v' w'' => v' = t85 ∧ w'' = w)) ∧ (apS prog #[55, 55] 55 t85 t87 w fun t88 w =>
  ncP t0 <|
  fld 8 t0 w fun t90 _ =>
  stN 1 t90 t88 w fun _ w =>
  ldN 7 t10 w fun t91 w =>
  stN 7 t2 t91 w fun _ w =>
  ldN 7 t2 w fun r0 _ =>
  K (Value.tuple #[r0, t67, (Value.int IntKind.i64 0)]) w))
theorem pacelineref12_Node_Step_eq (t0 : Value) (w : World) (K : KV) : pacelineref12_Node_Step t0 w K = fnWC prog 93 [(2, some 46), (3, none), (4, none)] (match fn12.body with | some c => c | none => .skip) #[t0] w K := by kernel_rfl
theorem pacelineref12_Node_Step_ok : fnOkC prog 93 [(2, some 46), (3, none), (4, none)] (match fn12.body with | some c => c | none => .skip) = true := by kernel_rfl
theorem pacelineref12_Node_Step_calls {t0 : Value} {w : World} {K : KV} (h : pacelineref12_Node_Step t0 w K) : Cl prog 12 #[t0] w K :=
  Cl.mk (by kernel_rfl) (calls_of_FC (fn := fn12) (nt := 93) (rs := [(2, some 46), (3, none), (4, none)]) mixed fnAt12 (by kernel_rfl) (by kernel_rfl) (by kernel_rfl) (Nat.le_of_ble_eq_true (by kernel_rfl)) pacelineref12_Node_Step_ok (pacelineref12_Node_Step_eq t0 w K) h)

/-- (paceline/cmb.queue).Waiting -/
def cmb_queue_Waiting (t0 : Value) (w : World) (K : KV) : Prop :=
  al (Value.cells t0) 54 w fun t1 w =>
  fld 0 t1 w fun t3 w =>
  ld1 t3 w fun t4 w =>
  Cl prog 47 #[t4] w fun t5 w =>
  K t5 w
theorem cmb_queue_Waiting_eq (t0 : Value) (w : World) (K : KV) : cmb_queue_Waiting t0 w K = fnW prog 6 [2] (match fn13.body with | some c => c | none => .skip) #[t0] w K := by kernel_rfl
theorem cmb_queue_Waiting_ok : fnOk prog 6 [2] (match fn13.body with | some c => c | none => .skip) = true := by kernel_rfl
theorem cmb_queue_Waiting_calls {t0 : Value} {w : World} {K : KV} (h : cmb_queue_Waiting t0 w K) : Cl prog 13 #[t0] w K :=
  Cl.mk (by kernel_rfl) (calls_of_F (fn := fn13) (nt := 6) (rs := [2]) mixed fnAt13 (by kernel_rfl) (by kernel_rfl) (by kernel_rfl) (Nat.le_of_ble_eq_true (by kernel_rfl)) cmb_queue_Waiting_ok (cmb_queue_Waiting_eq t0 w K) h)

/-- (*paceline/clock.Clocks).Bound -/
def clock_Clocks_Bound (t0 : Value) (w : World) (K : KV) : Prop :=
  al (zeroD prog 3) 3 w fun t3 w =>
  stN 1 t3 (Value.int IntKind.i64 1125899906842624) w fun _ w =>
  ncP t0 <|
  fld 0 t0 w fun t10 w =>
  ld1 t10 w fun t11 w =>
  rgM prog 97 t11 w fun t12 w =>
  lp [] w (b0 fun w g1 =>
  nxM prog t12 false 0 w fun t13 w =>
  xt 0 t13 w fun t14 w =>
  iff' t14
  (enM prog t12 w fun t15 w =>
  xt 1 t15 w fun t16 w =>
  clV prog (Value.func (Fn.func 48) #[] #[t3]) #[t16] w fun _ w =>
  g1 [] w)
  (ld1 t3 w fun t20 w =>
  K t20 w))
theorem clock_Clocks_Bound_eq (t0 : Value) (w : World) (K : KV) : clock_Clocks_Bound t0 w K = fnW prog 21 [2] (match fn14.body with | some c => c | none => .skip) #[t0] w K := by kernel_rfl
theorem clock_Clocks_Bound_ok : fnOk prog 21 [2] (match fn14.body with | some c => c | none => .skip) = true := by kernel_rfl
theorem clock_Clocks_Bound_calls {t0 : Value} {w : World} {K : KV} (h : clock_Clocks_Bound t0 w K) : Cl prog 14 #[t0] w K :=
  Cl.mk (by kernel_rfl) (calls_of_F (fn := fn14) (nt := 21) (rs := [2]) mixed fnAt14 (by kernel_rfl) (by kernel_rfl) (by kernel_rfl) (Nat.le_of_ble_eq_true (by kernel_rfl)) clock_Clocks_Bound_ok (clock_Clocks_Bound_eq t0 w K) h)

/-- (*paceline/cmb.Node).State -/
def cmb_Node_State (t0 : Value) (w : World) (K : KV) : Prop :=
  ncP t0 <|
  fld 6 t0 w fun t5 w =>
  ld1 t5 w fun t6 w =>
  K t6 w
theorem cmb_Node_State_eq (t0 : Value) (w : World) (K : KV) : cmb_Node_State t0 w K = fnW prog 7 [2] (match fn15.body with | some c => c | none => .skip) #[t0] w K := by kernel_rfl
theorem cmb_Node_State_ok : fnOk prog 7 [2] (match fn15.body with | some c => c | none => .skip) = true := by kernel_rfl
theorem cmb_Node_State_calls {t0 : Value} {w : World} {K : KV} (h : cmb_Node_State t0 w K) : Cl prog 15 #[t0] w K :=
  Cl.mk (by kernel_rfl) (calls_of_F (fn := fn15) (nt := 7) (rs := [2]) mixed fnAt15 (by kernel_rfl) (by kernel_rfl) (by kernel_rfl) (Nat.le_of_ble_eq_true (by kernel_rfl)) cmb_Node_State_ok (cmb_Node_State_eq t0 w K) h)

/-- (*paceline/cmb.Node).Log -/
def cmb_Node_Log (t0 : Value) (w : World) (K : KV) : Prop :=
  ncP t0 <|
  fld 8 t0 w fun t5 w =>
  ld1 t5 w fun t6 w =>
  Cl prog 49 #[t6] w fun t7 w =>
  K t7 w
theorem cmb_Node_Log_eq (t0 : Value) (w : World) (K : KV) : cmb_Node_Log t0 w K = fnW prog 8 [2] (match fn16.body with | some c => c | none => .skip) #[t0] w K := by kernel_rfl
theorem cmb_Node_Log_ok : fnOk prog 8 [2] (match fn16.body with | some c => c | none => .skip) = true := by kernel_rfl
theorem cmb_Node_Log_calls {t0 : Value} {w : World} {K : KV} (h : cmb_Node_Log t0 w K) : Cl prog 16 #[t0] w K :=
  Cl.mk (by kernel_rfl) (calls_of_F (fn := fn16) (nt := 8) (rs := [2]) mixed fnAt16 (by kernel_rfl) (by kernel_rfl) (by kernel_rfl) (Nat.le_of_ble_eq_true (by kernel_rfl)) cmb_Node_Log_ok (cmb_Node_Log_eq t0 w K) h)

/-- paceline/pacelinelaw12.same -/
def pacelinelaw12_same (t0 t1 : Value) (w : World) (K : KV) : Prop :=
  lnS t0 w fun t7 w =>
  lnS t1 w fun t9 w =>
  bi .neq .i64 t7 t9 w fun t10 w =>
  iff' t10
  (K (Value.bool false) w)
  (lp [(Value.int IntKind.i64 0)] w (b1 fun t5 w g1 =>
  lnS t0 w fun t13 w =>
  bi .lss .i64 t5 t13 w fun t14 w =>
  iff' t14
  (dr w fun w =>
  ixS 6 t0 t5 w fun t19 _ =>
  ldN 6 t19 w fun t20 _ =>
  ixS 6 t1 t5 w fun t23 _ =>
  ldN 6 t23 w fun t24 _ =>
  bO prog .neq 26 (Operand.tmp 20) (Operand.tmp 24) t20 t24 w fun t25 w =>
  iff' t25
  (K (Value.bool false) w)
  (bi .add .i64 t5 (Value.int IntKind.i64 1) w fun t16 w =>
  g1 [t16] w))
  (K (Value.bool true) w)))
theorem pacelinelaw12_same_eq (t0 t1 : Value) (w : World) (K : KV) : pacelinelaw12_same t0 t1 w K = fnW prog 26 [4] (match fn17.body with | some c => c | none => .skip) #[t0, t1] w K := by kernel_rfl
theorem pacelinelaw12_same_ok : fnOk prog 26 [4] (match fn17.body with | some c => c | none => .skip) = true := by kernel_rfl
theorem pacelinelaw12_same_calls {t0 t1 : Value} {w : World} {K : KV} (h : pacelinelaw12_same t0 t1 w K) : Cl prog 17 #[t0, t1] w K :=
  Cl.mk (by kernel_rfl) (calls_of_F (fn := fn17) (nt := 26) (rs := [4]) mixed fnAt17 (by kernel_rfl) (by kernel_rfl) (by kernel_rfl) (Nat.le_of_ble_eq_true (by kernel_rfl)) pacelinelaw12_same_ok (pacelinelaw12_same_eq t0 t1 w K) h)

/-- paceline/pacelinelaw12.small -/
def pacelinelaw12_small (t0 : Value) (w : World) (K : KV) : Prop :=
  al (Value.cells t0) 39 w fun t1 w =>
  fld 0 t1 w fun t6 w =>
  ld1 t6 w fun t7 w =>
  lnS t7 w fun t8 w =>
  bi .gtr .i64 t8 (Value.int IntKind.i64 50) w fun t9 w =>
  gd t9 false (fun k => fld 1 t1 w k) w fun t11 w =>
  gd t9 false (fun k => ld1 t11 w k) w fun t12 w =>
  gd t9 false (fun k => lnS t12 w k) w fun t13 w =>
  gd t9 false (fun k => bi .gtr .i64 t13 (Value.int IntKind.i64 20) w k) w fun t14 w =>
  pk t9 (Value.bool true) t14 w fun t15 w =>
  iff' t15
  (K (Value.bool false) w)
  (lp [(Value.int IntKind.i64 0)] w (b1 fun t3 w g1 =>
  fld 1 t1 w fun t17 w =>
  ld1 t17 w fun t18 w =>
  lnS t18 w fun t19 w =>
  bi .lss .i64 t3 t19 w fun t20 w =>
  iff' t20
  (fld 1 t1 w fun t23 w =>
  ld1 t23 w fun t24 w =>
  ixS 7 t24 t3 w fun t26 w =>
  ldN 7 t26 w fun t27 w =>
  al (zeroD prog 72) 72 w fun t4 w =>
  stN 7 t4 t27 w fun _ w =>
  fld 3 t4 w fun t28 w =>
  ld1 t28 w fun t29 w =>
  lnS t29 w fun t30 w =>
  bi .gtr .i64 t30 (Value.int IntKind.i64 60) w fun t31 w =>
  gd t31 false (fun k => fld 4 t4 w k) w fun t33 w =>
  gd t31 false (fun k => ld1 t33 w k) w fun t34 w =>
  gd t31 false (fun k => lnS t34 w k) w fun t35 w =>
  gd t31 false (fun k => bi .gtr .i64 t35 (Value.int IntKind.i64 50) w k) w fun t36 w =>
  pk t31 (Value.bool true) t36 w fun t37 w =>
  gd t37 false (fun k => fld 5 t4 w k) w fun t39 w =>
  gd t37 false (fun k => ld1 t39 w k) w fun t40 w =>
  gd t37 false (fun k => lnS t40 w k) w fun t41 w =>
  gd t37 false (fun k => bi .gtr .i64 t41 (Value.int IntKind.i64 50) w k) w fun t42 w =>
  pk t37 (Value.bool true) t42 w fun t43 w =>
  gd t43 false (fun k => fld 6 t4 w k) w fun t45 w =>
  gd t43 false (fun k => ld1 t45 w k) w fun t46 w =>
  gd t43 false (fun k => lnS t46 w k) w fun t47 w =>
  gd t43 false (fun k => bi .gtr .i64 t47 (Value.int IntKind.i64 20) w k) w fun t48 w =>
  pk t43 (Value.bool true) t48 w fun t49 w =>
  iff' t49
  (K (Value.bool false) w)
  (lp [(Value.int IntKind.i64 0)] w (b1 fun t5 w g2 =>
  fld 3 t4 w fun t51 w =>
  ld1 t51 w fun t52 w =>
  lnS t52 w fun t53 w =>
  bi .lss .i64 t5 t53 w fun t54 w =>
  iff' t54
  (fld 3 t4 w fun t57 w =>
  ld1 t57 w fun t58 w =>
  ixS 4 t58 t5 w fun t60 w =>
  fld 3 t60 w fun t61 w =>
  ld1 t61 w fun t62 w =>
  lnS t62 w fun t63 w =>
  bi .gtr .i64 t63 (Value.int IntKind.i64 20) w fun t64 w =>
  iff' t64
  (K (Value.bool false) w)
  (bi .add .i64 t5 (Value.int IntKind.i64 1) w fun t56 w =>
  g2 [t56] w))
  (bi .add .i64 t3 (Value.int IntKind.i64 1) w fun t22 w =>
  g1 [t22] w))))
  (K (Value.bool true) w)))
theorem pacelinelaw12_small_eq (t0 : Value) (w : World) (K : KV) : pacelinelaw12_small t0 w K = fnW prog 65 [2] (match fn18.body with | some c => c | none => .skip) #[t0] w K := by kernel_rfl
theorem pacelinelaw12_small_ok : fnOk prog 65 [2] (match fn18.body with | some c => c | none => .skip) = true := by kernel_rfl
theorem pacelinelaw12_small_calls {t0 : Value} {w : World} {K : KV} (h : pacelinelaw12_small t0 w K) : Cl prog 18 #[t0] w K :=
  Cl.mk (by kernel_rfl) (calls_of_F (fn := fn18) (nt := 65) (rs := [2]) mixed fnAt18 (by kernel_rfl) (by kernel_rfl) (by kernel_rfl) (Nat.le_of_ble_eq_true (by kernel_rfl)) pacelinelaw12_small_ok (pacelinelaw12_small_eq t0 w K) h)

/-- (*paceline/cmb.Node).Tell -/
def cmb_Node_Tell (t0 : Value) (w : World) (K : KV) : Prop :=
  ncP t0 <|
  fld 1 t0 w fun t10 w =>
  ldN 1 t10 w fun t11 w =>
  Cl prog 50 #[t11] w fun t12 w =>
  xt 0 t12 w fun t13 w =>
  xt 1 t12 w fun t14 w =>
  al (zeroD prog 26) 26 w fun t5 w =>
  stN 6 t5 t13 w fun _ w =>
  J1 (fun t4 w =>
  dr w fun w =>
  ncP t0 <|
  fld 0 t0 w fun t21 _ =>
  ld1 t21 w fun t22 _ =>
  ncP t0 <|
  fld 2 t0 w fun t26 _ =>
  fld 1 t26 w fun t27 _ =>
  ld1 t27 w fun t28 _ =>
  ncP t0 <|
  fld 5 t0 w fun t31 _ =>
  ld1 t31 w fun t32 _ =>
  ixS 7 t28 t32 w fun t33 _ =>
  fld 1 t33 w fun t34 _ =>
  ld1 t34 w fun t35 _ =>
  Cl prog 51 #[t22, t4, t35] w fun t36 w =>
  xt 0 t36 w fun t37 _ =>
  xt 1 t36 w fun t38 _ =>
  K (Value.tuple #[t37, t38]) w) fun k1 =>
  iff' t14
  (fld 0 t5 w fun t16 w =>
  fld 0 t16 w fun t17 w =>
  ld1 t17 w fun t18 w =>
  k1 t18 w)
  (k1 (Value.int IntKind.i64 1125899906842624) w)
theorem cmb_Node_Tell_eq (t0 : Value) (w : World) (K : KV) : cmb_Node_Tell t0 w K = fnW prog 39 [2, 3] (match fn19.body with | some c => c | none => .skip) #[t0] w K := by kernel_rfl
theorem cmb_Node_Tell_ok : fnOk prog 39 [2, 3] (match fn19.body with | some c => c | none => .skip) = true := by kernel_rfl
theorem cmb_Node_Tell_calls {t0 : Value} {w : World} {K : KV} (h : cmb_Node_Tell t0 w K) : Cl prog 19 #[t0] w K :=
  Cl.mk (by kernel_rfl) (calls_of_F (fn := fn19) (nt := 39) (rs := [2, 3]) mixed fnAt19 (by kernel_rfl) (by kernel_rfl) (by kernel_rfl) (Nat.le_of_ble_eq_true (by kernel_rfl)) cmb_Node_Tell_ok (cmb_Node_Tell_eq t0 w K) h)

/-- (*paceline/pacelineref12.Node).Tell -/
def pacelineref12_Node_Tell (t0 : Value) (w : World) (K : KV) : Prop :=
  ncP t0 <|
  fld 7 t0 w fun t10 w =>
  ld1 t10 w fun t11 w =>
  Cl prog 52 #[t11] w fun t12 w =>
  xt 0 t12 w fun t13 w =>
  xt 1 t12 w fun t14 w =>
  al (zeroD prog 26) 26 w fun t5 w =>
  stN 6 t5 t13 w fun _ w =>
  J1 (fun t4 w =>
  dr w fun w =>
  ncP t0 <|
  fld 6 t0 w fun t21 _ =>
  ld1 t21 w fun t22 _ =>
  ncP t0 <|
  fld 0 t0 w fun t26 _ =>
  fld 1 t26 w fun t27 _ =>
  ld1 t27 w fun t28 _ =>
  ncP t0 <|
  fld 3 t0 w fun t31 _ =>
  ld1 t31 w fun t32 _ =>
  ixS 7 t28 t32 w fun t33 _ =>
  fld 1 t33 w fun t34 _ =>
  ld1 t34 w fun t35 _ =>
  Cl prog 53 #[t22, t4, t35] w fun t36 w =>
  xt 0 t36 w fun t37 _ =>
  xt 1 t36 w fun t38 _ =>
  K (Value.tuple #[t37, t38]) w) fun k1 =>
  iff' t14
  (fld 0 t5 w fun t16 w =>
  fld 0 t16 w fun t17 w =>
  ld1 t17 w fun t18 w =>
  k1 t18 w)
  (k1 (Value.int IntKind.i64 1125899906842624) w)
theorem pacelineref12_Node_Tell_eq (t0 : Value) (w : World) (K : KV) : pacelineref12_Node_Tell t0 w K = fnW prog 39 [2, 3] (match fn20.body with | some c => c | none => .skip) #[t0] w K := by kernel_rfl
theorem pacelineref12_Node_Tell_ok : fnOk prog 39 [2, 3] (match fn20.body with | some c => c | none => .skip) = true := by kernel_rfl
theorem pacelineref12_Node_Tell_calls {t0 : Value} {w : World} {K : KV} (h : pacelineref12_Node_Tell t0 w K) : Cl prog 20 #[t0] w K :=
  Cl.mk (by kernel_rfl) (calls_of_F (fn := fn20) (nt := 39) (rs := [2, 3]) mixed fnAt20 (by kernel_rfl) (by kernel_rfl) (by kernel_rfl) (Nat.le_of_ble_eq_true (by kernel_rfl)) pacelineref12_Node_Tell_ok (pacelineref12_Node_Tell_eq t0 w K) h)

/-- (*paceline/cmb.Node).Safe -/
def cmb_Node_Safe (t0 : Value) (w : World) (K : KV) : Prop :=
  ncP t0 <|
  fld 1 t0 w fun t8 w =>
  ldN 1 t8 w fun t9 w =>
  Cl prog 50 #[t9] w fun t10 w =>
  xt 0 t10 w fun t11 w =>
  xt 1 t10 w fun t12 w =>
  al (zeroD prog 26) 26 w fun t3 w =>
  stN 6 t3 t11 w fun _ w =>
  dr w fun w =>
  gd t12 true (fun k => fld 0 t3 w k) w fun t15 _ =>
  gd t12 true (fun k => fld 0 t15 w k) w fun t16 _ =>
  gd t12 true (fun k => ld1 t16 w k) w fun t17 _ =>
  gd t12 true (fun k => k t0 w) w fun t18 _ =>
  gd t12 true (fun k => nc t18 w k) w fun t19 _ =>
  gd t12 true (fun k => fld 2 t19 w k) w fun t20 _ =>
  gd t12 true (fun k => fld 2 t20 w k) w fun t21 _ =>
  gd t12 true (fun k => ld1 t21 w k) w fun t22 _ =>
  gd t12 true (fun k => k t0 w) w fun t23 _ =>
  gd t12 true (fun k => nc t23 w k) w fun t24 _ =>
  gd t12 true (fun k => fld 0 t24 w k) w fun t25 _ =>
  gd t12 true (fun k => ld1 t25 w k) w fun t26 _ =>
  gd t12 true (fun k => Cl prog 14 #[t26] w k) w fun t27 w =>
  (gd t12 true (fun k => ld1 t21 w k) w (fun v' w'' => v' = t22 ∧ w'' = w)) ∧ ((gd t12 true (fun k => ld1 t16 w k) w (fun v' w'' => v' = t17 ∧ w'' = w)) ∧ (gd t12 true (fun k => mnI .i64 t22 t27 w k) w fun t28 w =>
  (gd t12 true (fun k => ld1 t16 w k) w (fun v' w'' => v' = t17 ∧ w'' = w)) ∧ (gd t12 true (fun k => bi .lss .i64 t17 t28 w k) w fun t29 _ =>
  pk t12 t29 (Value.bool false) w fun t30 _ =>
  K t30 w)))
theorem cmb_Node_Safe_eq (t0 : Value) (w : World) (K : KV) : cmb_Node_Safe t0 w K = fnW prog 31 [2] (match fn21.body with | some c => c | none => .skip) #[t0] w K := by kernel_rfl
theorem cmb_Node_Safe_ok : fnOk prog 31 [2] (match fn21.body with | some c => c | none => .skip) = true := by kernel_rfl
theorem cmb_Node_Safe_calls {t0 : Value} {w : World} {K : KV} (h : cmb_Node_Safe t0 w K) : Cl prog 21 #[t0] w K :=
  Cl.mk (by kernel_rfl) (calls_of_F (fn := fn21) (nt := 31) (rs := [2]) mixed fnAt21 (by kernel_rfl) (by kernel_rfl) (by kernel_rfl) (Nat.le_of_ble_eq_true (by kernel_rfl)) cmb_Node_Safe_ok (cmb_Node_Safe_eq t0 w K) h)

/-- (*paceline/pacelineref12.Node).Safe -/
def pacelineref12_Node_Safe (t0 : Value) (w : World) (K : KV) : Prop :=
  ncP t0 <|
  fld 7 t0 w fun t8 w =>
  ld1 t8 w fun t9 w =>
  Cl prog 52 #[t9] w fun t10 w =>
  xt 0 t10 w fun t11 w =>
  xt 1 t10 w fun t12 w =>
  al (zeroD prog 26) 26 w fun t3 w =>
  stN 6 t3 t11 w fun _ w =>
  dr w fun w =>
  gd t12 true (fun k => fld 0 t3 w k) w fun t15 _ =>
  gd t12 true (fun k => fld 0 t15 w k) w fun t16 _ =>
  gd t12 true (fun k => ld1 t16 w k) w fun t17 _ =>
  gd t12 true (fun k => k t0 w) w fun t18 _ =>
  gd t12 true (fun k => nc t18 w k) w fun t19 _ =>
  gd t12 true (fun k => fld 0 t19 w k) w fun t20 _ =>
  gd t12 true (fun k => fld 2 t20 w k) w fun t21 _ =>
  gd t12 true (fun k => ld1 t21 w k) w fun t22 _ =>
  gd t12 true (fun k => bi .lss .i64 t17 t22 w k) w fun t23 _ =>
  pk t12 t23 (Value.bool false) w fun t24 _ =>
  gd t24 true (fun k => fld 0 t3 w k) w fun t26 _ =>
  gd t24 true (fun k => fld 0 t26 w k) w fun t27 _ =>
  gd t24 true (fun k => ld1 t27 w k) w fun t28 _ =>
  gd t24 true (fun k => k t0 w) w fun t29 _ =>
  gd t24 true (fun k => Cl prog 24 #[t29] w k) w fun t30 w =>
  (gd t24 true (fun k => ld1 t27 w k) w (fun v' w'' => v' = t28 ∧ w'' = w)) ∧ (gd t24 true (fun k => bi .lss .i64 t28 t30 w k) w fun t31 _ =>
  pk t24 t31 (Value.bool false) w fun t32 _ =>
  K t32 w)
theorem pacelineref12_Node_Safe_eq (t0 : Value) (w : World) (K : KV) : pacelineref12_Node_Safe t0 w K = fnW prog 33 [2] (match fn22.body with | some c => c | none => .skip) #[t0] w K := by kernel_rfl
theorem pacelineref12_Node_Safe_ok : fnOk prog 33 [2] (match fn22.body with | some c => c | none => .skip) = true := by kernel_rfl
theorem pacelineref12_Node_Safe_calls {t0 : Value} {w : World} {K : KV} (h : pacelineref12_Node_Safe t0 w K) : Cl prog 22 #[t0] w K :=
  Cl.mk (by kernel_rfl) (calls_of_F (fn := fn22) (nt := 33) (rs := [2]) mixed fnAt22 (by kernel_rfl) (by kernel_rfl) (by kernel_rfl) (Nat.le_of_ble_eq_true (by kernel_rfl)) pacelineref12_Node_Safe_ok (pacelineref12_Node_Safe_eq t0 w K) h)

/-- (*paceline/pacelineref12.Node).State -/
def pacelineref12_Node_State (t0 : Value) (w : World) (K : KV) : Prop :=
  ncP t0 <|
  fld 4 t0 w fun t5 w =>
  ld1 t5 w fun t6 w =>
  K t6 w
theorem pacelineref12_Node_State_eq (t0 : Value) (w : World) (K : KV) : pacelineref12_Node_State t0 w K = fnW prog 7 [2] (match fn23.body with | some c => c | none => .skip) #[t0] w K := by kernel_rfl
theorem pacelineref12_Node_State_ok : fnOk prog 7 [2] (match fn23.body with | some c => c | none => .skip) = true := by kernel_rfl
theorem pacelineref12_Node_State_calls {t0 : Value} {w : World} {K : KV} (h : pacelineref12_Node_State t0 w K) : Cl prog 23 #[t0] w K :=
  Cl.mk (by kernel_rfl) (calls_of_F (fn := fn23) (nt := 7) (rs := [2]) mixed fnAt23 (by kernel_rfl) (by kernel_rfl) (by kernel_rfl) (Nat.le_of_ble_eq_true (by kernel_rfl)) pacelineref12_Node_State_ok (pacelineref12_Node_State_eq t0 w K) h)

/-- (*paceline/pacelineref12.Node).Bound -/
def pacelineref12_Node_Bound (t0 : Value) (w : World) (K : KV) : Prop :=
  ncP t0 <|
  fld 6 t0 w fun t5 w =>
  ld1 t5 w fun t6 w =>
  Cl prog 54 #[t6] w fun t7 w =>
  K t7 w
theorem pacelineref12_Node_Bound_eq (t0 : Value) (w : World) (K : KV) : pacelineref12_Node_Bound t0 w K = fnW prog 8 [2] (match fn24.body with | some c => c | none => .skip) #[t0] w K := by kernel_rfl
theorem pacelineref12_Node_Bound_ok : fnOk prog 8 [2] (match fn24.body with | some c => c | none => .skip) = true := by kernel_rfl
theorem pacelineref12_Node_Bound_calls {t0 : Value} {w : World} {K : KV} (h : pacelineref12_Node_Bound t0 w K) : Cl prog 24 #[t0] w K :=
  Cl.mk (by kernel_rfl) (calls_of_F (fn := fn24) (nt := 8) (rs := [2]) mixed fnAt24 (by kernel_rfl) (by kernel_rfl) (by kernel_rfl) (Nat.le_of_ble_eq_true (by kernel_rfl)) pacelineref12_Node_Bound_ok (pacelineref12_Node_Bound_eq t0 w K) h)

/-- (*paceline/pacelineref12.Node).Waiting -/
def pacelineref12_Node_Waiting (t0 : Value) (w : World) (K : KV) : Prop :=
  ncP t0 <|
  fld 7 t0 w fun t5 w =>
  ld1 t5 w fun t6 w =>
  Cl prog 55 #[t6] w fun t7 w =>
  K t7 w
theorem pacelineref12_Node_Waiting_eq (t0 : Value) (w : World) (K : KV) : pacelineref12_Node_Waiting t0 w K = fnW prog 8 [2] (match fn25.body with | some c => c | none => .skip) #[t0] w K := by kernel_rfl
theorem pacelineref12_Node_Waiting_ok : fnOk prog 8 [2] (match fn25.body with | some c => c | none => .skip) = true := by kernel_rfl
theorem pacelineref12_Node_Waiting_calls {t0 : Value} {w : World} {K : KV} (h : pacelineref12_Node_Waiting t0 w K) : Cl prog 25 #[t0] w K :=
  Cl.mk (by kernel_rfl) (calls_of_F (fn := fn25) (nt := 8) (rs := [2]) mixed fnAt25 (by kernel_rfl) (by kernel_rfl) (by kernel_rfl) (Nat.le_of_ble_eq_true (by kernel_rfl)) pacelineref12_Node_Waiting_ok (pacelineref12_Node_Waiting_eq t0 w K) h)

/-- paceline/pacelineref09.Same -/
def pacelineref09_Same (t0 t1 : Value) (w : World) (K : KV) : Prop :=
  lnS t0 w fun t7 w =>
  lnS t1 w fun t9 w =>
  bi .neq .i64 t7 t9 w fun t10 w =>
  iff' t10
  (K (Value.bool false) w)
  (lp [(Value.int IntKind.i64 0)] w (b1 fun t5 w g1 =>
  lnS t0 w fun t13 w =>
  bi .lss .i64 t5 t13 w fun t14 w =>
  iff' t14
  (dr w fun w =>
  ixS 7 t0 t5 w fun t19 _ =>
  ldN 7 t19 w fun t20 _ =>
  ixS 7 t1 t5 w fun t23 _ =>
  ldN 7 t23 w fun t24 _ =>
  bO prog .neq 46 (Operand.tmp 20) (Operand.tmp 24) t20 t24 w fun t25 w =>
  iff' t25
  (K (Value.bool false) w)
  (bi .add .i64 t5 (Value.int IntKind.i64 1) w fun t16 w =>
  g1 [t16] w))
  (K (Value.bool true) w)))
theorem pacelineref09_Same_eq (t0 t1 : Value) (w : World) (K : KV) : pacelineref09_Same t0 t1 w K = fnW prog 26 [4] (match fn26.body with | some c => c | none => .skip) #[t0, t1] w K := by kernel_rfl
theorem pacelineref09_Same_ok : fnOk prog 26 [4] (match fn26.body with | some c => c | none => .skip) = true := by kernel_rfl
theorem pacelineref09_Same_calls {t0 t1 : Value} {w : World} {K : KV} (h : pacelineref09_Same t0 t1 w K) : Cl prog 26 #[t0, t1] w K :=
  Cl.mk (by kernel_rfl) (calls_of_F (fn := fn26) (nt := 26) (rs := [4]) mixed fnAt26 (by kernel_rfl) (by kernel_rfl) (by kernel_rfl) (Nat.le_of_ble_eq_true (by kernel_rfl)) pacelineref09_Same_ok (pacelineref09_Same_eq t0 t1 w K) h)

/-- (*paceline/pacelineref12.Node).Log -/
def pacelineref12_Node_Log (t0 : Value) (w : World) (K : KV) : Prop :=
  bsl 46 7 0 #[] [] w fun t4 w =>
  ncP t0 <|
  fld 8 t0 w fun t8 w =>
  ld1 t8 w fun t9 w =>
  apS prog #[55, 55] 55 t4 t9 w fun t10 w =>
  K t10 w
theorem pacelineref12_Node_Log_eq (t0 : Value) (w : World) (K : KV) : pacelineref12_Node_Log t0 w K = fnW prog 11 [2] (match fn27.body with | some c => c | none => .skip) #[t0] w K := by kernel_rfl
theorem pacelineref12_Node_Log_ok : fnOk prog 11 [2] (match fn27.body with | some c => c | none => .skip) = true := by kernel_rfl
theorem pacelineref12_Node_Log_calls {t0 : Value} {w : World} {K : KV} (h : pacelineref12_Node_Log t0 w K) : Cl prog 27 #[t0] w K :=
  Cl.mk (by kernel_rfl) (calls_of_F (fn := fn27) (nt := 11) (rs := [2]) mixed fnAt27 (by kernel_rfl) (by kernel_rfl) (by kernel_rfl) (Nat.le_of_ble_eq_true (by kernel_rfl)) pacelineref12_Node_Log_ok (pacelineref12_Node_Log_eq t0 w K) h)

/-- paceline/config.Check -/
def config_Check (t0 : Value) (w : World) (K : KV) : Prop :=
  al (Value.cells t0) 39 w fun t1 w =>
  fld 2 t1 w fun t9 w =>
  ld1 t9 w fun t10 w =>
  Cl prog 60 #[t10, (Value.int IntKind.i64 0), (Value.int IntKind.i64 1099511627776)] w fun t11 w =>
  gd t11 true (fun k => fld 1 t1 w k) w fun t13 w =>
  gd t11 true (fun k => ld1 t13 w k) w fun t14 w =>
  gd t11 true (fun k => lnS t14 w k) w fun t15 w =>
  gd t11 true (fun k => Cl prog 60 #[t15, (Value.int IntKind.i64 1), (Value.int IntKind.i64 8)] w k) w fun t16 w =>
  pk t11 t16 (Value.bool false) w fun t17 w =>
  Cl prog 59 #[t17, (Value.int IntKind.i64 1)] w fun t18 w =>
  bsl 104 1 2 (zeroD prog 104) [(0, (Value.func (Fn.func 57) #[] #[t1])), (1, t18)] w fun t19 w =>
  Cl prog 56 #[t19] w fun t20 w =>
  bi .neq .i64 t20 (Value.int IntKind.i64 0) w fun t22 w =>
  iff' t22
  (K (Value.tuple #[(Value.int IntKind.i64 (-1)), t20]) w)
  (fld 1 t1 w fun t24 w =>
  ld1 t24 w fun t25 w =>
  lnS t25 w fun t26 w =>
  lp [(Value.int IntKind.i64 0)] w (b1 fun t27 w g1 =>
  bi .lss .i64 t27 t26 w fun t28 w =>
  iff' t28
  (ixS 7 t25 t27 w fun t30 w =>
  ldN 7 t30 w fun t31 w =>
  al (zeroD prog 72) 72 w fun t6 w =>
  stN 7 t6 t31 w fun _ w =>
  ldN 7 t6 w fun t32 w =>
  fld 0 t1 w fun t33 w =>
  ld1 t33 w fun t34 w =>
  lnS t34 w fun t35 w =>
  Cl prog 61 #[t32, t35] w fun t36 w =>
  bi .neq .i64 t36 (Value.int IntKind.i64 0) w fun t38 w =>
  iff' t38
  (K (Value.tuple #[t27, t36]) w)
  (bi .add .i64 t27 (Value.int IntKind.i64 1) w fun t41 w =>
  g1 [t41] w))
  (K (Value.tuple #[(Value.int IntKind.i64 (-1)), (Value.int IntKind.i64 0)]) w)))
theorem config_Check_eq (t0 : Value) (w : World) (K : KV) : config_Check t0 w K = fnW prog 42 [2, 3] (match fn28.body with | some c => c | none => .skip) #[t0] w K := by kernel_rfl
theorem config_Check_ok : fnOk prog 42 [2, 3] (match fn28.body with | some c => c | none => .skip) = true := by kernel_rfl
theorem config_Check_calls {t0 : Value} {w : World} {K : KV} (h : config_Check t0 w K) : Cl prog 28 #[t0] w K :=
  Cl.mk (by kernel_rfl) (calls_of_F (fn := fn28) (nt := 42) (rs := [2, 3]) mixed fnAt28 (by kernel_rfl) (by kernel_rfl) (by kernel_rfl) (Nat.le_of_ble_eq_true (by kernel_rfl)) config_Check_ok (config_Check_eq t0 w K) h)

/-- paceline/clock.New -/
def clock_New (t0 t1 : Value) (w : World) (K : KV) : Prop :=
  bi .lss .i64 t0 (Value.int IntKind.i64 1) w fun t9 w =>
  gd t9 false (fun k => k t0 w) w fun t11 w =>
  gd t9 false (fun k => bi .gtr .i64 t11 (Value.int IntKind.i64 8) w k) w fun t12 w =>
  pk t9 (Value.bool true) t12 w fun t13 w =>
  gd t13 false (fun k => k t1 w) w fun t15 w =>
  gd t13 false (fun k => bi .lss .i64 t15 (Value.int IntKind.i64 0) w k) w fun t16 w =>
  pk t13 (Value.bool true) t16 w fun t17 w =>
  gd t17 false (fun k => k t1 w) w fun t19 w =>
  gd t17 false (fun k => k t0 w) w fun t20 w =>
  gd t17 false (fun k => bi .geq .i64 t19 t20 w k) w fun t21 w =>
  pk t17 (Value.bool true) t21 w fun t22 w =>
  iff' t22
  (K (Value.tuple #[(Value.pointer none), (Value.int IntKind.i64 1)]) w)
  (mkMap w fun t23 w =>
  bld (zeroD prog 99) #[(0, 1), (1, 1)] [(0, t23)] w fun t24 w =>
  al (Value.cells t24) 99 w fun t25 w =>
  lp [(Value.int IntKind.i64 0)] w (b1 fun t27 w g1 =>
  bi .lss .i64 t27 t0 w fun t28 w =>
  iff' t28
  (J0 (fun w =>
  bi .add .i64 t27 (Value.int IntKind.i64 1) w fun t38 w =>
  g1 [t38] w) fun k2 =>
  bi .neq .i64 t27 t1 w fun t32 w =>
  iff' t32
  (ncP t25 <|
  fld 0 t25 w fun t35 w =>
  ld1 t35 w fun t36 w =>
  upM prog 97 t36 t27 (Value.int IntKind.i64 0) w fun _ w =>
  k2 w)
  (k2 w))
  (K (Value.tuple #[t25, (Value.int IntKind.i64 0)]) w)))
theorem clock_New_eq (t0 t1 : Value) (w : World) (K : KV) : clock_New t0 t1 w K = fnW prog 40 [4, 5] (match fn29.body with | some c => c | none => .skip) #[t0, t1] w K := by kernel_rfl
theorem clock_New_ok : fnOk prog 40 [4, 5] (match fn29.body with | some c => c | none => .skip) = true := by kernel_rfl
theorem clock_New_calls {t0 t1 : Value} {w : World} {K : KV} (h : clock_New t0 t1 w K) : Cl prog 29 #[t0, t1] w K :=
  Cl.mk (by kernel_rfl) (calls_of_F (fn := fn29) (nt := 40) (rs := [4, 5]) mixed fnAt29 (by kernel_rfl) (by kernel_rfl) (by kernel_rfl) (Nat.le_of_ble_eq_true (by kernel_rfl)) clock_New_ok (clock_New_eq t0 t1 w K) h)

/-- paceline/prio.New -/
def prio_New (t0 : Value) (w : World) (K : KV) : Prop :=
  mnI .i64 t0 (Value.int IntKind.i64 64) w fun t4 w =>
  mxI .i64 (Value.int IntKind.i64 0) t4 w fun t5 w =>
  mkMap w fun t6 w =>
  bld (zeroD prog 110) #[(0, 1), (1, 1), (2, 1)] [(0, t5), (2, t6)] w fun t7 w =>
  al (Value.cells t7) 110 w fun t8 w =>
  K t8 w
theorem prio_New_eq (t0 : Value) (w : World) (K : KV) : prio_New t0 w K = fnW prog 9 [2] (match fn30.body with | some c => c | none => .skip) #[t0] w K := by kernel_rfl
theorem prio_New_ok : fnOk prog 9 [2] (match fn30.body with | some c => c | none => .skip) = true := by kernel_rfl
theorem prio_New_calls {t0 : Value} {w : World} {K : KV} (h : prio_New t0 w K) : Cl prog 30 #[t0] w K :=
  Cl.mk (by kernel_rfl) (calls_of_F (fn := fn30) (nt := 9) (rs := [2]) mixed fnAt30 (by kernel_rfl) (by kernel_rfl) (by kernel_rfl) (Nat.le_of_ble_eq_true (by kernel_rfl)) prio_New_ok (prio_New_eq t0 w K) h)

/-- paceline/cmb.copied -/
def cmb_copied (t0 : Value) (w : World) (K : KV) : Prop :=
  al (Value.cells t0) 39 w fun t1 w =>
  al (zeroD prog 39) 39 w fun t2 w =>
  fld 0 t1 w fun t6 w =>
  ld1 t6 w fun t7 w =>
  Cl prog 62 #[t7] w fun t8 w =>
  fld 0 t1 w fun t9 w =>
  stN 1 t9 t8 w fun _ w =>
  fld 1 t1 w fun t10 w =>
  ld1 t10 w fun t11 w =>
  Cl prog 63 #[t11] w fun t12 w =>
  fld 1 t1 w fun t13 w =>
  stN 1 t13 t12 w fun _ w =>
  fld 1 t1 w fun t14 w =>
  ld1 t14 w fun t15 w =>
  lnS t15 w fun t16 w =>
  lp [(Value.int IntKind.i64 0)] w (b1 fun t17 w g1 =>
  bi .lss .i64 t17 t16 w fun t18 w =>
  iff' t18
  (fld 1 t1 w fun t20 w =>
  ld1 t20 w fun t21 w =>
  ixS 7 t21 t17 w fun t23 w =>
  dr w fun w =>
  ncP t23 <|
  fld 4 t23 w fun t30 _ =>
  ld1 t30 w fun t31 _ =>
  ncP t23 <|
  fld 5 t23 w fun t35 _ =>
  ld1 t35 w fun t36 _ =>
  ncP t23 <|
  fld 6 t23 w fun t40 _ =>
  ld1 t40 w fun t41 _ =>
  ncP t23 <|
  fld 3 t23 w fun t45 _ =>
  ld1 t45 w fun t46 _ =>
  Cl prog 62 #[t31] w fun t32 w =>
  (ld1 t45 w (fun v' w'' => v' = t46 ∧ w'' = w)) ∧ ((ld1 t40 w (fun v' w'' => v' = t41 ∧ w'' = w)) ∧ ((ld1 t35 w (fun v' w'' => v' = t36 ∧ w'' = w)) ∧ (Cl prog 62 #[t36] w fun t37 w =>
  (ld1 t45 w (fun v' w'' => v' = t46 ∧ w'' = w)) ∧ ((ld1 t40 w (fun v' w'' => v' = t41 ∧ w'' = w)) ∧ (Cl prog 64 #[t41] w fun t42 w =>
  (ld1 t45 w (fun v' w'' => v' = t46 ∧ w'' = w)) ∧ (Cl prog 65 #[t46] w fun t47 w =>
  ncP t23 <|
  fld 4 t23 w fun t49 _ =>
  stN 1 t49 t32 w fun _ w =>
  ncP t23 <|
  fld 5 t23 w fun t51 _ =>
  stN 1 t51 t37 w fun _ w =>
  ncP t23 <|
  fld 6 t23 w fun t53 _ =>
  stN 1 t53 t42 w fun _ w =>
  ncP t23 <|
  fld 3 t23 w fun t55 _ =>
  stN 1 t55 t47 w fun _ w =>
  ncP t23 <|
  fld 3 t23 w fun t58 w =>
  ld1 t58 w fun t59 w =>
  lnS t59 w fun t60 w =>
  lp [(Value.int IntKind.i64 0)] w (b1 fun t61 w g2 =>
  bi .lss .i64 t61 t60 w fun t62 w =>
  iff' t62
  (dr w fun w =>
  ncP t23 <|
  fld 3 t23 w fun t66 _ =>
  ld1 t66 w fun t67 _ =>
  ncP t23 <|
  fld 3 t23 w fun t71 _ =>
  ld1 t71 w fun t72 _ =>
  ixS 4 t72 t61 w fun t74 _ =>
  fld 3 t74 w fun t75 _ =>
  ld1 t75 w fun t76 _ =>
  Cl prog 64 #[t76] w fun t77 w =>
  (ld1 t66 w (fun v' w'' => v' = t67 ∧ w'' = w)) ∧ (ixS 4 t67 t61 w fun t78 _ =>
  fld 3 t78 w fun t79 _ =>
  stN 1 t79 t77 w fun _ w =>
  bi .add .i64 t61 (Value.int IntKind.i64 1) w fun t80 w =>
  g2 [t80] w))
  (bi .add .i64 t17 (Value.int IntKind.i64 1) w fun t81 w =>
  g1 [t81] w)))))))))
  (ldN 3 t1 w fun t82 w =>
  stN 3 t2 t82 w fun _ w =>
  ldN 3 t2 w fun r0 _ =>
  K r0 w))
theorem cmb_copied_eq (t0 : Value) (w : World) (K : KV) : cmb_copied t0 w K = fnWC prog 83 [(2, some 39)] (match fn31.body with | some c => c | none => .skip) #[t0] w K := by kernel_rfl
theorem cmb_copied_ok : fnOkC prog 83 [(2, some 39)] (match fn31.body with | some c => c | none => .skip) = true := by kernel_rfl
theorem cmb_copied_calls {t0 : Value} {w : World} {K : KV} (h : cmb_copied t0 w K) : Cl prog 31 #[t0] w K :=
  Cl.mk (by kernel_rfl) (calls_of_FC (fn := fn31) (nt := 83) (rs := [(2, some 39)]) mixed fnAt31 (by kernel_rfl) (by kernel_rfl) (by kernel_rfl) (Nat.le_of_ble_eq_true (by kernel_rfl)) cmb_copied_ok (cmb_copied_eq t0 w K) h)

/-- paceline/pacelineref08.Check -/
def pacelineref08_Check (t0 : Value) (w : World) (K : KV) : Prop :=
  al (Value.cells t0) 39 w fun t1 w =>
  fld 0 t1 w fun t7 w =>
  ld1 t7 w fun t8 w =>
  Cl prog 66 #[t8] w fun t9 w =>
  bi .neq .i64 t9 (Value.int IntKind.i64 0) w fun t11 w =>
  iff' t11
  (K (Value.tuple #[(Value.int IntKind.i64 (-1)), t9]) w)
  (fld 2 t1 w fun t13 w =>
  ld1 t13 w fun t14 w =>
  bi .lss .i64 t14 (Value.int IntKind.i64 0) w fun t15 w =>
  gd t15 false (fun k => fld 2 t1 w k) w fun t17 w =>
  gd t15 false (fun k => ld1 t17 w k) w fun t18 w =>
  gd t15 false (fun k => bi .gtr .i64 t18 (Value.int IntKind.i64 1099511627776) w k) w fun t19 w =>
  pk t15 (Value.bool true) t19 w fun t20 w =>
  gd t20 false (fun k => fld 1 t1 w k) w fun t22 w =>
  gd t20 false (fun k => ld1 t22 w k) w fun t23 w =>
  gd t20 false (fun k => lnS t23 w k) w fun t24 w =>
  gd t20 false (fun k => bi .lss .i64 t24 (Value.int IntKind.i64 1) w k) w fun t25 w =>
  pk t20 (Value.bool true) t25 w fun t26 w =>
  gd t26 false (fun k => fld 1 t1 w k) w fun t28 w =>
  gd t26 false (fun k => ld1 t28 w k) w fun t29 w =>
  gd t26 false (fun k => lnS t29 w k) w fun t30 w =>
  gd t26 false (fun k => bi .gtr .i64 t30 (Value.int IntKind.i64 8) w k) w fun t31 w =>
  pk t26 (Value.bool true) t31 w fun t32 w =>
  iff' t32
  (K (Value.tuple #[(Value.int IntKind.i64 (-1)), (Value.int IntKind.i64 1)]) w)
  (lp [(Value.int IntKind.i64 0)] w (b1 fun t5 w g1 =>
  fld 1 t1 w fun t34 w =>
  ld1 t34 w fun t35 w =>
  lnS t35 w fun t36 w =>
  bi .lss .i64 t5 t36 w fun t37 w =>
  iff' t37
  (dr w fun w =>
  fld 1 t1 w fun t40 _ =>
  ld1 t40 w fun t41 _ =>
  ixS 7 t41 t5 w fun t43 _ =>
  ldN 7 t43 w fun t44 _ =>
  fld 0 t1 w fun t45 _ =>
  ld1 t45 w fun t46 _ =>
  lnS t46 w fun t47 _ =>
  Cl prog 67 #[t44, t47] w fun t48 w =>
  bi .neq .i64 t48 (Value.int IntKind.i64 0) w fun t50 w =>
  iff' t50
  (K (Value.tuple #[t5, t48]) w)
  (bi .add .i64 t5 (Value.int IntKind.i64 1) w fun t39 w =>
  g1 [t39] w))
  (K (Value.tuple #[(Value.int IntKind.i64 (-1)), (Value.int IntKind.i64 0)]) w))))
theorem pacelineref08_Check_eq (t0 : Value) (w : World) (K : KV) : pacelineref08_Check t0 w K = fnW prog 53 [2, 3] (match fn32.body with | some c => c | none => .skip) #[t0] w K := by kernel_rfl
theorem pacelineref08_Check_ok : fnOk prog 53 [2, 3] (match fn32.body with | some c => c | none => .skip) = true := by kernel_rfl
theorem pacelineref08_Check_calls {t0 : Value} {w : World} {K : KV} (h : pacelineref08_Check t0 w K) : Cl prog 32 #[t0] w K :=
  Cl.mk (by kernel_rfl) (calls_of_F (fn := fn32) (nt := 53) (rs := [2, 3]) mixed fnAt32 (by kernel_rfl) (by kernel_rfl) (by kernel_rfl) (Nat.le_of_ble_eq_true (by kernel_rfl)) pacelineref08_Check_ok (pacelineref08_Check_eq t0 w K) h)

/-- paceline/pacelineref11.New -/
def pacelineref11_New (t0 t1 : Value) (w : World) (K : KV) : Prop :=
  bi .lss .i64 t0 (Value.int IntKind.i64 1) w fun t7 w =>
  gd t7 false (fun k => k t0 w) w fun t9 w =>
  gd t7 false (fun k => bi .gtr .i64 t9 (Value.int IntKind.i64 8) w k) w fun t10 w =>
  pk t7 (Value.bool true) t10 w fun t11 w =>
  gd t11 false (fun k => k t1 w) w fun t13 w =>
  gd t11 false (fun k => bi .lss .i64 t13 (Value.int IntKind.i64 0) w k) w fun t14 w =>
  pk t11 (Value.bool true) t14 w fun t15 w =>
  gd t15 false (fun k => k t1 w) w fun t17 w =>
  gd t15 false (fun k => k t0 w) w fun t18 w =>
  gd t15 false (fun k => bi .geq .i64 t17 t18 w k) w fun t19 w =>
  pk t15 (Value.bool true) t19 w fun t20 w =>
  iff' t20
  (K (Value.tuple #[(Value.pointer none), (Value.int IntKind.i64 1)]) w)
  (mkS prog 36 t0 t0 w fun t22 w =>
  bld (zeroD prog 117) #[(0, 1), (1, 1), (2, 1)] [(0, t22), (1, t1)] w fun t24 w =>
  al (Value.cells t24) 117 w fun t25 w =>
  K (Value.tuple #[t25, (Value.int IntKind.i64 0)]) w)
theorem pacelineref11_New_eq (t0 t1 : Value) (w : World) (K : KV) : pacelineref11_New t0 t1 w K = fnW prog 26 [4, 5] (match fn33.body with | some c => c | none => .skip) #[t0, t1] w K := by kernel_rfl
theorem pacelineref11_New_ok : fnOk prog 26 [4, 5] (match fn33.body with | some c => c | none => .skip) = true := by kernel_rfl
theorem pacelineref11_New_calls {t0 t1 : Value} {w : World} {K : KV} (h : pacelineref11_New t0 t1 w K) : Cl prog 33 #[t0, t1] w K :=
  Cl.mk (by kernel_rfl) (calls_of_F (fn := fn33) (nt := 26) (rs := [4, 5]) mixed fnAt33 (by kernel_rfl) (by kernel_rfl) (by kernel_rfl) (Nat.le_of_ble_eq_true (by kernel_rfl)) pacelineref11_New_ok (pacelineref11_New_eq t0 t1 w K) h)

/-- paceline/pacelineref03.New -/
def pacelineref03_New (t0 : Value) (w : World) (K : KV) : Prop :=
  mnI .i64 t0 (Value.int IntKind.i64 64) w fun t4 w =>
  mxI .i64 (Value.int IntKind.i64 0) t4 w fun t5 w =>
  bld (zeroD prog 119) #[(0, 1), (1, 1)] [(0, t5)] w fun t6 w =>
  al (Value.cells t6) 119 w fun t7 w =>
  K t7 w
theorem pacelineref03_New_eq (t0 : Value) (w : World) (K : KV) : pacelineref03_New t0 w K = fnW prog 8 [2] (match fn34.body with | some c => c | none => .skip) #[t0] w K := by kernel_rfl
theorem pacelineref03_New_ok : fnOk prog 8 [2] (match fn34.body with | some c => c | none => .skip) = true := by kernel_rfl
theorem pacelineref03_New_calls {t0 : Value} {w : World} {K : KV} (h : pacelineref03_New t0 w K) : Cl prog 34 #[t0] w K :=
  Cl.mk (by kernel_rfl) (calls_of_F (fn := fn34) (nt := 8) (rs := [2]) mixed fnAt34 (by kernel_rfl) (by kernel_rfl) (by kernel_rfl) (Nat.le_of_ble_eq_true (by kernel_rfl)) pacelineref03_New_ok (pacelineref03_New_eq t0 w K) h)

/-- (*paceline/clock.Clocks).Hear -/
def clock_Clocks_Hear (t0 t1 t2 : Value) (w : World) (K : KV) : Prop :=
  ncP t0 <|
  fld 0 t0 w fun t12 w =>
  ld1 t12 w fun t13 w =>
  lkM prog 97 t13 t1 true w fun t15 w =>
  xt 0 t15 w fun t16 w =>
  xt 1 t15 w fun t17 w =>
  bnot t17 w fun t20 w =>
  gd t20 false (fun k => k t2 w) w fun t22 w =>
  gd t20 false (fun k => Cl prog 68 #[t22] w k) w fun t23 w =>
  gd t20 false (fun k => bnot t23 w k) w fun t24 w =>
  pk t20 (Value.bool true) t24 w fun t25 w =>
  iff' t25
  (K (Value.int IntKind.i64 1) w)
  (bi .lss .i64 t2 t16 w fun t29 w =>
  iff' t29
  (K (Value.int IntKind.i64 110) w)
  (ncP t0 <|
  fld 0 t0 w fun t32 w =>
  ld1 t32 w fun t33 w =>
  upM prog 97 t33 t1 t2 w fun _ w =>
  K (Value.int IntKind.i64 0) w))
theorem clock_Clocks_Hear_eq (t0 t1 t2 : Value) (w : World) (K : KV) : clock_Clocks_Hear t0 t1 t2 w K = fnW prog 36 [6] (match fn35.body with | some c => c | none => .skip) #[t0, t1, t2] w K := by kernel_rfl
theorem clock_Clocks_Hear_ok : fnOk prog 36 [6] (match fn35.body with | some c => c | none => .skip) = true := by kernel_rfl
theorem clock_Clocks_Hear_calls {t0 t1 t2 : Value} {w : World} {K : KV} (h : clock_Clocks_Hear t0 t1 t2 w K) : Cl prog 35 #[t0, t1, t2] w K :=
  Cl.mk (by kernel_rfl) (calls_of_F (fn := fn35) (nt := 36) (rs := [6]) mixed fnAt35 (by kernel_rfl) (by kernel_rfl) (by kernel_rfl) (Nat.le_of_ble_eq_true (by kernel_rfl)) clock_Clocks_Hear_ok (clock_Clocks_Hear_eq t0 t1 t2 w K) h)

/-- (*paceline/clock.Clocks).At -/
def clock_Clocks_At (t0 t1 : Value) (w : World) (K : KV) : Prop :=
  ncP t0 <|
  fld 0 t0 w fun t10 w =>
  ld1 t10 w fun t11 w =>
  lkM prog 97 t11 t1 true w fun t13 w =>
  xt 0 t13 w fun t14 w =>
  xt 1 t13 w fun t15 w =>
  iff' t15
  (K t14 w)
  (K (Value.int IntKind.i64 (-1)) w)
theorem clock_Clocks_At_eq (t0 t1 : Value) (w : World) (K : KV) : clock_Clocks_At t0 t1 w K = fnW prog 18 [4] (match fn36.body with | some c => c | none => .skip) #[t0, t1] w K := by kernel_rfl
theorem clock_Clocks_At_ok : fnOk prog 18 [4] (match fn36.body with | some c => c | none => .skip) = true := by kernel_rfl
theorem clock_Clocks_At_calls {t0 t1 : Value} {w : World} {K : KV} (h : clock_Clocks_At t0 t1 w K) : Cl prog 36 #[t0, t1] w K :=
  Cl.mk (by kernel_rfl) (calls_of_F (fn := fn36) (nt := 18) (rs := [4]) mixed fnAt36 (by kernel_rfl) (by kernel_rfl) (by kernel_rfl) (Nat.le_of_ble_eq_true (by kernel_rfl)) clock_Clocks_At_ok (clock_Clocks_At_eq t0 t1 w K) h)

/-- (*paceline/prio.Queue).Push -/
def prio_Queue_Push (t0 t1 : Value) (w : World) (K : KV) : Prop :=
  al (Value.cells t1) 26 w fun t3 w =>
  dr w fun w =>
  ncP t0 <|
  fld 2 t0 w fun t10 _ =>
  ld1 t10 w fun t11 _ =>
  fld 0 t3 w fun t12 _ =>
  ldN 3 t12 w fun t13 _ =>
  lkM prog 108 t11 t13 true w fun t14 w =>
  xt 0 t14 w fun _ _ =>
  xt 1 t14 w fun t16 _ =>
  iff' t16
  (K (Value.int IntKind.i64 3) w)
  (dr w fun w =>
  ncP t0 <|
  fld 1 t0 w fun t20 _ =>
  ld1 t20 w fun t21 _ =>
  lnS t21 w fun t22 _ =>
  ncP t0 <|
  fld 0 t0 w fun t25 _ =>
  ld1 t25 w fun t26 _ =>
  bi .geq .i64 t22 t26 w fun t27 _ =>
  iff' t27
  (K (Value.int IntKind.i64 2) w)
  (bld (zeroD prog 123) #[(0, 1)] [(0, t0)] w fun t29 w =>
  ldN 6 t3 w fun t31 w =>
  Cl prog 69 #[(Value.iface 123 t29), (Value.iface 26 t31)] w fun _ w =>
  K (Value.int IntKind.i64 0) w))
theorem prio_Queue_Push_eq (t0 t1 : Value) (w : World) (K : KV) : prio_Queue_Push t0 t1 w K = fnW prog 34 [4] (match fn37.body with | some c => c | none => .skip) #[t0, t1] w K := by kernel_rfl
theorem prio_Queue_Push_ok : fnOk prog 34 [4] (match fn37.body with | some c => c | none => .skip) = true := by kernel_rfl
theorem prio_Queue_Push_calls {t0 t1 : Value} {w : World} {K : KV} (h : prio_Queue_Push t0 t1 w K) : Cl prog 37 #[t0, t1] w K :=
  Cl.mk (by kernel_rfl) (calls_of_F (fn := fn37) (nt := 34) (rs := [4]) mixed fnAt37 (by kernel_rfl) (by kernel_rfl) (by kernel_rfl) (Nat.le_of_ble_eq_true (by kernel_rfl)) prio_Queue_Push_ok (prio_Queue_Push_eq t0 t1 w K) h)

/-- (*paceline/pacelineref11.Clocks).Hear -/
def pacelineref11_Clocks_Hear (t0 t1 t2 : Value) (w : World) (K : KV) : Prop :=
  bi .lss .i64 t1 (Value.int IntKind.i64 0) w fun t8 w =>
  gd t8 false (fun k => k t1 w) w fun t10 w =>
  gd t8 false (fun k => k t0 w) w fun t11 w =>
  gd t8 false (fun k => nc t11 w k) w fun t12 w =>
  gd t8 false (fun k => fld 0 t12 w k) w fun t13 w =>
  gd t8 false (fun k => ld1 t13 w k) w fun t14 w =>
  gd t8 false (fun k => lnS t14 w k) w fun t15 w =>
  gd t8 false (fun k => bi .geq .i64 t10 t15 w k) w fun t16 w =>
  pk t8 (Value.bool true) t16 w fun t17 w =>
  gd t17 false (fun k => k t1 w) w fun t19 w =>
  gd t17 false (fun k => k t0 w) w fun t20 w =>
  gd t17 false (fun k => nc t20 w k) w fun t21 w =>
  gd t17 false (fun k => fld 1 t21 w k) w fun t22 w =>
  gd t17 false (fun k => ld1 t22 w k) w fun t23 w =>
  gd t17 false (fun k => bi .eql .i64 t19 t23 w k) w fun t24 w =>
  pk t17 (Value.bool true) t24 w fun t25 w =>
  gd t25 false (fun k => k t2 w) w fun t27 w =>
  gd t25 false (fun k => Cl prog 70 #[t27] w k) w fun t28 w =>
  gd t25 false (fun k => bnot t28 w k) w fun t29 w =>
  pk t25 (Value.bool true) t29 w fun t30 w =>
  iff' t30
  (K (Value.int IntKind.i64 1) w)
  (ncP t0 <|
  fld 0 t0 w fun t34 w =>
  ld1 t34 w fun t35 w =>
  ixS 1 t35 t1 w fun t37 w =>
  ld1 t37 w fun t38 w =>
  bi .lss .i64 t2 t38 w fun t39 w =>
  iff' t39
  (K (Value.int IntKind.i64 110) w)
  (ncP t0 <|
  fld 0 t0 w fun t42 w =>
  ld1 t42 w fun t43 w =>
  ixS 1 t43 t1 w fun t46 w =>
  stN 1 t46 t2 w fun _ w =>
  K (Value.int IntKind.i64 0) w))
theorem pacelineref11_Clocks_Hear_eq (t0 t1 t2 : Value) (w : World) (K : KV) : pacelineref11_Clocks_Hear t0 t1 t2 w K = fnW prog 47 [6] (match fn38.body with | some c => c | none => .skip) #[t0, t1, t2] w K := by kernel_rfl
theorem pacelineref11_Clocks_Hear_ok : fnOk prog 47 [6] (match fn38.body with | some c => c | none => .skip) = true := by kernel_rfl
theorem pacelineref11_Clocks_Hear_calls {t0 t1 t2 : Value} {w : World} {K : KV} (h : pacelineref11_Clocks_Hear t0 t1 t2 w K) : Cl prog 38 #[t0, t1, t2] w K :=
  Cl.mk (by kernel_rfl) (calls_of_F (fn := fn38) (nt := 47) (rs := [6]) mixed fnAt38 (by kernel_rfl) (by kernel_rfl) (by kernel_rfl) (Nat.le_of_ble_eq_true (by kernel_rfl)) pacelineref11_Clocks_Hear_ok (pacelineref11_Clocks_Hear_eq t0 t1 t2 w K) h)

/-- (*paceline/pacelineref11.Clocks).At -/
def pacelineref11_Clocks_At (t0 t1 : Value) (w : World) (K : KV) : Prop :=
  bi .lss .i64 t1 (Value.int IntKind.i64 0) w fun t6 w =>
  gd t6 false (fun k => k t1 w) w fun t8 w =>
  gd t6 false (fun k => k t0 w) w fun t9 w =>
  gd t6 false (fun k => nc t9 w k) w fun t10 w =>
  gd t6 false (fun k => fld 0 t10 w k) w fun t11 w =>
  gd t6 false (fun k => ld1 t11 w k) w fun t12 w =>
  gd t6 false (fun k => lnS t12 w k) w fun t13 w =>
  gd t6 false (fun k => bi .geq .i64 t8 t13 w k) w fun t14 w =>
  pk t6 (Value.bool true) t14 w fun t15 w =>
  gd t15 false (fun k => k t1 w) w fun t17 w =>
  gd t15 false (fun k => k t0 w) w fun t18 w =>
  gd t15 false (fun k => nc t18 w k) w fun t19 w =>
  gd t15 false (fun k => fld 1 t19 w k) w fun t20 w =>
  gd t15 false (fun k => ld1 t20 w k) w fun t21 w =>
  gd t15 false (fun k => bi .eql .i64 t17 t21 w k) w fun t22 w =>
  pk t15 (Value.bool true) t22 w fun t23 w =>
  iff' t23
  (K (Value.int IntKind.i64 (-1)) w)
  (ncP t0 <|
  fld 0 t0 w fun t26 w =>
  ld1 t26 w fun t27 w =>
  ixS 1 t27 t1 w fun t29 w =>
  ld1 t29 w fun t30 w =>
  K t30 w)
theorem pacelineref11_Clocks_At_eq (t0 t1 : Value) (w : World) (K : KV) : pacelineref11_Clocks_At t0 t1 w K = fnW prog 31 [4] (match fn39.body with | some c => c | none => .skip) #[t0, t1] w K := by kernel_rfl
theorem pacelineref11_Clocks_At_ok : fnOk prog 31 [4] (match fn39.body with | some c => c | none => .skip) = true := by kernel_rfl
theorem pacelineref11_Clocks_At_calls {t0 t1 : Value} {w : World} {K : KV} (h : pacelineref11_Clocks_At t0 t1 w K) : Cl prog 39 #[t0, t1] w K :=
  Cl.mk (by kernel_rfl) (calls_of_F (fn := fn39) (nt := 31) (rs := [4]) mixed fnAt39 (by kernel_rfl) (by kernel_rfl) (by kernel_rfl) (Nat.le_of_ble_eq_true (by kernel_rfl)) pacelineref11_Clocks_At_ok (pacelineref11_Clocks_At_eq t0 t1 w K) h)

/-- (*paceline/pacelineref03.Queue).Push -/
def pacelineref03_Queue_Push (t0 t1 : Value) (w : World) (K : KV) : Prop :=
  al (Value.cells t1) 26 w fun t3 w =>
  fld 0 t3 w fun t6 w =>
  ldN 3 t6 w fun t7 w =>
  Cl prog 71 #[t0, t7] w fun t8 w =>
  bi .geq .i64 t8 (Value.int IntKind.i64 0) w fun t9 w =>
  iff' t9
  (K (Value.int IntKind.i64 3) w)
  (dr w fun w =>
  ncP t0 <|
  fld 1 t0 w fun t12 _ =>
  ld1 t12 w fun t13 _ =>
  lnS t13 w fun t14 _ =>
  ncP t0 <|
  fld 0 t0 w fun t17 _ =>
  ld1 t17 w fun t18 _ =>
  bi .geq .i64 t14 t18 w fun t19 _ =>
  iff' t19
  (K (Value.int IntKind.i64 2) w)
  (dr w fun w =>
  ncP t0 <|
  fld 1 t0 w fun t23 _ =>
  ld1 t23 w fun t24 _ =>
  ldN 6 t3 w fun t25 _ =>
  Cl prog 72 #[t24, t25] w fun t26 w =>
  ncP t0 <|
  fld 1 t0 w fun t28 _ =>
  stN 1 t28 t26 w fun _ w =>
  K (Value.int IntKind.i64 0) w))
theorem pacelineref03_Queue_Push_eq (t0 t1 : Value) (w : World) (K : KV) : pacelineref03_Queue_Push t0 t1 w K = fnW prog 29 [4] (match fn40.body with | some c => c | none => .skip) #[t0, t1] w K := by kernel_rfl
theorem pacelineref03_Queue_Push_ok : fnOk prog 29 [4] (match fn40.body with | some c => c | none => .skip) = true := by kernel_rfl
theorem pacelineref03_Queue_Push_calls {t0 t1 : Value} {w : World} {K : KV} (h : pacelineref03_Queue_Push t0 t1 w K) : Cl prog 40 #[t0, t1] w K :=
  Cl.mk (by kernel_rfl) (calls_of_F (fn := fn40) (nt := 29) (rs := [4]) mixed fnAt40 (by kernel_rfl) (by kernel_rfl) (by kernel_rfl) (Nat.le_of_ble_eq_true (by kernel_rfl)) pacelineref03_Queue_Push_ok (pacelineref03_Queue_Push_eq t0 t1 w K) h)

/-- (*paceline/prio.Queue).Pop -/
def prio_Queue_Pop (t0 : Value) (w : World) (K : KV) : Prop :=
  al (zeroD prog 26) 26 w fun t2 w =>
  ncP t0 <|
  fld 1 t0 w fun t6 w =>
  ld1 t6 w fun t7 w =>
  lnS t7 w fun t8 w =>
  bi .eql .i64 t8 (Value.int IntKind.i64 0) w fun t9 w =>
  iff' t9
  (bld (zeroD prog 26) #[(0, 3), (3, 1), (4, 1), (5, 1)] [] w fun t10 w =>
  stN 6 t2 t10 w fun _ w =>
  ldN 6 t2 w fun r0 _ =>
  K (Value.tuple #[r0, (Value.bool false)]) w)
  (bld (zeroD prog 123) #[(0, 1)] [(0, t0)] w fun t12 w =>
  Cl prog 73 #[(Value.iface 123 t12)] w fun t14 w =>
  tyA prog t14 20 26 false w fun t15 w =>
  stN 6 t2 t15 w fun _ w =>
  ldN 6 t2 w fun r0 _ =>
  K (Value.tuple #[r0, (Value.bool true)]) w)
theorem prio_Queue_Pop_eq (t0 : Value) (w : World) (K : KV) : prio_Queue_Pop t0 w K = fnWC prog 16 [(2, some 26), (3, none)] (match fn41.body with | some c => c | none => .skip) #[t0] w K := by kernel_rfl
theorem prio_Queue_Pop_ok : fnOkC prog 16 [(2, some 26), (3, none)] (match fn41.body with | some c => c | none => .skip) = true := by kernel_rfl
theorem prio_Queue_Pop_calls {t0 : Value} {w : World} {K : KV} (h : prio_Queue_Pop t0 w K) : Cl prog 41 #[t0] w K :=
  Cl.mk (by kernel_rfl) (calls_of_FC (fn := fn41) (nt := 16) (rs := [(2, some 26), (3, none)]) mixed fnAt41 (by kernel_rfl) (by kernel_rfl) (by kernel_rfl) (Nat.le_of_ble_eq_true (by kernel_rfl)) prio_Queue_Pop_ok (prio_Queue_Pop_eq t0 w K) h)

/-- paceline/table.Step -/
def table_Step (t0 t1 t2 : Value) (w : World) (K : KV) : Prop :=
  Cl prog 74 #[t0, t1, t2] w fun t12 w =>
  bi .lss .i64 t12 (Value.int IntKind.i64 0) w fun t14 w =>
  iff' t14
  (K (Value.tuple #[t1, (Value.slice none 0 0)]) w)
  (dr w fun w =>
  ixS 4 t0 t12 w fun t18 _ =>
  fld 2 t18 w fun t19 _ =>
  ld1 t19 w fun t20 _ =>
  ixS 4 t0 t12 w fun t23 _ =>
  fld 3 t23 w fun t24 _ =>
  ld1 t24 w fun t25 _ =>
  Cl prog 64 #[t25] w fun t26 w =>
  (ld1 t19 w (fun v' w'' => v' = t20 ∧ w'' = w)) ∧ (K (Value.tuple #[t20, t26]) w))
theorem table_Step_eq (t0 t1 t2 : Value) (w : World) (K : KV) : table_Step t0 t1 t2 w K = fnW prog 27 [6, 7] (match fn42.body with | some c => c | none => .skip) #[t0, t1, t2] w K := by kernel_rfl
theorem table_Step_ok : fnOk prog 27 [6, 7] (match fn42.body with | some c => c | none => .skip) = true := by kernel_rfl
theorem table_Step_calls {t0 t1 t2 : Value} {w : World} {K : KV} (h : table_Step t0 t1 t2 w K) : Cl prog 42 #[t0, t1, t2] w K :=
  Cl.mk (by kernel_rfl) (calls_of_F (fn := fn42) (nt := 27) (rs := [6, 7]) mixed fnAt42 (by kernel_rfl) (by kernel_rfl) (by kernel_rfl) (Nat.le_of_ble_eq_true (by kernel_rfl)) table_Step_ok (table_Step_eq t0 t1 t2 w K) h)

end Go.Proofs.YtenglfaeohgkfaaGreat
