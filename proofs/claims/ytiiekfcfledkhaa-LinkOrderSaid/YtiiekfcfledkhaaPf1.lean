/- Printed by prt.py: the Go functions of this seat as shallow predicate transformers. Conditions: none. -/
import Derived.Test.YtiiekfcfledkhaaEngO
import Derived.Test.YtiiekfcfledkhaaPfHead
import Derived.KernelRfl
namespace Go.Proofs.Ytiiekfcfledkhaa
open Go Go.E
/-- paceline/pacelinelaw16.CutColours -/
def pacelinelaw16_CutColours (t0 t1 t2 : Value) (w : World) (K : KV) : Prop :=
  lnS t1 w fun t20 w =>
  bi .gtr .i64 t20 (Value.int IntKind.i64 100) w fun t21 w =>
  iff' t21
  (K (Value.bool true) w)
  (cvI .i64 t0 w fun t23 w =>
  bi .rem .i64 t23 (Value.int IntKind.i64 8) w fun t24 w =>
  bi .add .i64 (Value.int IntKind.i64 1) t24 w fun t25 w =>
  Cl prog 31 #[t25] w fun t28 w =>
  xt 0 t28 w fun t29 w =>
  xt 1 t28 w fun t30 w =>
  bi .neq .i64 t30 (Value.int IntKind.i64 0) w fun t32 w =>
  gd t32 false (fun k => k t29 w) w fun t34 w =>
  gd t32 false (fun k => bn .eql t34 w k) w fun t35 w =>
  pk t32 (Value.bool true) t35 w fun t36 w =>
  iff' t36
  (K (Value.bool false) w)
  (lp [(Value.int IntKind.i64 0)] w (b1 fun t10 w g1 =>
  cvI .i64 t2 w fun t39 w =>
  bi .rem .i64 t39 (Value.int IntKind.i64 4) w fun t40 w =>
  bi .add .i64 (Value.int IntKind.i64 1) t40 w fun t41 w =>
  bi .lss .i64 t10 t41 w fun t42 w =>
  iff' t42
  (Cl prog 32 #[t29] w fun t46 w =>
  bi .neq .i64 t46 (Value.int IntKind.i64 0) w fun t47 w =>
  iff' t47
  (K (Value.bool false) w)
  (mkS prog 76 t25 t25 w fun t49 w =>
  lp [(Value.int IntKind.i64 0)] w (b1 fun t12 w g2 =>
  lnS t1 w fun t52 w =>
  bi .lss .i64 t12 t52 w fun t53 w =>
  iff' t53
  (ixS 1 t1 t12 w fun t58 w =>
  ld1 t58 w fun t59 w =>
  cvI .i64 t59 w fun t60 w =>
  bi .rem .i64 t60 t25 w fun t62 w =>
  Cl prog 33 #[t29, t62] w fun t65 w =>
  ixS 1 t49 t62 w fun t68 w =>
  ld1 t68 w fun t69 w =>
  bi .eql .i64 t65 (Value.int IntKind.i64 130) w fun t71 w =>
  bb .neq t69 t71 w fun t72 w =>
  gd t72 false (fun k => k t49 w) w fun t74 w =>
  gd t72 false (fun k => k t62 w) w fun t75 w =>
  gd t72 false (fun k => ixS 1 t74 t75 w k) w fun t76 w =>
  gd t72 false (fun k => ld1 t76 w k) w fun t77 w =>
  gd t72 false (fun k => bnot t77 w k) w fun t78 w =>
  gd t72 false (fun k => k t78 w) w fun t79 w =>
  gd t79 true (fun k => k t65 w) w fun t80 w =>
  gd t79 true (fun k => bi .neq .i64 t80 (Value.int IntKind.i64 0) w k) w fun t81 w =>
  gd t72 false (fun k => pk t79 t81 (Value.bool false) w k) w fun t82 w =>
  pk t72 (Value.bool true) t82 w fun t83 w =>
  iff' t83
  (K (Value.bool false) w)
  (ixS 1 t49 t62 w fun t86 w =>
  stN 1 t86 (Value.bool true) w fun _ w =>
  lp [(Value.int IntKind.i64 0)] w (b1 fun t15 w g3 =>
  bi .lss .i64 t15 t25 w fun t89 w =>
  iff' t89
  (bi .rem .i64 t10 (Value.int IntKind.i64 2) w fun t93 w =>
  ixS 1 t49 t15 w fun t96 w =>
  ld1 t96 w fun t97 w =>
  J1 (fun t16 w =>
  Cl prog 34 #[t29, t15] w fun t102 w =>
  bi .neq .i64 t102 t16 w fun t104 w =>
  iff' t104
  (K (Value.bool false) w)
  (bi .add .i64 t15 (Value.int IntKind.i64 1) w fun t91 w =>
  g3 [t91] w)) fun k4 =>
  iff' t97
  (bi .sub .i64 (Value.int IntKind.i64 1) t93 w fun t99 w =>
  k4 t99 w)
  (k4 t93 w))
  (bi .add .i64 t12 (Value.int IntKind.i64 1) w fun t55 w =>
  g2 [t55] w))))
  (lp [(Value.int IntKind.i64 0)] w (b1 fun t17 w g5 =>
  bi .lss .i64 t17 t25 w fun t107 w =>
  iff' t107
  (ixS 1 t49 t17 w fun t112 w =>
  ld1 t112 w fun t113 w =>
  bnot t113 w fun t114 w =>
  gd t114 true (fun k => k t29 w) w fun t116 w =>
  gd t114 true (fun k => k t17 w) w fun t117 w =>
  gd t114 true (fun k => Cl prog 33 #[t116, t117] w k) w fun t118 w =>
  gd t114 true (fun k => bi .neq .i64 t118 (Value.int IntKind.i64 0) w k) w fun t119 w =>
  pk t114 t119 (Value.bool false) w fun t120 w =>
  iff' t120
  (K (Value.bool false) w)
  (bi .add .i64 t17 (Value.int IntKind.i64 1) w fun t109 w =>
  g5 [t109] w))
  (lp [(Value.int IntKind.i64 0)] w (b1 fun t18 w g6 =>
  bi .lss .i64 t18 t25 w fun t123 w =>
  iff' t123
  (bi .add .i64 t10 (Value.int IntKind.i64 1) w fun t129 w =>
  bi .mul .i64 (Value.int IntKind.i64 5) t129 w fun t130 w =>
  Cl prog 35 #[t29, t18, t130] w fun t131 w =>
  bi .neq .i64 t131 (Value.int IntKind.i64 0) w fun t132 w =>
  gd t132 false (fun k => k t29 w) w fun t134 w =>
  gd t132 false (fun k => k t18 w) w fun t135 w =>
  gd t132 false (fun k => Cl prog 34 #[t134, t135] w k) w fun t136 w =>
  gd t132 false (fun k => k t10 w) w fun t137 w =>
  gd t132 false (fun k => bi .rem .i64 t137 (Value.int IntKind.i64 2) w k) w fun t138 w =>
  gd t132 false (fun k => bi .sub .i64 (Value.int IntKind.i64 1) t138 w k) w fun t139 w =>
  gd t132 false (fun k => bi .neq .i64 t136 t139 w k) w fun t140 w =>
  pk t132 (Value.bool true) t140 w fun t141 w =>
  iff' t141
  (K (Value.bool false) w)
  (bi .add .i64 t18 (Value.int IntKind.i64 1) w fun t125 w =>
  g6 [t125] w))
  (Cl prog 36 #[t29] w fun t143 w =>
  bi .add .i64 t10 (Value.int IntKind.i64 1) w fun t145 w =>
  bi .mul .i64 (Value.int IntKind.i64 5) t145 w fun t146 w =>
  bi .neq .i64 t143 t146 w fun t147 w =>
  gd t147 false (fun k => k t29 w) w fun t149 w =>
  gd t147 false (fun k => Cl prog 37 #[t149] w k) w fun t150 w =>
  pk t147 (Value.bool true) t150 w fun t151 w =>
  iff' t151
  (K (Value.bool false) w)
  (bi .add .i64 t10 (Value.int IntKind.i64 1) w fun t44 w =>
  g1 [t44] w)))))))))
  (K (Value.bool true) w))))
theorem pacelinelaw16_CutColours_eq (t0 t1 t2 : Value) (w : World) (K : KV) : pacelinelaw16_CutColours t0 t1 t2 w K = fnW prog 152 [6] (match fn9.body with | some c => c | none => .skip) #[t0, t1, t2] w K := by kernel_rfl
theorem pacelinelaw16_CutColours_ok : fnOk prog 152 [6] (match fn9.body with | some c => c | none => .skip) = true := by kernel_rfl
theorem pacelinelaw16_CutColours_calls {t0 t1 t2 : Value} {w : World} {K : KV} (h : pacelinelaw16_CutColours t0 t1 t2 w K) : Cl prog 9 #[t0, t1, t2] w K :=
  ⟨by kernel_rfl, calls_of_F (fn := fn9) (nt := 152) (rs := [6]) mixed fnAt9 (by kernel_rfl) (by kernel_rfl) (by kernel_rfl) (Nat.le_of_ble_eq_true (by kernel_rfl)) pacelinelaw16_CutColours_ok (pacelinelaw16_CutColours_eq t0 t1 t2 w K) h⟩

/-- paceline/pacelinelaw16.CutQuiet -/
def pacelinelaw16_CutQuiet (t0 t1 : Value) (w : World) (K : KV) : Prop :=
  lnS t0 w fun t17 w =>
  mnI .i64 t17 (Value.int IntKind.i64 8) w fun t18 w =>
  bi .lss .i64 t18 (Value.int IntKind.i64 1) w fun t20 w =>
  iff' t20
  (Cl prog 31 #[(Value.int IntKind.i64 0)] w fun t22 w =>
  xt 0 t22 w fun _ w =>
  xt 1 t22 w fun t24 w =>
  bi .eql .i64 t24 (Value.int IntKind.i64 1) w fun t26 w =>
  K t26 w)
  (Cl prog 31 #[t18] w fun t29 w =>
  xt 0 t29 w fun t30 w =>
  xt 1 t29 w fun t31 w =>
  bi .neq .i64 t31 (Value.int IntKind.i64 0) w fun t33 w =>
  gd t33 false (fun k => k t30 w) w fun t35 w =>
  gd t33 false (fun k => bn .eql t35 w k) w fun t36 w =>
  pk t33 (Value.bool true) t36 w fun t37 w =>
  iff' t37
  (K (Value.bool false) w)
  (lp [(Value.int IntKind.i64 0), (Value.int IntKind.i64 0)] w (b2 fun t10 t11 w g1 =>
  cvI .i64 t1 w fun t40 w =>
  bi .rem .i64 t40 (Value.int IntKind.i64 5) w fun t41 w =>
  bi .add .i64 (Value.int IntKind.i64 1) t41 w fun t42 w =>
  bi .lss .i64 t11 t42 w fun t43 w =>
  iff' t43
  (Cl prog 32 #[t30] w fun t47 w =>
  bi .neq .i64 t47 (Value.int IntKind.i64 0) w fun t48 w =>
  gd t48 false (fun k => k t30 w) w fun t50 w =>
  gd t48 false (fun k => Cl prog 32 #[t50] w k) w fun t51 w =>
  gd t48 false (fun k => bi .neq .i64 t51 (Value.int IntKind.i64 130) w k) w fun t52 w =>
  pk t48 (Value.bool true) t52 w fun t53 w =>
  iff' t53
  (K (Value.bool false) w)
  (lp [(Value.int IntKind.i64 0)] w (b1 fun t13 w g2 =>
  bi .lss .i64 t13 t18 w fun t56 w =>
  iff' t56
  (Cl prog 35 #[t30, t13, (Value.int IntKind.i64 0)] w fun t61 w =>
  bi .neq .i64 t61 (Value.int IntKind.i64 130) w fun t62 w =>
  gd t62 false (fun k => k t30 w) w fun t64 w =>
  gd t62 false (fun k => k t13 w) w fun t65 w =>
  gd t62 false (fun k => Cl prog 33 #[t64, t65] w k) w fun t66 w =>
  gd t62 false (fun k => bi .neq .i64 t66 (Value.int IntKind.i64 0) w k) w fun t67 w =>
  pk t62 (Value.bool true) t67 w fun t68 w =>
  gd t68 false (fun k => k t30 w) w fun t70 w =>
  gd t68 false (fun k => k t13 w) w fun t71 w =>
  gd t68 false (fun k => Cl prog 33 #[t70, t71] w k) w fun t72 w =>
  gd t68 false (fun k => bi .neq .i64 t72 (Value.int IntKind.i64 130) w k) w fun t73 w =>
  pk t68 (Value.bool true) t73 w fun t74 w =>
  iff' t74
  (K (Value.bool false) w)
  (bi .add .i64 t13 (Value.int IntKind.i64 1) w fun t58 w =>
  g2 [t58] w))
  (lp [(Value.int IntKind.i64 1125899906842624), (Value.int IntKind.i64 0)] w (b2 fun t12 t14 w g3 =>
  bi .lss .i64 t14 t18 w fun t77 w =>
  iff' t77
  (ixS 1 t0 t14 w fun t82 w =>
  ld1 t82 w fun t83 w =>
  cvI .i64 t83 w fun t84 w =>
  bi .add .i64 t11 (Value.int IntKind.i64 1) w fun t86 w =>
  bi .mul .i64 t84 t86 w fun t87 w =>
  mnI .i64 t12 t87 w fun t90 w =>
  Cl prog 37 #[t30] w fun t92 w =>
  bnot t92 w fun t93 w =>
  gd t93 false (fun k => k t30 w) w fun t95 w =>
  gd t93 false (fun k => k t14 w) w fun t96 w =>
  gd t93 false (fun k => k t87 w) w fun t97 w =>
  gd t93 false (fun k => Cl prog 35 #[t95, t96, t97] w k) w fun t98 w =>
  gd t93 false (fun k => bi .neq .i64 t98 (Value.int IntKind.i64 0) w k) w fun t99 w =>
  pk t93 (Value.bool true) t99 w fun t100 w =>
  iff' t100
  (K (Value.bool false) w)
  (bi .add .i64 t14 (Value.int IntKind.i64 1) w fun t79 w =>
  g3 [t90, t79] w))
  (mxI .i64 t10 t12 w fun t103 w =>
  Cl prog 37 #[t30] w fun t105 w =>
  gd t105 false (fun k => k t30 w) w fun t107 w =>
  gd t105 false (fun k => Cl prog 36 #[t107] w k) w fun t108 w =>
  gd t105 false (fun k => k t103 w) w fun t109 w =>
  gd t105 false (fun k => bi .neq .i64 t108 t109 w k) w fun t110 w =>
  pk t105 (Value.bool true) t110 w fun t111 w =>
  gd t111 false (fun k => k t30 w) w fun t113 w =>
  gd t111 false (fun k => Cl prog 38 #[t113] w k) w fun t114 w =>
  gd t111 false (fun k => k t11 w) w fun t115 w =>
  gd t111 false (fun k => bi .add .i64 t115 (Value.int IntKind.i64 1) w k) w fun t116 w =>
  gd t111 false (fun k => bi .neq .i64 t114 t116 w k) w fun t117 w =>
  pk t111 (Value.bool true) t117 w fun t118 w =>
  gd t118 false (fun k => k t30 w) w fun t120 w =>
  gd t118 false (fun k => Cl prog 34 #[t120, (Value.int IntKind.i64 0)] w k) w fun t121 w =>
  gd t118 false (fun k => k t11 w) w fun t122 w =>
  gd t118 false (fun k => bi .add .i64 t122 (Value.int IntKind.i64 1) w k) w fun t123 w =>
  gd t118 false (fun k => bi .rem .i64 t123 (Value.int IntKind.i64 2) w k) w fun t124 w =>
  gd t118 false (fun k => bi .neq .i64 t121 t124 w k) w fun t125 w =>
  pk t118 (Value.bool true) t125 w fun t126 w =>
  iff' t126
  (K (Value.bool false) w)
  (bi .add .i64 t11 (Value.int IntKind.i64 1) w fun t45 w =>
  g1 [t103, t45] w)))))))
  (K (Value.bool true) w))))
theorem pacelinelaw16_CutQuiet_eq (t0 t1 : Value) (w : World) (K : KV) : pacelinelaw16_CutQuiet t0 t1 w K = fnW prog 127 [4] (match fn10.body with | some c => c | none => .skip) #[t0, t1] w K := by kernel_rfl
theorem pacelinelaw16_CutQuiet_ok : fnOk prog 127 [4] (match fn10.body with | some c => c | none => .skip) = true := by kernel_rfl
theorem pacelinelaw16_CutQuiet_calls {t0 t1 : Value} {w : World} {K : KV} (h : pacelinelaw16_CutQuiet t0 t1 w K) : Cl prog 10 #[t0, t1] w K :=
  ⟨by kernel_rfl, calls_of_F (fn := fn10) (nt := 127) (rs := [4]) mixed fnAt10 (by kernel_rfl) (by kernel_rfl) (by kernel_rfl) (Nat.le_of_ble_eq_true (by kernel_rfl)) pacelinelaw16_CutQuiet_ok (pacelinelaw16_CutQuiet_eq t0 t1 w K) h⟩

/-- paceline/pacelinelaw11.ClockScript -/
def pacelinelaw11_ClockScript (t0 t1 t2 : Value) (w : World) (K : KV) : Prop :=
  lnS t2 w fun t18 w =>
  bi .gtr .i64 t18 (Value.int IntKind.i64 200) w fun t19 w =>
  iff' t19
  (K (Value.bool true) w)
  (Cl prog 20 #[t0, t1] w fun t23 w =>
  xt 0 t23 w fun t24 w =>
  xt 1 t23 w fun t25 w =>
  Cl prog 39 #[t0, t1] w fun t29 w =>
  xt 0 t29 w fun t30 w =>
  xt 1 t29 w fun t31 w =>
  bi .neq .i64 t25 t31 w fun t34 w =>
  gd t34 false (fun k => k t24 w) w fun t36 w =>
  gd t34 false (fun k => bn .eql t36 w k) w fun t37 w =>
  gd t34 false (fun k => k t30 w) w fun t38 w =>
  gd t34 false (fun k => bn .eql t38 w k) w fun t39 w =>
  gd t34 false (fun k => bb .neq t37 t39 w k) w fun t40 w =>
  pk t34 (Value.bool true) t40 w fun t41 w =>
  iff' t41
  (K (Value.bool false) w)
  (bn .eql t30 w fun t43 w =>
  iff' t43
  (bi .eql .i64 t25 (Value.int IntKind.i64 1) w fun t45 w =>
  K t45 w)
  (lp [(Value.int IntKind.i64 0)] w (b1 fun t11 w g1 =>
  lnS t2 w fun t48 w =>
  bi .lss .i64 t11 t48 w fun t49 w =>
  iff' t49
  (ixS 3 t2 t11 w fun t54 w =>
  ldN 3 t54 w fun t55 w =>
  al (zeroD prog 44) 44 w fun t12 w =>
  stN 3 t12 t55 w fun _ w =>
  fld 0 t12 w fun t56 w =>
  ld1 t56 w fun t57 w =>
  J0 (fun w =>
  dr w fun w =>
  fld 1 t12 w fun t102 _ =>
  ld1 t102 w fun t103 _ =>
  fld 1 t12 w fun t106 _ =>
  ld1 t106 w fun t107 _ =>
  Cl prog 22 #[t24, t103] w fun t104 w =>
  (ld1 t106 w (fun v' w'' => v' = t107 ∧ w'' = w)) ∧ (Cl prog 42 #[t30, t107] w fun t108 w =>
  bi .neq .i64 t104 t108 w fun t109 _ =>
  gd t109 false (fun k => k t24 w) w fun t111 _ =>
  gd t109 false (fun k => k t30 w) w fun t113 _ =>
  gd t109 false (fun k => Cl prog 23 #[t111] w k) w fun t112 w =>
  gd t109 false (fun k => Cl prog 43 #[t113] w k) w fun t114 w =>
  gd t109 false (fun k => bi .neq .i64 t112 t114 w k) w fun t115 _ =>
  pk t109 (Value.bool true) t115 w fun t116 _ =>
  gd t116 false (fun k => k t24 w) w fun t118 _ =>
  gd t116 false (fun k => k t30 w) w fun t120 _ =>
  gd t116 false (fun k => Cl prog 30 #[t118] w k) w fun t119 w =>
  gd t116 false (fun k => Cl prog 44 #[t120] w k) w fun t121 w =>
  gd t116 false (fun k => bi .neq .i64 t119 t121 w k) w fun t122 _ =>
  pk t116 (Value.bool true) t122 w fun t123 _ =>
  iff' t123
  (K (Value.bool false) w)
  (bi .add .i64 t11 (Value.int IntKind.i64 1) w fun t51 w =>
  g1 [t51] w))) fun k2 =>
  bi .eql .i64 t57 (Value.int IntKind.i64 0) w fun t59 w =>
  iff' t59
  (dr w fun w =>
  fld 1 t12 w fun t61 _ =>
  ld1 t61 w fun t62 _ =>
  fld 2 t12 w fun t63 _ =>
  ld1 t63 w fun t64 _ =>
  fld 1 t12 w fun t67 _ =>
  ld1 t67 w fun t68 _ =>
  fld 2 t12 w fun t69 _ =>
  ld1 t69 w fun t70 _ =>
  Cl prog 21 #[t24, t62, t64] w fun t65 w =>
  (ld1 t69 w (fun v' w'' => v' = t70 ∧ w'' = w)) ∧ ((ld1 t67 w (fun v' w'' => v' = t68 ∧ w'' = w)) ∧ (Cl prog 40 #[t30, t68, t70] w fun t71 w =>
  bi .neq .i64 t65 t71 w fun t72 _ =>
  iff' t72
  (K (Value.bool false) w)
  (k2 w))))
  (bi .eql .i64 t57 (Value.int IntKind.i64 1) w fun t74 w =>
  iff' t74
  (fld 1 t12 w fun t77 w =>
  ld1 t77 w fun t78 w =>
  fld 2 t12 w fun t79 w =>
  ld1 t79 w fun t80 w =>
  Cl prog 29 #[t24, t78, t80] w fun t81 w =>
  xt 0 t81 w fun t82 w =>
  xt 1 t81 w fun t83 w =>
  fld 1 t12 w fun t86 w =>
  ld1 t86 w fun t87 w =>
  fld 2 t12 w fun t88 w =>
  ld1 t88 w fun t89 w =>
  Cl prog 41 #[t30, t87, t89] w fun t90 w =>
  xt 0 t90 w fun t91 w =>
  xt 1 t90 w fun t92 w =>
  bi .neq .i64 t82 t91 w fun t95 w =>
  gd t95 false (fun k => k t83 w) w fun t97 w =>
  gd t95 false (fun k => k t92 w) w fun t98 w =>
  gd t95 false (fun k => bb .neq t97 t98 w k) w fun t99 w =>
  pk t95 (Value.bool true) t99 w fun t100 w =>
  iff' t100
  (K (Value.bool false) w)
  (k2 w))
  (k2 w)))
  (Cl prog 22 #[t24, t1] w fun t126 w =>
  bi .eql .i64 t126 (Value.int IntKind.i64 (-1)) w fun t127 w =>
  gd t127 true (fun k => k t24 w) w fun t129 w =>
  gd t127 true (fun k => Cl prog 22 #[t129, (Value.int IntKind.i64 (-1))] w k) w fun t130 w =>
  gd t127 true (fun k => bi .eql .i64 t130 (Value.int IntKind.i64 (-1)) w k) w fun t131 w =>
  pk t127 t131 (Value.bool false) w fun t132 w =>
  gd t132 true (fun k => k t24 w) w fun t134 w =>
  gd t132 true (fun k => k t0 w) w fun t135 w =>
  gd t132 true (fun k => Cl prog 22 #[t134, t135] w k) w fun t136 w =>
  gd t132 true (fun k => bi .eql .i64 t136 (Value.int IntKind.i64 (-1)) w k) w fun t137 w =>
  pk t132 t137 (Value.bool false) w fun t138 w =>
  gd t138 true (fun k => k t24 w) w fun t140 w =>
  gd t138 true (fun k => Cl prog 23 #[t140] w k) w fun t141 w =>
  gd t138 true (fun k => k t30 w) w fun t142 w =>
  gd t138 true (fun k => Cl prog 43 #[t142] w k) w fun t143 w =>
  gd t138 true (fun k => bi .eql .i64 t141 t143 w k) w fun t144 w =>
  pk t138 t144 (Value.bool false) w fun t145 w =>
  K t145 w)))))
theorem pacelinelaw11_ClockScript_eq (t0 t1 t2 : Value) (w : World) (K : KV) : pacelinelaw11_ClockScript t0 t1 t2 w K = fnW prog 146 [6] (match fn11.body with | some c => c | none => .skip) #[t0, t1, t2] w K := by kernel_rfl
theorem pacelinelaw11_ClockScript_ok : fnOk prog 146 [6] (match fn11.body with | some c => c | none => .skip) = true := by kernel_rfl
theorem pacelinelaw11_ClockScript_calls {t0 t1 t2 : Value} {w : World} {K : KV} (h : pacelinelaw11_ClockScript t0 t1 t2 w K) : Cl prog 11 #[t0, t1, t2] w K :=
  ⟨by kernel_rfl, calls_of_F (fn := fn11) (nt := 146) (rs := [6]) mixed fnAt11 (by kernel_rfl) (by kernel_rfl) (by kernel_rfl) (Nat.le_of_ble_eq_true (by kernel_rfl)) pacelinelaw11_ClockScript_ok (pacelinelaw11_ClockScript_eq t0 t1 t2 w K) h⟩

/-- paceline/pacelinelaw11.ClockRises -/
def pacelinelaw11_ClockRises (t0 : Value) (w : World) (K : KV) : Prop :=
  lnS t0 w fun t13 w =>
  bi .gtr .i64 t13 (Value.int IntKind.i64 200) w fun t14 w =>
  iff' t14
  (K (Value.bool true) w)
  (Cl prog 20 #[(Value.int IntKind.i64 4), (Value.int IntKind.i64 1)] w fun t16 w =>
  xt 0 t16 w fun t17 w =>
  xt 1 t16 w fun t18 w =>
  bi .neq .i64 t18 (Value.int IntKind.i64 0) w fun t20 w =>
  gd t20 false (fun k => k t17 w) w fun t22 w =>
  gd t20 false (fun k => bn .eql t22 w k) w fun t23 w =>
  pk t20 (Value.bool true) t23 w fun t24 w =>
  gd t24 false (fun k => k t17 w) w fun t26 w =>
  gd t24 false (fun k => Cl prog 23 #[t26] w k) w fun t27 w =>
  gd t24 false (fun k => bi .neq .i64 t27 (Value.int IntKind.i64 0) w k) w fun t28 w =>
  pk t24 (Value.bool true) t28 w fun t29 w =>
  gd t29 false (fun k => k t17 w) w fun t31 w =>
  gd t29 false (fun k => Cl prog 30 #[t31] w k) w fun t32 w =>
  gd t29 false (fun k => bi .neq .i64 t32 (Value.int IntKind.i64 0) w k) w fun t33 w =>
  pk t29 (Value.bool true) t33 w fun t34 w =>
  iff' t34
  (K (Value.bool false) w)
  (lp [(Value.int IntKind.i64 0)] w (b1 fun t5 w g1 =>
  lnS t0 w fun t37 w =>
  bi .lss .i64 t5 t37 w fun t38 w =>
  iff' t38
  (Cl prog 23 #[t17] w fun t42 w =>
  Cl prog 30 #[t17] w fun t44 w =>
  ixS 3 t0 t5 w fun t47 w =>
  fld 0 t47 w fun t48 w =>
  ld1 t48 w fun t49 w =>
  bi .eql .i64 t49 (Value.int IntKind.i64 0) w fun t50 w =>
  J0 (fun w =>
  Cl prog 23 #[t17] w fun t129 w =>
  bi .lss .i64 t129 t42 w fun t131 w =>
  gd t131 false (fun k => k t17 w) w fun t133 w =>
  gd t131 false (fun k => Cl prog 30 #[t133] w k) w fun t134 w =>
  gd t131 false (fun k => k t44 w) w fun t135 w =>
  gd t131 false (fun k => bi .lss .i64 t134 t135 w k) w fun t136 w =>
  pk t131 (Value.bool true) t136 w fun t137 w =>
  iff' t137
  (K (Value.bool false) w)
  (bi .add .i64 t5 (Value.int IntKind.i64 1) w fun t40 w =>
  g1 [t40] w)) fun k2 =>
  iff' t50
  (ixS 3 t0 t5 w fun t54 w =>
  fld 1 t54 w fun t55 w =>
  ld1 t55 w fun t56 w =>
  Cl prog 22 #[t17, t56] w fun t57 w =>
  dr w fun w =>
  ixS 3 t0 t5 w fun t61 _ =>
  fld 1 t61 w fun t62 _ =>
  ld1 t62 w fun t63 _ =>
  ixS 3 t0 t5 w fun t66 _ =>
  fld 2 t66 w fun t67 _ =>
  ld1 t67 w fun t68 _ =>
  Cl prog 21 #[t17, t63, t68] w fun t69 w =>
  dr w fun w =>
  bi .eql .i64 t69 (Value.int IntKind.i64 0) w fun t71 _ =>
  gd t71 true (fun k => k t17 w) w fun t73 _ =>
  gd t71 true (fun k => k t0 w) w fun t74 _ =>
  gd t71 true (fun k => k t5 w) w fun t75 _ =>
  gd t71 true (fun k => ixS 3 t74 t75 w k) w fun t76 _ =>
  gd t71 true (fun k => fld 1 t76 w k) w fun t77 _ =>
  gd t71 true (fun k => ld1 t77 w k) w fun t78 _ =>
  gd t71 true (fun k => k t0 w) w fun t80 _ =>
  gd t71 true (fun k => k t5 w) w fun t81 _ =>
  gd t71 true (fun k => ixS 3 t80 t81 w k) w fun t82 _ =>
  gd t71 true (fun k => fld 2 t82 w k) w fun t83 _ =>
  gd t71 true (fun k => ld1 t83 w k) w fun t84 _ =>
  gd t71 true (fun k => Cl prog 22 #[t73, t78] w k) w fun t79 w =>
  (gd t71 true (fun k => ld1 t83 w k) w (fun v' w'' => v' = t84 ∧ w'' = w)) ∧ (gd t71 true (fun k => bi .neq .i64 t79 t84 w k) w fun t85 _ =>
  pk t71 t85 (Value.bool false) w fun t86 _ =>
  gd t86 false (fun k => k t69 w) w fun t88 _ =>
  gd t86 false (fun k => bi .neq .i64 t88 (Value.int IntKind.i64 0) w k) w fun t89 _ =>
  gd t86 false (fun k => k t89 w) w fun t90 _ =>
  gd t90 true (fun k => k t17 w) w fun t91 _ =>
  gd t90 true (fun k => k t0 w) w fun t92 _ =>
  gd t90 true (fun k => k t5 w) w fun t93 _ =>
  gd t90 true (fun k => ixS 3 t92 t93 w k) w fun t94 _ =>
  gd t90 true (fun k => fld 1 t94 w k) w fun t95 _ =>
  gd t90 true (fun k => ld1 t95 w k) w fun t96 _ =>
  gd t90 true (fun k => k t57 w) w fun t98 _ =>
  gd t90 true (fun k => Cl prog 22 #[t91, t96] w k) w fun t97 w =>
  gd t90 true (fun k => bi .neq .i64 t97 t98 w k) w fun t99 _ =>
  gd t86 false (fun k => pk t90 t99 (Value.bool false) w k) w fun t100 _ =>
  pk t86 (Value.bool true) t100 w fun t101 _ =>
  iff' t101
  (K (Value.bool false) w)
  (k2 w)))
  (dr w fun w =>
  ixS 3 t0 t5 w fun t106 _ =>
  fld 1 t106 w fun t107 _ =>
  ld1 t107 w fun t108 _ =>
  ixS 3 t0 t5 w fun t111 _ =>
  fld 2 t111 w fun t112 _ =>
  ld1 t112 w fun t113 _ =>
  Cl prog 29 #[t17, t108, t113] w fun t114 w =>
  xt 0 t114 w fun t115 _ =>
  xt 1 t114 w fun t116 _ =>
  bi .gtr .i64 t115 t44 w fun t120 w =>
  bb .neq t116 t120 w fun t121 w =>
  gd t121 false (fun k => k t115 w) w fun t123 w =>
  gd t121 false (fun k => k t17 w) w fun t124 w =>
  gd t121 false (fun k => Cl prog 30 #[t124] w k) w fun t125 w =>
  gd t121 false (fun k => bi .neq .i64 t123 t125 w k) w fun t126 w =>
  pk t121 (Value.bool true) t126 w fun t127 w =>
  iff' t127
  (K (Value.bool false) w)
  (k2 w)))
  (K (Value.bool true) w))))
theorem pacelinelaw11_ClockRises_eq (t0 : Value) (w : World) (K : KV) : pacelinelaw11_ClockRises t0 w K = fnW prog 138 [2] (match fn12.body with | some c => c | none => .skip) #[t0] w K := by kernel_rfl
theorem pacelinelaw11_ClockRises_ok : fnOk prog 138 [2] (match fn12.body with | some c => c | none => .skip) = true := by kernel_rfl
theorem pacelinelaw11_ClockRises_calls {t0 : Value} {w : World} {K : KV} (h : pacelinelaw11_ClockRises t0 w K) : Cl prog 12 #[t0] w K :=
  ⟨by kernel_rfl, calls_of_F (fn := fn12) (nt := 138) (rs := [2]) mixed fnAt12 (by kernel_rfl) (by kernel_rfl) (by kernel_rfl) (Nat.le_of_ble_eq_true (by kernel_rfl)) pacelinelaw11_ClockRises_ok (pacelinelaw11_ClockRises_eq t0 w K) h⟩

/-- paceline/pacelinelaw14.GateDrops -/
def pacelinelaw14_GateDrops (t0 t1 : Value) (w : World) (K : KV) : Prop :=
  lnS t0 w fun t13 w =>
  bi .gtr .i64 t13 (Value.int IntKind.i64 200) w fun t14 w =>
  iff' t14
  (K (Value.bool true) w)
  (Cl prog 15 #[] w fun t15 w =>
  lp [(Value.int IntKind.i64 0), (Value.int IntKind.i64 0)] w (b2 fun t6 t7 w g1 =>
  lnS t0 w fun t18 w =>
  bi .lss .i64 t7 t18 w fun t19 w =>
  iff' t19
  (J1 (fun t6_1 w =>
  bi .add .i64 t7 (Value.int IntKind.i64 1) w fun t21 w =>
  g1 [t6_1, t21] w) fun k2 =>
  ixS 1 t0 t7 w fun t25 w =>
  ld1 t25 w fun t26 w =>
  cvI .i64 t26 w fun t27 w =>
  bld (zeroD prog 24) #[(0, 1), (1, 1), (2, 1)] [(0, t27)] w fun t28 w =>
  bld (zeroD prog 28) #[(0, 3), (3, 1), (4, 1), (5, 1)] [(3, t7)] w fun t30 w =>
  Cl prog 16 #[t15, t28, t30] w fun t31 w =>
  bi .neq .i64 t31 (Value.int IntKind.i64 0) w fun t32 w =>
  iff' t32
  (K (Value.bool false) w)
  (ixS 1 t0 t7 w fun t35 w =>
  ld1 t35 w fun t36 w =>
  bi .lss .u8 t36 t1 w fun t38 w =>
  iff' t38
  (bi .add .i64 t6 (Value.int IntKind.i64 1) w fun t40 w =>
  k2 t40 w)
  (k2 t6 w)))
  (cvI .i64 t1 w fun t43 w =>
  bld (zeroD prog 24) #[(0, 1), (1, 1), (2, 1)] [(0, t43)] w fun t44 w =>
  Cl prog 45 #[t15, t44] w fun t45 w =>
  cvI .i64 t1 w fun t48 w =>
  bld (zeroD prog 24) #[(0, 1), (1, 1), (2, 1)] [(0, t48)] w fun t49 w =>
  Cl prog 45 #[t15, t49] w fun t50 w =>
  Cl prog 17 #[t15] w fun t52 w =>
  lp [(Value.int IntKind.i64 0)] w (b1 fun t11 w g3 =>
  lnS t52 w fun t55 w =>
  bi .lss .i64 t11 t55 w fun t56 w =>
  iff' t56
  (ixS 6 t52 t11 w fun t62 w =>
  fld 5 t62 w fun t63 w =>
  ld1 t63 w fun t64 w =>
  ixS 1 t0 t64 w fun t65 w =>
  ld1 t65 w fun t66 w =>
  bi .geq .u8 t66 t1 w fun t68 w =>
  iff' t68
  (K (Value.bool false) w)
  (bi .add .i64 t11 (Value.int IntKind.i64 1) w fun t58 w =>
  g3 [t58] w))
  (lnS t45 w fun t70 w =>
  lnS t0 w fun t72 w =>
  bi .sub .i64 t72 t6 w fun t74 w =>
  bi .eql .i64 t70 t74 w fun t75 w =>
  gd t75 true (fun k => k t50 w) w fun t77 w =>
  gd t75 true (fun k => lnS t77 w k) w fun t78 w =>
  gd t75 true (fun k => bi .eql .i64 t78 (Value.int IntKind.i64 0) w k) w fun t79 w =>
  pk t75 t79 (Value.bool false) w fun t80 w =>
  gd t80 true (fun k => k t52 w) w fun t82 w =>
  gd t80 true (fun k => lnS t82 w k) w fun t83 w =>
  gd t80 true (fun k => k t6 w) w fun t84 w =>
  gd t80 true (fun k => bi .eql .i64 t83 t84 w k) w fun t85 w =>
  pk t80 t85 (Value.bool false) w fun t86 w =>
  gd t86 true (fun k => k t15 w) w fun t88 w =>
  gd t86 true (fun k => bld (zeroD prog 24) #[(0, 1), (1, 1), (2, 1)] [(0, (Value.int IntKind.i64 (-1)))] w k) w fun t89 w =>
  gd t86 true (fun k => bld (zeroD prog 28) #[(0, 3), (3, 1), (4, 1), (5, 1)] [] w k) w fun t90 w =>
  gd t86 true (fun k => Cl prog 16 #[t88, t89, t90] w k) w fun t91 w =>
  gd t86 true (fun k => bi .eql .i64 t91 (Value.int IntKind.i64 110) w k) w fun t92 w =>
  pk t86 t92 (Value.bool false) w fun t93 w =>
  K t93 w)))))
theorem pacelinelaw14_GateDrops_eq (t0 t1 : Value) (w : World) (K : KV) : pacelinelaw14_GateDrops t0 t1 w K = fnW prog 94 [4] (match fn13.body with | some c => c | none => .skip) #[t0, t1] w K := by kernel_rfl
theorem pacelinelaw14_GateDrops_ok : fnOk prog 94 [4] (match fn13.body with | some c => c | none => .skip) = true := by kernel_rfl
theorem pacelinelaw14_GateDrops_calls {t0 t1 : Value} {w : World} {K : KV} (h : pacelinelaw14_GateDrops t0 t1 w K) : Cl prog 13 #[t0, t1] w K :=
  ⟨by kernel_rfl, calls_of_F (fn := fn13) (nt := 94) (rs := [4]) mixed fnAt13 (by kernel_rfl) (by kernel_rfl) (by kernel_rfl) (Nat.le_of_ble_eq_true (by kernel_rfl)) pacelinelaw14_GateDrops_ok (pacelinelaw14_GateDrops_eq t0 t1 w K) h⟩

/-- paceline/pacelinelaw03.PrioTwice -/
def pacelinelaw03_PrioTwice (t0 t1 : Value) (w : World) (K : KV) : Prop :=
  lnS t0 w fun t13 w =>
  bi .gtr .i64 t13 (Value.int IntKind.i64 200) w fun t14 w =>
  iff' t14
  (K (Value.bool true) w)
  (cvI .i64 t1 w fun t16 w =>
  bi .rem .i64 t16 (Value.int IntKind.i64 65) w fun t17 w =>
  Cl prog 46 #[t17] w fun t19 w =>
  lp [(Value.int IntKind.i64 0)] w (b1 fun t7 w g1 =>
  lnS t0 w fun t22 w =>
  bi .lss .i64 t7 t22 w fun t23 w =>
  iff' t23
  (ixS 6 t0 t7 w fun t29 w =>
  ldN 6 t29 w fun t30 w =>
  Cl prog 47 #[t19, t30] w fun t31 w =>
  ixS 6 t0 t7 w fun t35 w =>
  ldN 6 t35 w fun t36 w =>
  Cl prog 47 #[t19, t36] w fun t37 w =>
  bi .eql .i64 t31 (Value.int IntKind.i64 0) w fun t39 w =>
  gd t39 true (fun k => k t37 w) w fun t41 w =>
  gd t39 true (fun k => bi .neq .i64 t41 (Value.int IntKind.i64 3) w k) w fun t42 w =>
  pk t39 t42 (Value.bool false) w fun t43 w =>
  gd t43 false (fun k => k t37 w) w fun t45 w =>
  gd t43 false (fun k => bi .eql .i64 t45 (Value.int IntKind.i64 0) w k) w fun t46 w =>
  pk t43 (Value.bool true) t46 w fun t47 w =>
  gd t47 false (fun k => k t19 w) w fun t49 w =>
  gd t47 false (fun k => Cl prog 48 #[t49] w k) w fun t50 w =>
  gd t47 false (fun k => k t17 w) w fun t51 w =>
  gd t47 false (fun k => bi .gtr .i64 t50 t51 w k) w fun t52 w =>
  pk t47 (Value.bool true) t52 w fun t53 w =>
  iff' t53
  (K (Value.bool false) w)
  (Cl prog 49 #[t19] w fun t56 w =>
  xt 0 t56 w fun t57 w =>
  xt 1 t56 w fun t58 w =>
  al (zeroD prog 28) 28 w fun t10 w =>
  stN 6 t10 t57 w fun _ w =>
  Cl prog 48 #[t19] w fun t61 w =>
  bi .gtr .i64 t61 (Value.int IntKind.i64 0) w fun t62 w =>
  bb .neq t58 t62 w fun t63 w =>
  iff' t63
  (K (Value.bool false) w)
  (bi .add .i64 t7 (Value.int IntKind.i64 1) w fun t25 w =>
  g1 [t25] w)))
  (Cl prog 46 #[(Value.int IntKind.i64 1)] w fun t64 w =>
  bld (zeroD prog 28) #[(0, 3), (3, 1), (4, 1), (5, 1)] [] w fun t65 w =>
  Cl prog 47 #[t64, t65] w fun t66 w =>
  bi .eql .i64 t66 (Value.int IntKind.i64 0) w fun t67 w =>
  gd t67 true (fun k => Cl prog 46 #[(Value.int IntKind.i64 0)] w k) w fun t69 w =>
  gd t67 true (fun k => bld (zeroD prog 28) #[(0, 3), (3, 1), (4, 1), (5, 1)] [] w k) w fun t70 w =>
  gd t67 true (fun k => Cl prog 47 #[t69, t70] w k) w fun t71 w =>
  gd t67 true (fun k => bi .eql .i64 t71 (Value.int IntKind.i64 2) w k) w fun t72 w =>
  pk t67 t72 (Value.bool false) w fun t73 w =>
  K t73 w)))
theorem pacelinelaw03_PrioTwice_eq (t0 t1 : Value) (w : World) (K : KV) : pacelinelaw03_PrioTwice t0 t1 w K = fnW prog 74 [4] (match fn14.body with | some c => c | none => .skip) #[t0, t1] w K := by kernel_rfl
theorem pacelinelaw03_PrioTwice_ok : fnOk prog 74 [4] (match fn14.body with | some c => c | none => .skip) = true := by kernel_rfl
theorem pacelinelaw03_PrioTwice_calls {t0 t1 : Value} {w : World} {K : KV} (h : pacelinelaw03_PrioTwice t0 t1 w K) : Cl prog 14 #[t0, t1] w K :=
  ⟨by kernel_rfl, calls_of_F (fn := fn14) (nt := 74) (rs := [4]) mixed fnAt14 (by kernel_rfl) (by kernel_rfl) (by kernel_rfl) (Nat.le_of_ble_eq_true (by kernel_rfl)) pacelinelaw03_PrioTwice_ok (pacelinelaw03_PrioTwice_eq t0 t1 w K) h⟩

end Go.Proofs.Ytiiekfcfledkhaa
