/- Printed by prt.py: the Go functions of this seat as shallow predicate transformers. Conditions: none. -/
import Derived.Test.YtiiekfcfledkhaaEngO
import Derived.Test.YtiiekfcfledkhaaPfHead
import Derived.KernelRfl
namespace Go.Proofs.Ytiiekfcfledkhaa
open Go Go.E
/-- paceline/pacelinelaw14.GateRetracts -/
def pacelinelaw14_GateRetracts (t0 t1 : Value) (w : World) (K : KV) : Prop :=
  al (Value.cells t1) 24 w fun t3 w =>
  lnS t0 w fun t15 w =>
  bi .gtr .i64 t15 (Value.int IntKind.i64 200) w fun t16 w =>
  iff' t16
  (K (Value.bool true) w)
  (Cl prog 15 #[] w fun t17 w =>
  lp [(Value.int IntKind.i64 0)] w (b1 fun t6 w g1 =>
  lnS t0 w fun t20 w =>
  bi .lss .i64 t6 t20 w fun t21 w =>
  iff' t21
  (J0 (fun w =>
  bi .add .i64 t6 (Value.int IntKind.i64 1) w fun t23 w =>
  g1 [t23] w) fun k2 =>
  ixS 10 t0 t6 w fun t26 w =>
  fld 0 t26 w fun t27 w =>
  ld1 t27 w fun t28 w =>
  bi .eql .i64 t28 (Value.int IntKind.i64 0) w fun t29 w =>
  iff' t29
  (dr w fun w =>
  ixS 10 t0 t6 w fun t33 _ =>
  fld 1 t33 w fun t34 _ =>
  ldN 3 t34 w fun t35 _ =>
  ixS 10 t0 t6 w fun t38 _ =>
  fld 4 t38 w fun t39 _ =>
  ldN 6 t39 w fun t40 _ =>
  Cl prog 16 #[t17, t35, t40] w fun _ w =>
  k2 w)
  (k2 w))
  (Cl prog 17 #[t17] w fun t43 w =>
  ldN 3 t3 w fun t46 w =>
  Cl prog 18 #[t17, t46] w fun t47 w =>
  xt 0 t47 w fun t48 w =>
  xt 1 t47 w fun t49 w =>
  ldN 3 t3 w fun t52 w =>
  Cl prog 18 #[t17, t52] w fun t53 w =>
  xt 0 t53 w fun t54 w =>
  xt 1 t53 w fun t55 w =>
  bsl 28 6 0 #[] [] w fun t56 w =>
  lp [t56, (Value.int IntKind.i64 0)] w (b2 fun t12 t13 w g3 =>
  lnS t43 w fun t59 w =>
  bi .lss .i64 t13 t59 w fun t60 w =>
  iff' t60
  (J1 (fun t12_1 w =>
  bi .add .i64 t13 (Value.int IntKind.i64 1) w fun t62 w =>
  g3 [t12_1, t62] w) fun k4 =>
  dr w fun w =>
  ixS 6 t43 t13 w fun t65 _ =>
  fld 0 t65 w fun t66 _ =>
  ldN 3 t66 w fun t67 _ =>
  ldN 3 t3 w fun t68 _ =>
  bO prog .neq 24 (Operand.tmp 67) (Operand.tmp 68) t67 t68 w fun t69 w =>
  iff' t69
  (ixS 6 t43 t13 w fun t73 w =>
  ldN 6 t73 w fun t74 w =>
  bsl 28 6 1 (zeroD prog 28) [(0, t74)] w fun t75 w =>
  apS prog #[33, 33] 33 t12 t75 w fun t76 w =>
  k4 t76 w)
  (k4 t12 w))
  (lnS t43 w fun t79 w =>
  lnS t12 w fun t81 w =>
  bi .sub .i64 t79 t81 w fun t82 w =>
  bi .eql .i64 t48 t82 w fun t83 w =>
  gd t83 true (fun k => k t49 w) w fun t85 w =>
  gd t83 true (fun k => bi .eql .i64 t85 (Value.int IntKind.i64 0) w k) w fun t86 w =>
  gd t83 true (fun k => k t48 w) w fun t87 w =>
  gd t83 true (fun k => bi .gtr .i64 t87 (Value.int IntKind.i64 0) w k) w fun t88 w =>
  gd t83 true (fun k => bb .eql t86 t88 w k) w fun t89 w =>
  pk t83 t89 (Value.bool false) w fun t90 w =>
  gd t90 true (fun k => k t48 w) w fun t92 w =>
  gd t90 true (fun k => bi .gtr .i64 t92 (Value.int IntKind.i64 0) w k) w fun t93 w =>
  gd t90 true (fun k => k t93 w) w fun t94 w =>
  gd t94 false (fun k => k t49 w) w fun t95 w =>
  gd t94 false (fun k => bi .eql .i64 t95 (Value.int IntKind.i64 209) w k) w fun t96 w =>
  gd t90 true (fun k => pk t94 (Value.bool true) t96 w k) w fun t97 w =>
  pk t90 t97 (Value.bool false) w fun t98 w =>
  gd t98 true (fun k => k t54 w) w fun t100 w =>
  gd t98 true (fun k => bi .eql .i64 t100 (Value.int IntKind.i64 0) w k) w fun t101 w =>
  pk t98 t101 (Value.bool false) w fun t102 w =>
  gd t102 true (fun k => k t55 w) w fun t104 w =>
  gd t102 true (fun k => bi .eql .i64 t104 (Value.int IntKind.i64 209) w k) w fun t105 w =>
  pk t102 t105 (Value.bool false) w fun t106 w =>
  gd t106 true (fun k => k t17 w) w fun t108 w =>
  gd t106 true (fun k => Cl prog 17 #[t108] w k) w fun t109 w =>
  gd t106 true (fun k => k t12 w) w fun t110 w =>
  gd t106 true (fun k => Cl prog 19 #[t109, t110] w k) w fun t111 w =>
  pk t106 t111 (Value.bool false) w fun t112 w =>
  K t112 w)))))
theorem pacelinelaw14_GateRetracts_eq (t0 t1 : Value) (w : World) (K : KV) : pacelinelaw14_GateRetracts t0 t1 w K = fnW prog 113 [4] (match fn3.body with | some c => c | none => .skip) #[t0, t1] w K := by kernel_rfl
theorem pacelinelaw14_GateRetracts_ok : fnOk prog 113 [4] (match fn3.body with | some c => c | none => .skip) = true := by kernel_rfl
theorem pacelinelaw14_GateRetracts_calls {t0 t1 : Value} {w : World} {K : KV} (h : pacelinelaw14_GateRetracts t0 t1 w K) : Cl prog 3 #[t0, t1] w K :=
  ⟨by kernel_rfl, calls_of_F (fn := fn3) (nt := 113) (rs := [4]) mixed fnAt3 (by kernel_rfl) (by kernel_rfl) (by kernel_rfl) (Nat.le_of_ble_eq_true (by kernel_rfl)) pacelinelaw14_GateRetracts_ok (pacelinelaw14_GateRetracts_eq t0 t1 w K) h⟩

/-- paceline/pacelinelaw11.ClockLeast -/
def pacelinelaw11_ClockLeast (t0 t1 t2 : Value) (w : World) (K : KV) : Prop :=
  lnS t2 w fun t15 w =>
  bi .gtr .i64 t15 (Value.int IntKind.i64 200) w fun t16 w =>
  iff' t16
  (K (Value.bool true) w)
  (cvI .i64 t0 w fun t18 w =>
  bi .rem .i64 t18 (Value.int IntKind.i64 7) w fun t19 w =>
  bi .add .i64 (Value.int IntKind.i64 2) t19 w fun t20 w =>
  cvI .i64 t1 w fun t22 w =>
  bi .rem .i64 t22 t20 w fun t24 w =>
  Cl prog 20 #[t20, t24] w fun t28 w =>
  xt 0 t28 w fun t29 w =>
  xt 1 t28 w fun t30 w =>
  bi .neq .i64 t30 (Value.int IntKind.i64 0) w fun t32 w =>
  gd t32 false (fun k => k t29 w) w fun t34 w =>
  gd t32 false (fun k => bn .eql t34 w k) w fun t35 w =>
  pk t32 (Value.bool true) t35 w fun t36 w =>
  iff' t36
  (K (Value.bool false) w)
  (lp [(Value.int IntKind.i64 0)] w (b1 fun t11 w g1 =>
  lnS t2 w fun t39 w =>
  bi .lss .i64 t11 t39 w fun t40 w =>
  iff' t40
  (J0 (fun w =>
  bi .add .i64 t11 (Value.int IntKind.i64 1) w fun t42 w =>
  g1 [t42] w) fun k2 =>
  ixS 3 t2 t11 w fun t45 w =>
  fld 0 t45 w fun t46 w =>
  ld1 t46 w fun t47 w =>
  bi .eql .i64 t47 (Value.int IntKind.i64 0) w fun t48 w =>
  iff' t48
  (dr w fun w =>
  ixS 3 t2 t11 w fun t52 _ =>
  fld 1 t52 w fun t53 _ =>
  ld1 t53 w fun t54 _ =>
  ixS 3 t2 t11 w fun t57 _ =>
  fld 2 t57 w fun t58 _ =>
  ld1 t58 w fun t59 _ =>
  Cl prog 21 #[t29, t54, t59] w fun _ w =>
  k2 w)
  (k2 w))
  (lp [(Value.bool false), (Value.int IntKind.i64 0)] w (b2 fun t12 t13 w g3 =>
  bi .lss .i64 t13 t20 w fun t63 w =>
  iff' t63
  (bi .neq .i64 t13 t24 w fun t68 w =>
  gd t68 true (fun k => k t29 w) w fun t70 w =>
  gd t68 true (fun k => k t13 w) w fun t71 w =>
  gd t68 true (fun k => Cl prog 22 #[t70, t71] w k) w fun t72 w =>
  gd t68 true (fun k => k t29 w) w fun t73 w =>
  gd t68 true (fun k => Cl prog 23 #[t73] w k) w fun t74 w =>
  gd t68 true (fun k => bi .lss .i64 t72 t74 w k) w fun t75 w =>
  pk t68 t75 (Value.bool false) w fun t76 w =>
  iff' t76
  (K (Value.bool false) w)
  (gd t12 false (fun k => k t13 w) w fun t79 w =>
  gd t12 false (fun k => k t24 w) w fun t80 w =>
  gd t12 false (fun k => bi .neq .i64 t79 t80 w k) w fun t81 w =>
  gd t12 false (fun k => k t81 w) w fun t82 w =>
  gd t82 true (fun k => k t29 w) w fun t83 w =>
  gd t82 true (fun k => k t13 w) w fun t84 w =>
  gd t82 true (fun k => Cl prog 22 #[t83, t84] w k) w fun t85 w =>
  gd t82 true (fun k => k t29 w) w fun t86 w =>
  gd t82 true (fun k => Cl prog 23 #[t86] w k) w fun t87 w =>
  gd t82 true (fun k => bi .eql .i64 t85 t87 w k) w fun t88 w =>
  gd t12 false (fun k => pk t82 t88 (Value.bool false) w k) w fun t89 w =>
  pk t12 (Value.bool true) t89 w fun t90 w =>
  bi .add .i64 t13 (Value.int IntKind.i64 1) w fun t65 w =>
  g3 [t90, t65] w))
  (gd t12 true (fun k => k t29 w) w fun t93 w =>
  gd t12 true (fun k => k t24 w) w fun t94 w =>
  gd t12 true (fun k => Cl prog 21 #[t93, t94, (Value.int IntKind.i64 5)] w k) w fun t95 w =>
  gd t12 true (fun k => bi .eql .i64 t95 (Value.int IntKind.i64 1) w k) w fun t96 w =>
  pk t12 t96 (Value.bool false) w fun t97 w =>
  gd t97 true (fun k => k t29 w) w fun t99 w =>
  gd t97 true (fun k => k t24 w) w fun t100 w =>
  gd t97 true (fun k => Cl prog 22 #[t99, t100] w k) w fun t101 w =>
  gd t97 true (fun k => bi .eql .i64 t101 (Value.int IntKind.i64 (-1)) w k) w fun t102 w =>
  pk t97 t102 (Value.bool false) w fun t103 w =>
  K t103 w))))))
theorem pacelinelaw11_ClockLeast_eq (t0 t1 t2 : Value) (w : World) (K : KV) : pacelinelaw11_ClockLeast t0 t1 t2 w K = fnW prog 104 [6] (match fn4.body with | some c => c | none => .skip) #[t0, t1, t2] w K := by kernel_rfl
theorem pacelinelaw11_ClockLeast_ok : fnOk prog 104 [6] (match fn4.body with | some c => c | none => .skip) = true := by kernel_rfl
theorem pacelinelaw11_ClockLeast_calls {t0 t1 t2 : Value} {w : World} {K : KV} (h : pacelinelaw11_ClockLeast t0 t1 t2 w K) : Cl prog 4 #[t0, t1, t2] w K :=
  ⟨by kernel_rfl, calls_of_F (fn := fn4) (nt := 104) (rs := [6]) mixed fnAt4 (by kernel_rfl) (by kernel_rfl) (by kernel_rfl) (Nat.le_of_ble_eq_true (by kernel_rfl)) pacelinelaw11_ClockLeast_ok (pacelinelaw11_ClockLeast_eq t0 t1 t2 w K) h⟩

/-- paceline/pacelinelaw10.LinkOrder -/
def pacelinelaw10_LinkOrder (t0 t1 t2 : Value) (w : World) (K : KV) : Prop :=
  lnS t0 w fun t21 w =>
  bi .gtr .i64 t21 (Value.int IntKind.i64 200) w fun t22 w =>
  iff' t22
  (K (Value.bool true) w)
  (Cl prog 24 #[(Value.int IntKind.i64 8), (Value.int IntKind.i64 16)] w fun t24 w =>
  xt 0 t24 w fun t25 w =>
  xt 1 t24 w fun t26 w =>
  bi .neq .i64 t26 (Value.int IntKind.i64 0) w fun t28 w =>
  gd t28 false (fun k => k t25 w) w fun t30 w =>
  gd t28 false (fun k => bn .eql t30 w k) w fun t31 w =>
  pk t28 (Value.bool true) t31 w fun t32 w =>
  iff' t32
  (K (Value.bool false) w)
  (cvI .i64 t1 w fun t34 w =>
  bi .rem .i64 t34 (Value.int IntKind.i64 8) w fun t35 w =>
  bi .add .i64 t35 (Value.int IntKind.i64 1) w fun t37 w =>
  cvI .i64 t2 w fun t39 w =>
  bi .rem .i64 t39 (Value.int IntKind.i64 7) w fun t40 w =>
  bi .add .i64 t37 t40 w fun t41 w =>
  bi .rem .i64 t41 (Value.int IntKind.i64 8) w fun t42 w =>
  bsl 55 8 0 #[] [] w fun t43 w =>
  bsl 55 8 0 #[] [] w fun t44 w =>
  lp [t43, t44, (Value.int IntKind.i64 0)] w (b3 fun t11 t12 t13 w g1 =>
  lnS t0 w fun t47 w =>
  bi .lss .i64 t13 t47 w fun t48 w =>
  iff' t48
  (J2 (fun t11_1 t12_1 w =>
  bi .add .i64 t13 (Value.int IntKind.i64 1) w fun t50 w =>
  g1 [t11_1, t12_1, t50] w) fun k2 =>
  ixS 11 t0 t13 w fun t53 w =>
  ldN 11 t53 w fun t54 w =>
  al (zeroD prog 57) 57 w fun t14 w =>
  stN 11 t14 t54 w fun _ w =>
  fld 0 t14 w fun t55 w =>
  ld1 t55 w fun t56 w =>
  bi .eql .i64 t56 (Value.int IntKind.i64 0) w fun t58 w =>
  iff' t58
  (fld 1 t14 w fun t60 w =>
  ld1 t60 w fun t61 w =>
  fld 2 t14 w fun t62 w =>
  ld1 t62 w fun t63 w =>
  fld 3 t14 w fun t64 w =>
  ldN 8 t64 w fun t65 w =>
  Cl prog 25 #[t25, t61, t63, t65] w fun t66 w =>
  bi .eql .i64 t66 (Value.int IntKind.i64 0) w fun t67 w =>
  gd t67 true (fun k => fld 1 t14 w k) w fun t69 w =>
  gd t67 true (fun k => ld1 t69 w k) w fun t70 w =>
  gd t67 true (fun k => k t35 w) w fun t71 w =>
  gd t67 true (fun k => bi .eql .i64 t70 t71 w k) w fun t72 w =>
  pk t67 t72 (Value.bool false) w fun t73 w =>
  gd t73 true (fun k => fld 2 t14 w k) w fun t75 w =>
  gd t73 true (fun k => ld1 t75 w k) w fun t76 w =>
  gd t73 true (fun k => k t42 w) w fun t77 w =>
  gd t73 true (fun k => bi .eql .i64 t76 t77 w k) w fun t78 w =>
  pk t73 t78 (Value.bool false) w fun t79 w =>
  iff' t79
  (fld 3 t14 w fun t81 w =>
  ldN 8 t81 w fun t82 w =>
  bsl 55 8 1 (zeroD prog 55) [(0, t82)] w fun t83 w =>
  apS prog #[53, 53] 53 t11 t83 w fun t84 w =>
  k2 t84 t12 w)
  (k2 t11 t12 w))
  (bi .eql .i64 t56 (Value.int IntKind.i64 1) w fun t86 w =>
  iff' t86
  (fld 1 t14 w fun t89 w =>
  ld1 t89 w fun t90 w =>
  fld 2 t14 w fun t91 w =>
  ld1 t91 w fun t92 w =>
  Cl prog 26 #[t25, t90, t92] w fun t93 w =>
  xt 0 t93 w fun t94 w =>
  xt 1 t93 w fun t95 w =>
  al (zeroD prog 55) 55 w fun t15 w =>
  stN 8 t15 t94 w fun _ w =>
  gd t95 true (fun k => fld 1 t14 w k) w fun t98 w =>
  gd t95 true (fun k => ld1 t98 w k) w fun t99 w =>
  gd t95 true (fun k => k t35 w) w fun t100 w =>
  gd t95 true (fun k => bi .eql .i64 t99 t100 w k) w fun t101 w =>
  pk t95 t101 (Value.bool false) w fun t102 w =>
  gd t102 true (fun k => fld 2 t14 w k) w fun t104 w =>
  gd t102 true (fun k => ld1 t104 w k) w fun t105 w =>
  gd t102 true (fun k => k t42 w) w fun t106 w =>
  gd t102 true (fun k => bi .eql .i64 t105 t106 w k) w fun t107 w =>
  pk t102 t107 (Value.bool false) w fun t108 w =>
  iff' t108
  (ldN 8 t15 w fun t110 w =>
  bsl 55 8 1 (zeroD prog 55) [(0, t110)] w fun t111 w =>
  apS prog #[53, 53] 53 t12 t111 w fun t112 w =>
  k2 t11 t112 w)
  (k2 t11 t12 w))
  (k2 t11 t12 w)))
  (lp [t12] w (b1 fun t12_2 w g3 =>
  Cl prog 27 #[t25, t35, t42] w fun t116 w =>
  bi .gtr .i64 t116 (Value.int IntKind.i64 0) w fun t117 w =>
  gd t117 true (fun k => k t12_2 w) w fun t119 w =>
  gd t117 true (fun k => lnS t119 w k) w fun t120 w =>
  gd t117 true (fun k => k t11 w) w fun t121 w =>
  gd t117 true (fun k => lnS t121 w k) w fun t122 w =>
  gd t117 true (fun k => bi .leq .i64 t120 t122 w k) w fun t123 w =>
  pk t117 t123 (Value.bool false) w fun t124 w =>
  iff' t124
  (Cl prog 26 #[t25, t35, t42] w fun t129 w =>
  xt 0 t129 w fun t130 w =>
  xt 1 t129 w fun _ w =>
  al (zeroD prog 55) 55 w fun t17 w =>
  stN 8 t17 t130 w fun _ w =>
  ldN 8 t17 w fun t133 w =>
  bsl 55 8 1 (zeroD prog 55) [(0, t133)] w fun t134 w =>
  apS prog #[53, 53] 53 t12_2 t134 w fun t135 w =>
  g3 [t135] w)
  (lnS t12_2 w fun t137 w =>
  lnS t11 w fun t139 w =>
  bi .neq .i64 t137 t139 w fun t140 w =>
  iff' t140
  (K (Value.bool false) w)
  (lp [(Value.int IntKind.i64 0)] w (b1 fun t19 w g4 =>
  lnS t12_2 w fun t143 w =>
  bi .lss .i64 t19 t143 w fun t144 w =>
  iff' t144
  (dr w fun w =>
  ixS 8 t12_2 t19 w fun t149 _ =>
  ldN 8 t149 w fun t150 _ =>
  ixS 8 t11 t19 w fun t153 _ =>
  ldN 8 t153 w fun t154 _ =>
  bO prog .neq 55 (Operand.tmp 150) (Operand.tmp 154) t150 t154 w fun t155 w =>
  iff' t155
  (K (Value.bool false) w)
  (bi .add .i64 t19 (Value.int IntKind.i64 1) w fun t146 w =>
  g4 [t146] w))
  (Cl prog 28 #[t25, t35, t42] w fun t159 w =>
  bi .eql .i64 t159 (Value.int IntKind.i64 16) w fun t160 w =>
  K t160 w)))))))))
theorem pacelinelaw10_LinkOrder_eq (t0 t1 t2 : Value) (w : World) (K : KV) : pacelinelaw10_LinkOrder t0 t1 t2 w K = fnW prog 161 [6] (match fn5.body with | some c => c | none => .skip) #[t0, t1, t2] w K := by kernel_rfl
theorem pacelinelaw10_LinkOrder_ok : fnOk prog 161 [6] (match fn5.body with | some c => c | none => .skip) = true := by kernel_rfl
theorem pacelinelaw10_LinkOrder_calls {t0 t1 t2 : Value} {w : World} {K : KV} (h : pacelinelaw10_LinkOrder t0 t1 t2 w K) : Cl prog 5 #[t0, t1, t2] w K :=
  ⟨by kernel_rfl, calls_of_F (fn := fn5) (nt := 161) (rs := [6]) mixed fnAt5 (by kernel_rfl) (by kernel_rfl) (by kernel_rfl) (Nat.le_of_ble_eq_true (by kernel_rfl)) pacelinelaw10_LinkOrder_ok (pacelinelaw10_LinkOrder_eq t0 t1 t2 w K) h⟩

/-- paceline/pacelinelaw10.LinkApart -/
def pacelinelaw10_LinkApart (t0 t1 t2 : Value) (w : World) (K : KV) : Prop :=
  lnS t0 w fun t22 w =>
  bi .gtr .i64 t22 (Value.int IntKind.i64 200) w fun t23 w =>
  iff' t23
  (K (Value.bool true) w)
  (Cl prog 24 #[(Value.int IntKind.i64 4), (Value.int IntKind.i64 5)] w fun t25 w =>
  xt 0 t25 w fun t26 w =>
  xt 1 t25 w fun t27 w =>
  Cl prog 24 #[(Value.int IntKind.i64 4), (Value.int IntKind.i64 5)] w fun t29 w =>
  xt 0 t29 w fun t30 w =>
  xt 1 t29 w fun t31 w =>
  bi .neq .i64 t27 (Value.int IntKind.i64 0) w fun t33 w =>
  gd t33 false (fun k => k t31 w) w fun t35 w =>
  gd t33 false (fun k => bi .neq .i64 t35 (Value.int IntKind.i64 0) w k) w fun t36 w =>
  pk t33 (Value.bool true) t36 w fun t37 w =>
  gd t37 false (fun k => k t26 w) w fun t39 w =>
  gd t37 false (fun k => bn .eql t39 w k) w fun t40 w =>
  pk t37 (Value.bool true) t40 w fun t41 w =>
  gd t41 false (fun k => k t30 w) w fun t43 w =>
  gd t41 false (fun k => bn .eql t43 w k) w fun t44 w =>
  pk t41 (Value.bool true) t44 w fun t45 w =>
  iff' t45
  (K (Value.bool false) w)
  (cvI .i64 t1 w fun t47 w =>
  bi .rem .i64 t47 (Value.int IntKind.i64 4) w fun t48 w =>
  cvI .i64 t2 w fun t50 w =>
  bi .rem .i64 t50 (Value.int IntKind.i64 4) w fun t51 w =>
  lp [(Value.int IntKind.i64 0)] w (b1 fun t13 w g1 =>
  lnS t0 w fun t54 w =>
  bi .lss .i64 t13 t54 w fun t55 w =>
  iff' t55
  (J0 (fun w =>
  bi .add .i64 t13 (Value.int IntKind.i64 1) w fun t57 w =>
  g1 [t57] w) fun k2 =>
  ixS 11 t0 t13 w fun t60 w =>
  ldN 11 t60 w fun t61 w =>
  al (zeroD prog 57) 57 w fun t14 w =>
  stN 11 t14 t61 w fun _ w =>
  fld 1 t14 w fun t62 w =>
  ld1 t62 w fun t63 w =>
  bi .eql .i64 t63 t48 w fun t65 w =>
  gd t65 true (fun k => fld 2 t14 w k) w fun t67 w =>
  gd t65 true (fun k => ld1 t67 w k) w fun t68 w =>
  gd t65 true (fun k => k t51 w) w fun t69 w =>
  gd t65 true (fun k => bi .eql .i64 t68 t69 w k) w fun t70 w =>
  pk t65 t70 (Value.bool false) w fun t71 w =>
  fld 0 t14 w fun t72 w =>
  ld1 t72 w fun t73 w =>
  bi .eql .i64 t73 (Value.int IntKind.i64 0) w fun t75 w =>
  iff' t75
  (fld 1 t14 w fun t77 w =>
  ld1 t77 w fun t78 w =>
  fld 2 t14 w fun t79 w =>
  ld1 t79 w fun t80 w =>
  fld 3 t14 w fun t81 w =>
  ldN 8 t81 w fun t82 w =>
  Cl prog 25 #[t26, t78, t80, t82] w fun t83 w =>
  gd t71 true (fun k => k t30 w) w fun t86 w =>
  gd t71 true (fun k => fld 1 t14 w k) w fun t87 w =>
  gd t71 true (fun k => ld1 t87 w k) w fun t88 w =>
  gd t71 true (fun k => fld 2 t14 w k) w fun t89 w =>
  gd t71 true (fun k => ld1 t89 w k) w fun t90 w =>
  gd t71 true (fun k => fld 3 t14 w k) w fun t91 w =>
  gd t71 true (fun k => ldN 8 t91 w k) w fun t92 w =>
  gd t71 true (fun k => Cl prog 25 #[t86, t88, t90, t92] w k) w fun t93 w =>
  gd t71 true (fun k => k t83 w) w fun t94 w =>
  gd t71 true (fun k => bi .neq .i64 t93 t94 w k) w fun t95 w =>
  pk t71 t95 (Value.bool false) w fun t96 w =>
  iff' t96
  (K (Value.bool false) w)
  (k2 w))
  (bi .eql .i64 t73 (Value.int IntKind.i64 1) w fun t98 w =>
  iff' t98
  (fld 1 t14 w fun t101 w =>
  ld1 t101 w fun t102 w =>
  fld 2 t14 w fun t103 w =>
  ld1 t103 w fun t104 w =>
  Cl prog 26 #[t26, t102, t104] w fun t105 w =>
  xt 0 t105 w fun t106 w =>
  xt 1 t105 w fun t107 w =>
  al (zeroD prog 55) 55 w fun t17 w =>
  stN 8 t17 t106 w fun _ w =>
  iff' t71
  (fld 1 t14 w fun t111 w =>
  ld1 t111 w fun t112 w =>
  fld 2 t14 w fun t113 w =>
  ld1 t113 w fun t114 w =>
  Cl prog 26 #[t30, t112, t114] w fun t115 w =>
  xt 0 t115 w fun t116 w =>
  xt 1 t115 w fun t117 w =>
  al (zeroD prog 55) 55 w fun t19 w =>
  stN 8 t19 t116 w fun _ w =>
  ldN 8 t17 w fun t118 w =>
  ldN 8 t19 w fun t119 w =>
  bO prog .neq 55 (Operand.tmp 118) (Operand.tmp 119) t118 t119 w fun t120 w =>
  gd t120 false (fun k => k t107 w) w fun t122 w =>
  gd t120 false (fun k => k t117 w) w fun t123 w =>
  gd t120 false (fun k => bb .neq t122 t123 w k) w fun t124 w =>
  pk t120 (Value.bool true) t124 w fun t125 w =>
  iff' t125
  (K (Value.bool false) w)
  (k2 w))
  (k2 w))
  (k2 w)))
  (Cl prog 27 #[t26, t48, t51] w fun t129 w =>
  Cl prog 27 #[t30, t48, t51] w fun t133 w =>
  bi .eql .i64 t129 t133 w fun t134 w =>
  gd t134 true (fun k => k t26 w) w fun t136 w =>
  gd t134 true (fun k => k t48 w) w fun t137 w =>
  gd t134 true (fun k => k t51 w) w fun t138 w =>
  gd t134 true (fun k => Cl prog 28 #[t136, t137, t138] w k) w fun t139 w =>
  gd t134 true (fun k => k t30 w) w fun t140 w =>
  gd t134 true (fun k => k t48 w) w fun t141 w =>
  gd t134 true (fun k => k t51 w) w fun t142 w =>
  gd t134 true (fun k => Cl prog 28 #[t140, t141, t142] w k) w fun t143 w =>
  gd t134 true (fun k => bi .eql .i64 t139 t143 w k) w fun t144 w =>
  pk t134 t144 (Value.bool false) w fun t145 w =>
  gd t145 true (fun k => k t26 w) w fun t147 w =>
  gd t145 true (fun k => bld (zeroD prog 55) #[(0, 1), (1, 6), (7, 1)] [] w k) w fun t148 w =>
  gd t145 true (fun k => Cl prog 25 #[t147, (Value.int IntKind.i64 0), (Value.int IntKind.i64 0), t148] w k) w fun t149 w =>
  gd t145 true (fun k => bi .eql .i64 t149 (Value.int IntKind.i64 1) w k) w fun t150 w =>
  pk t145 t150 (Value.bool false) w fun t151 w =>
  K t151 w))))
theorem pacelinelaw10_LinkApart_eq (t0 t1 t2 : Value) (w : World) (K : KV) : pacelinelaw10_LinkApart t0 t1 t2 w K = fnW prog 152 [6] (match fn6.body with | some c => c | none => .skip) #[t0, t1, t2] w K := by kernel_rfl
theorem pacelinelaw10_LinkApart_ok : fnOk prog 152 [6] (match fn6.body with | some c => c | none => .skip) = true := by kernel_rfl
theorem pacelinelaw10_LinkApart_calls {t0 t1 t2 : Value} {w : World} {K : KV} (h : pacelinelaw10_LinkApart t0 t1 t2 w K) : Cl prog 6 #[t0, t1, t2] w K :=
  ⟨by kernel_rfl, calls_of_F (fn := fn6) (nt := 152) (rs := [6]) mixed fnAt6 (by kernel_rfl) (by kernel_rfl) (by kernel_rfl) (Nat.le_of_ble_eq_true (by kernel_rfl)) pacelinelaw10_LinkApart_ok (pacelinelaw10_LinkApart_eq t0 t1 t2 w K) h⟩

/-- paceline/pacelinelaw11.ClockGoes -/
def pacelinelaw11_ClockGoes (t0 t1 : Value) (w : World) (K : KV) : Prop :=
  lnS t0 w fun t21 w =>
  mnI .i64 t21 (Value.int IntKind.i64 8) w fun t22 w =>
  bi .lss .i64 t22 (Value.int IntKind.i64 2) w fun t24 w =>
  iff' t24
  (Cl prog 20 #[(Value.int IntKind.i64 1), (Value.int IntKind.i64 0)] w fun t26 w =>
  xt 0 t26 w fun t27 w =>
  xt 1 t26 w fun t28 w =>
  bi .eql .i64 t28 (Value.int IntKind.i64 0) w fun t30 w =>
  gd t30 true (fun k => k t27 w) w fun t32 w =>
  gd t30 true (fun k => bn .neq t32 w k) w fun t33 w =>
  pk t30 t33 (Value.bool false) w fun t34 w =>
  gd t34 true (fun k => k t27 w) w fun t36 w =>
  gd t34 true (fun k => Cl prog 23 #[t36] w k) w fun t37 w =>
  gd t34 true (fun k => bi .eql .i64 t37 (Value.int IntKind.i64 1125899906842624) w k) w fun t38 w =>
  pk t34 t38 (Value.bool false) w fun t39 w =>
  K t39 w)
  (bsl 40 1 0 #[] [] w fun t40 w =>
  lp [t40, (Value.int IntKind.i64 1000), (Value.int IntKind.i64 0)] w (b3 fun t8 t9 t10 w g1 =>
  bi .lss .i64 t10 t22 w fun t43 w =>
  iff' t43
  (Cl prog 20 #[t22, t10] w fun t49 w =>
  xt 0 t49 w fun t50 w =>
  xt 1 t49 w fun t51 w =>
  bi .neq .i64 t51 (Value.int IntKind.i64 0) w fun t53 w =>
  gd t53 false (fun k => k t50 w) w fun t55 w =>
  gd t53 false (fun k => bn .eql t55 w k) w fun t56 w =>
  pk t53 (Value.bool true) t56 w fun t57 w =>
  iff' t57
  (K (Value.bool false) w)
  (bsl 40 1 1 (zeroD prog 40) [(0, t50)] w fun t60 w =>
  apS prog #[64, 64] 64 t8 t60 w fun t61 w =>
  ixS 1 t0 t10 w fun t65 w =>
  ld1 t65 w fun t66 w =>
  cvI .i64 t66 w fun t67 w =>
  bi .add .i64 (Value.int IntKind.i64 1) t67 w fun t68 w =>
  mnI .i64 t9 t68 w fun t69 w =>
  bi .add .i64 t10 (Value.int IntKind.i64 1) w fun t45 w =>
  g1 [t61, t69, t45] w))
  (lp [(Value.int IntKind.i64 1)] w (b1 fun t13 w g2 =>
  cvI .i64 t1 w fun t72 w =>
  bi .rem .i64 t72 (Value.int IntKind.i64 10) w fun t73 w =>
  bi .add .i64 (Value.int IntKind.i64 1) t73 w fun t74 w =>
  bi .leq .i64 t13 t74 w fun t75 w =>
  iff' t75
  (bsl 3 1 0 #[] [] w fun t78 w =>
  lp [t78, (Value.int IntKind.i64 0)] w (b2 fun t14 t15 w g3 =>
  bi .lss .i64 t15 t22 w fun t81 w =>
  iff' t81
  (dr w fun w =>
  ixS 1 t8 t15 w fun t87 _ =>
  ld1 t87 w fun t88 _ =>
  ixS 1 t0 t15 w fun t91 _ =>
  ld1 t91 w fun t92 _ =>
  cvI .i64 t92 w fun t93 _ =>
  bi .add .i64 (Value.int IntKind.i64 1) t93 w fun t94 _ =>
  Cl prog 29 #[t88, (Value.int IntKind.i64 1125899906842624), t94] w fun t95 w =>
  xt 0 t95 w fun t96 _ =>
  xt 1 t95 w fun t97 _ =>
  bnot t97 w fun t99 w =>
  iff' t99
  (K (Value.bool false) w)
  (bsl 3 1 1 (zeroD prog 3) [(0, t96)] w fun t102 w =>
  apS prog #[65, 65] 65 t14 t102 w fun t103 w =>
  bi .add .i64 t15 (Value.int IntKind.i64 1) w fun t83 w =>
  g3 [t103, t83] w))
  (lp [(Value.int IntKind.i64 0)] w (b1 fun t18 w g4 =>
  bi .lss .i64 t18 t22 w fun t106 w =>
  iff' t106
  (lp [(Value.int IntKind.i64 0)] w (b1 fun t19 w g5 =>
  bi .lss .i64 t19 t22 w fun t111 w =>
  iff' t111
  (dr w fun w =>
  bi .neq .i64 t18 t19 w fun t116 _ =>
  gd t116 true (fun k => k t8 w) w fun t118 _ =>
  gd t116 true (fun k => k t18 w) w fun t119 _ =>
  gd t116 true (fun k => ixS 1 t118 t119 w k) w fun t120 _ =>
  gd t116 true (fun k => ld1 t120 w k) w fun t121 _ =>
  gd t116 true (fun k => k t19 w) w fun t122 _ =>
  gd t116 true (fun k => k t14 w) w fun t123 _ =>
  gd t116 true (fun k => k t19 w) w fun t124 _ =>
  gd t116 true (fun k => ixS 1 t123 t124 w k) w fun t125 _ =>
  gd t116 true (fun k => ld1 t125 w k) w fun t126 _ =>
  gd t116 true (fun k => Cl prog 21 #[t121, t122, t126] w k) w fun t127 w =>
  gd t116 true (fun k => bi .neq .i64 t127 (Value.int IntKind.i64 0) w k) w fun t128 _ =>
  pk t116 t128 (Value.bool false) w fun t129 _ =>
  iff' t129
  (K (Value.bool false) w)
  (bi .add .i64 t19 (Value.int IntKind.i64 1) w fun t113 w =>
  g5 [t113] w))
  (ixS 1 t8 t18 w fun t132 w =>
  ld1 t132 w fun t133 w =>
  Cl prog 23 #[t133] w fun t134 w =>
  bi .mul .i64 t13 t9 w fun t137 w =>
  bi .lss .i64 t134 t137 w fun t138 w =>
  iff' t138
  (K (Value.bool false) w)
  (bi .add .i64 t18 (Value.int IntKind.i64 1) w fun t108 w =>
  g4 [t108] w))))
  (bi .add .i64 t13 (Value.int IntKind.i64 1) w fun t77 w =>
  g2 [t77] w)))))
  (K (Value.bool true) w)))))
theorem pacelinelaw11_ClockGoes_eq (t0 t1 : Value) (w : World) (K : KV) : pacelinelaw11_ClockGoes t0 t1 w K = fnW prog 139 [4] (match fn7.body with | some c => c | none => .skip) #[t0, t1] w K := by kernel_rfl
theorem pacelinelaw11_ClockGoes_ok : fnOk prog 139 [4] (match fn7.body with | some c => c | none => .skip) = true := by kernel_rfl
theorem pacelinelaw11_ClockGoes_calls {t0 t1 : Value} {w : World} {K : KV} (h : pacelinelaw11_ClockGoes t0 t1 w K) : Cl prog 7 #[t0, t1] w K :=
  ⟨by kernel_rfl, calls_of_F (fn := fn7) (nt := 139) (rs := [4]) mixed fnAt7 (by kernel_rfl) (by kernel_rfl) (by kernel_rfl) (Nat.le_of_ble_eq_true (by kernel_rfl)) pacelinelaw11_ClockGoes_ok (pacelinelaw11_ClockGoes_eq t0 t1 w K) h⟩

/-- paceline/pacelinelaw11.ClockAlone -/
def pacelinelaw11_ClockAlone (t0 t1 : Value) (w : World) (K : KV) : Prop :=
  lnS t0 w fun t13 w =>
  bi .gtr .i64 t13 (Value.int IntKind.i64 200) w fun t14 w =>
  iff' t14
  (K (Value.bool true) w)
  (Cl prog 20 #[(Value.int IntKind.i64 1), (Value.int IntKind.i64 0)] w fun t16 w =>
  xt 0 t16 w fun t17 w =>
  xt 1 t16 w fun t18 w =>
  bi .neq .i64 t18 (Value.int IntKind.i64 0) w fun t20 w =>
  gd t20 false (fun k => k t17 w) w fun t22 w =>
  gd t20 false (fun k => bn .eql t22 w k) w fun t23 w =>
  pk t20 (Value.bool true) t23 w fun t24 w =>
  gd t24 false (fun k => k t17 w) w fun t26 w =>
  gd t24 false (fun k => Cl prog 23 #[t26] w k) w fun t27 w =>
  gd t24 false (fun k => bi .neq .i64 t27 (Value.int IntKind.i64 1125899906842624) w k) w fun t28 w =>
  pk t24 (Value.bool true) t28 w fun t29 w =>
  iff' t29
  (K (Value.bool false) w)
  (lp [(Value.int IntKind.i64 0), (Value.int IntKind.i64 0)] w (b2 fun t7 t8 w g1 =>
  lnS t0 w fun t32 w =>
  bi .lss .i64 t8 t32 w fun t33 w =>
  iff' t33
  (ixS 1 t0 t8 w fun t40 w =>
  ld1 t40 w fun t41 w =>
  cvI .i64 t41 w fun t42 w =>
  cvI .i64 t1 w fun t44 w =>
  Cl prog 29 #[t17, t42, t44] w fun t45 w =>
  xt 0 t45 w fun t46 w =>
  xt 1 t45 w fun t47 w =>
  ixS 1 t0 t8 w fun t50 w =>
  ld1 t50 w fun t51 w =>
  cvI .i64 t51 w fun t52 w =>
  cvI .i64 t1 w fun t54 w =>
  bi .add .i64 t52 t54 w fun t55 w =>
  bi .gtr .i64 t55 t7 w fun t59 w =>
  bb .neq t47 t59 w fun t60 w =>
  iff' t60
  (K (Value.bool false) w)
  (mxI .i64 t7 t55 w fun t63 w =>
  bi .neq .i64 t46 t63 w fun t66 w =>
  gd t66 false (fun k => k t17 w) w fun t68 w =>
  gd t66 false (fun k => Cl prog 30 #[t68] w k) w fun t69 w =>
  gd t66 false (fun k => k t63 w) w fun t70 w =>
  gd t66 false (fun k => bi .neq .i64 t69 t70 w k) w fun t71 w =>
  pk t66 (Value.bool true) t71 w fun t72 w =>
  iff' t72
  (K (Value.bool false) w)
  (bi .add .i64 t8 (Value.int IntKind.i64 1) w fun t35 w =>
  g1 [t63, t35] w)))
  (Cl prog 21 #[t17, (Value.int IntKind.i64 0), (Value.int IntKind.i64 1)] w fun t74 w =>
  bi .eql .i64 t74 (Value.int IntKind.i64 1) w fun t75 w =>
  K t75 w))))
theorem pacelinelaw11_ClockAlone_eq (t0 t1 : Value) (w : World) (K : KV) : pacelinelaw11_ClockAlone t0 t1 w K = fnW prog 76 [4] (match fn8.body with | some c => c | none => .skip) #[t0, t1] w K := by kernel_rfl
theorem pacelinelaw11_ClockAlone_ok : fnOk prog 76 [4] (match fn8.body with | some c => c | none => .skip) = true := by kernel_rfl
theorem pacelinelaw11_ClockAlone_calls {t0 t1 : Value} {w : World} {K : KV} (h : pacelinelaw11_ClockAlone t0 t1 w K) : Cl prog 8 #[t0, t1] w K :=
  ⟨by kernel_rfl, calls_of_F (fn := fn8) (nt := 76) (rs := [4]) mixed fnAt8 (by kernel_rfl) (by kernel_rfl) (by kernel_rfl) (Nat.le_of_ble_eq_true (by kernel_rfl)) pacelinelaw11_ClockAlone_ok (pacelinelaw11_ClockAlone_eq t0 t1 w K) h⟩

end Go.Proofs.Ytiiekfcfledkhaa
