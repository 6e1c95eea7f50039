/- Printed by prt.py: the Go functions of this seat as shallow predicate transformers. Conditions: none. -/
import Derived.Test.YtdiglafiimnfoaaEngO
import Derived.Test.YtdiglafiimnfoaaPfHead
import Derived.KernelRfl
namespace Go.Proofs.Ytdiglafiimnfoaa
open Go Go.E
set_option linter.unusedVariables false
set_option maxRecDepth 100000
/-- paceline/pacelinelaw03.PrioSorts -/
def pacelinelaw03_PrioSorts (t0 : Value) (w : World) (K : KV) : Prop :=
  lnS t0 w fun t15 w =>
  bi .gtr .i64 t15 (Value.int IntKind.i64 64) w fun t16 w =>
  iff' t16
  (K (Value.bool true) w)
  (Cl prog 50 #[(Value.int IntKind.i64 64)] w fun t17 w =>
  Cl prog 51 #[(Value.int IntKind.i64 64)] w fun t18 w =>
  lp [(Value.int IntKind.i64 0), (Value.int IntKind.i64 0)] w (b2 fun t5 t6 w g1 =>
  lnS t0 w fun t21 w =>
  bi .lss .i64 t6 t21 w fun t22 w =>
  iff' t22
  (J1 (fun t5_1 w =>
  bi .add .i64 t6 (Value.int IntKind.i64 1) w fun t24 w =>
  g1 [t5_1, t24] w) fun k2 =>
  ixS 6 t0 t6 w fun t28 w =>
  ldN 6 t28 w fun t29 w =>
  Cl prog 52 #[t17, t29] w fun t30 w =>
  ixS 6 t0 t6 w fun t35 w =>
  ldN 6 t35 w fun t36 w =>
  Cl prog 53 #[t18, t36] w fun t37 w =>
  bi .neq .i64 t30 t37 w fun t38 w =>
  iff' t38
  (K (Value.bool false) w)
  (bi .eql .i64 t30 (Value.int IntKind.i64 0) w fun t40 w =>
  iff' t40
  (bi .add .i64 t5 (Value.int IntKind.i64 1) w fun t42 w =>
  k2 t42 w)
  (k2 t5 w)))
  (bld (zeroD prog 61) #[(0, 1), (1, 1), (2, 1)] [] w fun t43 w =>
  al (zeroD prog 61) 61 w fun t8 w =>
  stN 3 t8 t43 w fun _ w =>
  lp [(Value.int IntKind.i64 0)] w (b1 fun t9 w g3 =>
  bi .lss .i64 t9 t5 w fun t46 w =>
  iff' t46
  (Cl prog 54 #[t17] w fun t51 w =>
  xt 0 t51 w fun t52 w =>
  xt 1 t51 w fun t53 w =>
  al (zeroD prog 63) 63 w fun t10 w =>
  stN 6 t10 t52 w fun _ w =>
  bnot t53 w fun t55 w =>
  gd t55 false (fun k => k t9 w) w fun t57 w =>
  gd t55 false (fun k => bi .gtr .i64 t57 (Value.int IntKind.i64 0) w k) w fun t58 w =>
  gd t55 false (fun k => k t58 w) w fun t59 w =>
  gd t59 true (fun k => ldN 3 t8 w k) w fun t60 w =>
  gd t59 true (fun k => fld 0 t10 w k) w fun t61 w =>
  gd t59 true (fun k => ldN 3 t61 w k) w fun t62 w =>
  gd t59 true (fun k => Cl prog 55 #[t60, t62] w k) w fun t63 w =>
  gd t59 true (fun k => bi .geq .i64 t63 (Value.int IntKind.i64 0) w k) w fun t64 w =>
  gd t55 false (fun k => pk t59 t64 (Value.bool false) w k) w fun t65 w =>
  pk t55 (Value.bool true) t65 w fun t66 w =>
  iff' t66
  (K (Value.bool false) w)
  (fld 0 t10 w fun t67 w =>
  ldN 3 t67 w fun t68 w =>
  stN 3 t8 t68 w fun _ w =>
  bi .add .i64 t9 (Value.int IntKind.i64 1) w fun t48 w =>
  g3 [t48] w))
  (Cl prog 54 #[t17] w fun t71 w =>
  xt 0 t71 w fun t72 w =>
  xt 1 t71 w fun t73 w =>
  al (zeroD prog 63) 63 w fun t12 w =>
  stN 6 t12 t72 w fun _ w =>
  bnot t73 w fun t75 w =>
  gd t75 true (fun k => k t17 w) w fun t77 w =>
  gd t75 true (fun k => Cl prog 56 #[t77] w k) w fun t78 w =>
  gd t75 true (fun k => bi .eql .i64 t78 (Value.int IntKind.i64 0) w k) w fun t79 w =>
  pk t75 t79 (Value.bool false) w fun t80 w =>
  gd t80 true (fun k => k t17 w) w fun t82 w =>
  gd t80 true (fun k => bld (zeroD prog 63) #[(0, 3), (3, 1), (4, 1), (5, 1)] [] w k) w fun t83 w =>
  gd t80 true (fun k => Cl prog 52 #[t82, t83] w k) w fun t84 w =>
  gd t80 true (fun k => bi .eql .i64 t84 (Value.int IntKind.i64 0) w k) w fun t85 w =>
  pk t80 t85 (Value.bool false) w fun t86 w =>
  gd t86 true (fun k => k t17 w) w fun t88 w =>
  gd t86 true (fun k => Cl prog 56 #[t88] w k) w fun t89 w =>
  gd t86 true (fun k => bi .eql .i64 t89 (Value.int IntKind.i64 1) w k) w fun t90 w =>
  pk t86 t90 (Value.bool false) w fun t91 w =>
  K t91 w)))))
theorem pacelinelaw03_PrioSorts_eq (t0 : Value) (w : World) (K : KV) : pacelinelaw03_PrioSorts t0 w K = fnW prog 92 [2] (match fn9.body with | some c => c | none => .skip) #[t0] w K := by kernel_rfl
theorem pacelinelaw03_PrioSorts_ok : fnOk prog 92 [2] (match fn9.body with | some c => c | none => .skip) = true := by kernel_rfl
theorem pacelinelaw03_PrioSorts_calls {t0 : Value} {w : World} {K : KV} (h : pacelinelaw03_PrioSorts t0 w K) : Cl prog 9 #[t0] w K :=
  ⟨by kernel_rfl, calls_of_F (fn := fn9) (nt := 92) (rs := [2]) mixed fnAt9 (by kernel_rfl) (by kernel_rfl) (by kernel_rfl) (Nat.le_of_ble_eq_true (by kernel_rfl)) pacelinelaw03_PrioSorts_ok (pacelinelaw03_PrioSorts_eq t0 w K) h⟩

/-- paceline/pacelinelaw04.CalendarDays -/
def pacelinelaw04_CalendarDays (t0 t1 : Value) (w : World) (K : KV) : Prop :=
  lnS t1 w fun t13 w =>
  bi .gtr .i64 t13 (Value.int IntKind.i64 64) w fun t14 w =>
  iff' t14
  (K (Value.bool true) w)
  (cvI .i64 t0 w fun t16 w =>
  bi .add .i64 (Value.int IntKind.i64 1) t16 w fun t17 w =>
  Cl prog 57 #[(Value.int IntKind.i64 64), t17] w fun t19 w =>
  mkS prog 38 (Value.int IntKind.i64 8) (Value.int IntKind.i64 8) w fun t20 w =>
  lp [(Value.int IntKind.i64 0)] w (b1 fun t8 w g1 =>
  lnS t1 w fun t23 w =>
  bi .lss .i64 t8 t23 w fun t24 w =>
  iff' t24
  (ixS 1 t1 t8 w fun t30 w =>
  ld1 t30 w fun t31 w =>
  cvI .i64 t31 w fun t32 w =>
  bld (zeroD prog 61) #[(0, 1), (1, 1), (2, 1)] [(0, t32), (2, t8)] w fun t34 w =>
  bld (zeroD prog 63) #[(0, 3), (3, 1), (4, 1), (5, 1)] [(0, t34)] w fun t35 w =>
  Cl prog 58 #[t19, t35] w fun t36 w =>
  bi .neq .i64 t36 (Value.int IntKind.i64 0) w fun t37 w =>
  iff' t37
  (K (Value.bool false) w)
  (ixS 1 t1 t8 w fun t40 w =>
  ld1 t40 w fun t41 w =>
  cvI .i64 t41 w fun t42 w =>
  bi .quo .i64 t42 t17 w fun t44 w =>
  bi .rem .i64 t44 (Value.int IntKind.i64 8) w fun t45 w =>
  ixS 1 t20 t45 w fun t50 w =>
  ld1 t50 w fun t51 w =>
  bi .add .i64 t51 (Value.int IntKind.i64 1) w fun t52 w =>
  ixS 1 t20 t45 w fun t53 w =>
  stN 1 t53 t52 w fun _ w =>
  bi .add .i64 t8 (Value.int IntKind.i64 1) w fun t26 w =>
  g1 [t26] w))
  (Cl prog 59 #[t19] w fun t55 w =>
  lnS t55 w fun t57 w =>
  bi .neq .i64 t57 (Value.int IntKind.i64 8) w fun t58 w =>
  gd t58 false (fun k => k t19 w) w fun t60 w =>
  gd t58 false (fun k => Cl prog 60 #[t60] w k) w fun t61 w =>
  gd t58 false (fun k => k t1 w) w fun t62 w =>
  gd t58 false (fun k => lnS t62 w k) w fun t63 w =>
  gd t58 false (fun k => bi .neq .i64 t61 t63 w k) w fun t64 w =>
  pk t58 (Value.bool true) t64 w fun t65 w =>
  iff' t65
  (K (Value.bool false) w)
  (lp [(Value.int IntKind.i64 0)] w (b1 fun t11 w g2 =>
  bi .lss .i64 t11 (Value.int IntKind.i64 8) w fun t67 w =>
  iff' t67
  (dr w fun w =>
  ixS 1 t55 t11 w fun t72 _ =>
  ld1 t72 w fun t73 _ =>
  ixS 1 t20 t11 w fun t76 _ =>
  ld1 t76 w fun t77 _ =>
  bi .neq .i64 t73 t77 w fun t78 _ =>
  iff' t78
  (K (Value.bool false) w)
  (bi .add .i64 t11 (Value.int IntKind.i64 1) w fun t69 w =>
  g2 [t69] w))
  (K (Value.bool true) w))))))
theorem pacelinelaw04_CalendarDays_eq (t0 t1 : Value) (w : World) (K : KV) : pacelinelaw04_CalendarDays t0 t1 w K = fnW prog 79 [4] (match fn10.body with | some c => c | none => .skip) #[t0, t1] w K := by kernel_rfl
theorem pacelinelaw04_CalendarDays_ok : fnOk prog 79 [4] (match fn10.body with | some c => c | none => .skip) = true := by kernel_rfl
theorem pacelinelaw04_CalendarDays_calls {t0 t1 : Value} {w : World} {K : KV} (h : pacelinelaw04_CalendarDays t0 t1 w K) : Cl prog 10 #[t0, t1] w K :=
  ⟨by kernel_rfl, calls_of_F (fn := fn10) (nt := 79) (rs := [4]) mixed fnAt10 (by kernel_rfl) (by kernel_rfl) (by kernel_rfl) (Nat.le_of_ble_eq_true (by kernel_rfl)) pacelinelaw04_CalendarDays_ok (pacelinelaw04_CalendarDays_eq t0 t1 w K) h⟩

/-- paceline/pacelinelaw14.GateOpens -/
def pacelinelaw14_GateOpens (t0 t1 : Value) (w : World) (K : KV) : Prop :=
  lnS t0 w fun t12 w =>
  bi .gtr .i64 t12 (Value.int IntKind.i64 200) w fun t13 w =>
  iff' t13
  (K (Value.bool true) w)
  (Cl prog 61 #[] w fun t14 w =>
  lp [(Value.int IntKind.i64 0)] w (b1 fun t6 w g1 =>
  lnS t0 w fun t17 w =>
  bi .lss .i64 t6 t17 w fun t18 w =>
  iff' t18
  (dr w fun w =>
  ixS 1 t0 t6 w fun t24 _ =>
  ld1 t24 w fun t25 _ =>
  cvI .i64 t25 w fun t26 _ =>
  ixS 1 t0 t6 w fun t30 _ =>
  ld1 t30 w fun t31 _ =>
  cvI .i64 t31 w fun t32 _ =>
  (bld (zeroD prog 61) #[(0, 1), (1, 1), (2, 1)] [(0, t26)] w fun t27 w =>
  (ld1 t30 w (fun v' w'' => v' = t31 ∧ w'' = w)) ∧ (bld (zeroD prog 61) #[(0, 1), (1, 1), (2, 1)] [(0, t32), (2, t6)] w fun t34 w =>
  (ld1 t24 w (fun v' w'' => v' = t25 ∧ w'' = w)) ∧ (bld (zeroD prog 63) #[(0, 3), (3, 1), (4, 1), (5, 1)] [(0, t34)] w fun t35 w =>
  (ld1 t24 w (fun v' w'' => v' = t25 ∧ w'' = w)) ∧ (Cl prog 62 #[t14, t27, t35] w fun t36 w =>
  bi .neq .i64 t36 (Value.int IntKind.i64 0) w fun t37 _ =>
  iff' t37
  (K (Value.bool false) w)
  (bi .add .i64 t6 (Value.int IntKind.i64 1) w fun t20 w =>
  g1 [t20] w))))) ∧ (bld (zeroD prog 61) #[(0, 1), (1, 1), (2, 1)] [(0, t32), (2, t6)] w fun t34_1 w =>
  (ld1 t24 w (fun v' w'' => v' = t25 ∧ w'' = w)) ∧ ((bld (zeroD prog 61) #[(0, 1), (1, 1), (2, 1)] [(0, t26)] w fun t27_1 w =>
  (ld1 t30 w (fun v' w'' => v' = t31 ∧ w'' = w)) ∧ (bld (zeroD prog 63) #[(0, 3), (3, 1), (4, 1), (5, 1)] [(0, t34_1)] w fun t35_1 w =>
  (ld1 t24 w (fun v' w'' => v' = t25 ∧ w'' = w)) ∧ (Cl prog 62 #[t14, t27_1, t35_1] w fun t36_1 w =>
  bi .neq .i64 t36_1 (Value.int IntKind.i64 0) w fun t37_1 _ =>
  iff' t37_1
  (K (Value.bool false) w)
  (bi .add .i64 t6 (Value.int IntKind.i64 1) w fun t20_1 w =>
  g1 [t20_1] w)))) ∧ (bld (zeroD prog 63) #[(0, 3), (3, 1), (4, 1), (5, 1)] [(0, t34_1)] w fun t35_2 w =>
  (ld1 t24 w (fun v' w'' => v' = t25 ∧ w'' = w)) ∧ (bld (zeroD prog 61) #[(0, 1), (1, 1), (2, 1)] [(0, t26)] w fun t27_2 w =>
  (ld1 t30 w (fun v' w'' => v' = t31 ∧ w'' = w)) ∧ (Cl prog 62 #[t14, t27_2, t35_2] w fun t36_2 w =>
  bi .neq .i64 t36_2 (Value.int IntKind.i64 0) w fun t37_2 _ =>
  iff' t37_2
  (K (Value.bool false) w)
  (bi .add .i64 t6 (Value.int IntKind.i64 1) w fun t20_2 w =>
  g1 [t20_2] w)))))))
  (cvI .i64 t1 w fun t40 w =>
  Cl prog 63 #[t14, t40] w fun t41 w =>
  lp [(Value.int IntKind.i64 0), (Value.int IntKind.i64 0)] w (b2 fun t8 t9 w g2 =>
  lnS t0 w fun t44 w =>
  bi .lss .i64 t9 t44 w fun t45 w =>
  iff' t45
  (J1 (fun t8_1 w =>
  bi .add .i64 t9 (Value.int IntKind.i64 1) w fun t47 w =>
  g2 [t8_1, t47] w) fun k3 =>
  ixS 1 t0 t9 w fun t50 w =>
  ld1 t50 w fun t51 w =>
  cvI .i64 t51 w fun t52 w =>
  cvI .i64 t1 w fun t54 w =>
  bi .lss .i64 t52 t54 w fun t55 w =>
  iff' t55
  (bi .add .i64 t8 (Value.int IntKind.i64 1) w fun t57 w =>
  k3 t57 w)
  (k3 t8 w))
  (lnS t41 w fun t59 w =>
  bi .neq .i64 t59 t8 w fun t61 w =>
  gd t61 false (fun k => k t14 w) w fun t63 w =>
  gd t61 false (fun k => Cl prog 64 #[t63] w k) w fun t64 w =>
  gd t61 false (fun k => lnS t64 w k) w fun t65 w =>
  gd t61 false (fun k => k t0 w) w fun t66 w =>
  gd t61 false (fun k => lnS t66 w k) w fun t67 w =>
  gd t61 false (fun k => k t8 w) w fun t68 w =>
  gd t61 false (fun k => bi .sub .i64 t67 t68 w k) w fun t69 w =>
  gd t61 false (fun k => bi .neq .i64 t65 t69 w k) w fun t70 w =>
  pk t61 (Value.bool true) t70 w fun t71 w =>
  gd t71 false (fun k => k t14 w) w fun t73 w =>
  gd t71 false (fun k => Cl prog 65 #[t73] w k) w fun t74 w =>
  gd t71 false (fun k => k t1 w) w fun t75 w =>
  gd t71 false (fun k => cvI .i64 t75 w k) w fun t76 w =>
  gd t71 false (fun k => bi .neq .i64 t74 t76 w k) w fun t77 w =>
  pk t71 (Value.bool true) t77 w fun t78 w =>
  iff' t78
  (K (Value.bool false) w)
  (lp [(Value.int IntKind.i64 0)] w (b1 fun t10 w g4 =>
  lnS t41 w fun t81 w =>
  bi .lss .i64 t10 t81 w fun t82 w =>
  iff' t82
  (dr w fun w =>
  ixS 6 t41 t10 w fun t87 _ =>
  fld 0 t87 w fun t88 _ =>
  fld 0 t88 w fun t89 _ =>
  ld1 t89 w fun t90 _ =>
  cvI .i64 t1 w fun t92 _ =>
  bi .geq .i64 t90 t92 w fun t93 _ =>
  gd t93 false (fun k => k t10 w) w fun t95 _ =>
  gd t93 false (fun k => bi .gtr .i64 t95 (Value.int IntKind.i64 0) w k) w fun t96 _ =>
  gd t93 false (fun k => k t96 w) w fun t97 _ =>
  gd t97 true (fun k => k t41 w) w fun t98 _ =>
  gd t97 true (fun k => k t10 w) w fun t99 _ =>
  gd t97 true (fun k => bi .sub .i64 t99 (Value.int IntKind.i64 1) w k) w fun t100 _ =>
  gd t97 true (fun k => ixS 6 t98 t100 w k) w fun t101 _ =>
  gd t97 true (fun k => fld 0 t101 w k) w fun t102 _ =>
  gd t97 true (fun k => ldN 3 t102 w k) w fun t103 _ =>
  gd t97 true (fun k => k t41 w) w fun t104 _ =>
  gd t97 true (fun k => k t10 w) w fun t105 _ =>
  gd t97 true (fun k => ixS 6 t104 t105 w k) w fun t106 _ =>
  gd t97 true (fun k => fld 0 t106 w k) w fun t107 _ =>
  gd t97 true (fun k => ldN 3 t107 w k) w fun t108 _ =>
  gd t97 true (fun k => Cl prog 55 #[t103, t108] w k) w fun t109 w =>
  gd t97 true (fun k => bi .geq .i64 t109 (Value.int IntKind.i64 0) w k) w fun t110 _ =>
  gd t93 false (fun k => pk t97 t110 (Value.bool false) w k) w fun t111 _ =>
  pk t93 (Value.bool true) t111 w fun t112 _ =>
  iff' t112
  (K (Value.bool false) w)
  (bi .add .i64 t10 (Value.int IntKind.i64 1) w fun t84 w =>
  g4 [t84] w))
  (cvI .i64 t1 w fun t115 w =>
  bi .sub .i64 t115 (Value.int IntKind.i64 1) w fun t116 w =>
  bld (zeroD prog 61) #[(0, 1), (1, 1), (2, 1)] [(0, t116)] w fun t117 w =>
  bld (zeroD prog 63) #[(0, 3), (3, 1), (4, 1), (5, 1)] [] w fun t118 w =>
  Cl prog 62 #[t14, t117, t118] w fun t119 w =>
  bi .eql .i64 t119 (Value.int IntKind.i64 110) w fun t120 w =>
  gd t120 true (fun k => k t14 w) w fun t122 w =>
  gd t120 true (fun k => k t1 w) w fun t123 w =>
  gd t120 true (fun k => cvI .i64 t123 w k) w fun t124 w =>
  gd t120 true (fun k => bld (zeroD prog 61) #[(0, 1), (1, 1), (2, 1)] [(0, t124)] w k) w fun t125 w =>
  gd t120 true (fun k => bld (zeroD prog 63) #[(0, 3), (3, 1), (4, 1), (5, 1)] [] w k) w fun t126 w =>
  gd t120 true (fun k => Cl prog 62 #[t122, t125, t126] w k) w fun t127 w =>
  gd t120 true (fun k => bi .eql .i64 t127 (Value.int IntKind.i64 0) w k) w fun t128 w =>
  pk t120 t128 (Value.bool false) w fun t129 w =>
  K t129 w))))))))
theorem pacelinelaw14_GateOpens_eq (t0 t1 : Value) (w : World) (K : KV) : pacelinelaw14_GateOpens t0 t1 w K = fnW prog 130 [4] (match fn11.body with | some c => c | none => .skip) #[t0, t1] w K := by kernel_rfl
theorem pacelinelaw14_GateOpens_ok : fnOk prog 130 [4] (match fn11.body with | some c => c | none => .skip) = true := by kernel_rfl
theorem pacelinelaw14_GateOpens_calls {t0 t1 : Value} {w : World} {K : KV} (h : pacelinelaw14_GateOpens t0 t1 w K) : Cl prog 11 #[t0, t1] w K :=
  ⟨by kernel_rfl, calls_of_F (fn := fn11) (nt := 130) (rs := [4]) mixed fnAt11 (by kernel_rfl) (by kernel_rfl) (by kernel_rfl) (Nat.le_of_ble_eq_true (by kernel_rfl)) pacelinelaw14_GateOpens_ok (pacelinelaw14_GateOpens_eq t0 t1 w K) h⟩

/-- paceline/pacelinelaw14.GateParts -/
def pacelinelaw14_GateParts (t0 t1 t2 : Value) (w : World) (K : KV) : Prop :=
  lnS t0 w fun t16 w =>
  bi .gtr .i64 t16 (Value.int IntKind.i64 200) w fun t17 w =>
  iff' t17
  (K (Value.bool true) w)
  (Cl prog 61 #[] w fun t18 w =>
  Cl prog 61 #[] w fun t19 w =>
  lp [(Value.int IntKind.i64 0)] w (b1 fun t9 w g1 =>
  lnS t0 w fun t22 w =>
  bi .lss .i64 t9 t22 w fun t23 w =>
  iff' t23
  (ixS 1 t0 t9 w fun t28 w =>
  ld1 t28 w fun t29 w =>
  cvI .i64 t29 w fun t30 w =>
  bld (zeroD prog 61) #[(0, 1), (1, 1), (2, 1)] [(0, t30)] w fun t31 w =>
  al (zeroD prog 61) 61 w fun t10 w =>
  stN 3 t10 t31 w fun _ w =>
  ixS 1 t0 t9 w fun t34 w =>
  ld1 t34 w fun t35 w =>
  cvI .i64 t35 w fun t36 w =>
  bld (zeroD prog 61) #[(0, 1), (1, 1), (2, 1)] [(0, t36), (2, t9)] w fun t38 w =>
  bld (zeroD prog 63) #[(0, 3), (3, 1), (4, 1), (5, 1)] [(0, t38)] w fun t39 w =>
  al (zeroD prog 63) 63 w fun t11 w =>
  stN 6 t11 t39 w fun _ w =>
  ldN 3 t10 w fun t41 w =>
  ldN 6 t11 w fun t42 w =>
  Cl prog 62 #[t18, t41, t42] w fun t43 w =>
  bi .neq .i64 t43 (Value.int IntKind.i64 0) w fun t44 w =>
  gd t44 false (fun k => k t19 w) w fun t46 w =>
  gd t44 false (fun k => ldN 3 t10 w k) w fun t47 w =>
  gd t44 false (fun k => ldN 6 t11 w k) w fun t48 w =>
  gd t44 false (fun k => Cl prog 62 #[t46, t47, t48] w k) w fun t49 w =>
  gd t44 false (fun k => bi .neq .i64 t49 (Value.int IntKind.i64 0) w k) w fun t50 w =>
  pk t44 (Value.bool true) t50 w fun t51 w =>
  iff' t51
  (K (Value.bool false) w)
  (bi .add .i64 t9 (Value.int IntKind.i64 1) w fun t25 w =>
  g1 [t25] w))
  (mnI .u8 t1 t2 w fun t55 w =>
  cvI .i64 t55 w fun t56 w =>
  Cl prog 63 #[t18, t56] w fun t57 w =>
  mxI .u8 t1 t2 w fun t61 w =>
  cvI .i64 t61 w fun t62 w =>
  Cl prog 63 #[t18, t62] w fun t63 w =>
  bsl 63 6 0 #[] [] w fun t64 w =>
  apS prog #[78, 78] 78 t64 t57 w fun t67 w =>
  apS prog #[78, 78] 78 t67 t63 w fun t70 w =>
  mxI .u8 t1 t2 w fun t75 w =>
  cvI .i64 t75 w fun t76 w =>
  Cl prog 63 #[t19, t76] w fun t77 w =>
  Cl prog 66 #[t70, t77] w fun t78 w =>
  gd t78 true (fun k => k t18 w) w fun t80 w =>
  gd t78 true (fun k => Cl prog 64 #[t80] w k) w fun t81 w =>
  gd t78 true (fun k => k t19 w) w fun t82 w =>
  gd t78 true (fun k => Cl prog 64 #[t82] w k) w fun t83 w =>
  gd t78 true (fun k => Cl prog 66 #[t81, t83] w k) w fun t84 w =>
  pk t78 t84 (Value.bool false) w fun t85 w =>
  gd t85 true (fun k => k t18 w) w fun t87 w =>
  gd t85 true (fun k => Cl prog 65 #[t87] w k) w fun t88 w =>
  gd t85 true (fun k => k t19 w) w fun t89 w =>
  gd t85 true (fun k => Cl prog 65 #[t89] w k) w fun t90 w =>
  gd t85 true (fun k => bi .eql .i64 t88 t90 w k) w fun t91 w =>
  pk t85 t91 (Value.bool false) w fun t92 w =>
  gd t92 true (fun k => k t18 w) w fun t94 w =>
  gd t92 true (fun k => bld (zeroD prog 61) #[(0, 1), (1, 1), (2, 1)] [(0, (Value.int IntKind.i64 (-1)))] w k) w fun t95 w =>
  gd t92 true (fun k => bld (zeroD prog 63) #[(0, 3), (3, 1), (4, 1), (5, 1)] [] w k) w fun t96 w =>
  gd t92 true (fun k => Cl prog 62 #[t94, t95, t96] w k) w fun t97 w =>
  gd t92 true (fun k => bi .eql .i64 t97 (Value.int IntKind.i64 110) w k) w fun t98 w =>
  pk t92 t98 (Value.bool false) w fun t99 w =>
  K t99 w)))
theorem pacelinelaw14_GateParts_eq (t0 t1 t2 : Value) (w : World) (K : KV) : pacelinelaw14_GateParts t0 t1 t2 w K = fnW prog 100 [6] (match fn12.body with | some c => c | none => .skip) #[t0, t1, t2] w K := by kernel_rfl
theorem pacelinelaw14_GateParts_ok : fnOk prog 100 [6] (match fn12.body with | some c => c | none => .skip) = true := by kernel_rfl
theorem pacelinelaw14_GateParts_calls {t0 t1 t2 : Value} {w : World} {K : KV} (h : pacelinelaw14_GateParts t0 t1 t2 w K) : Cl prog 12 #[t0, t1, t2] w K :=
  ⟨by kernel_rfl, calls_of_F (fn := fn12) (nt := 100) (rs := [6]) mixed fnAt12 (by kernel_rfl) (by kernel_rfl) (by kernel_rfl) (Nat.le_of_ble_eq_true (by kernel_rfl)) pacelinelaw14_GateParts_ok (pacelinelaw14_GateParts_eq t0 t1 t2 w K) h⟩

/-- paceline/pacelinelaw14.GateOnce -/
def pacelinelaw14_GateOnce (t0 : Value) (w : World) (K : KV) : Prop :=
  lnS t0 w fun t13 w =>
  bi .gtr .i64 t13 (Value.int IntKind.i64 200) w fun t14 w =>
  iff' t14
  (K (Value.bool true) w)
  (Cl prog 61 #[] w fun t15 w =>
  lp [(Value.int IntKind.i64 0), (Value.int IntKind.i64 0), (Value.int IntKind.i64 0)] w (b3 fun t4 t5 t6 w g1 =>
  lnS t0 w fun t18 w =>
  bi .lss .i64 t6 t18 w fun t19 w =>
  iff' t19
  (ixS 10 t0 t6 w fun t24 w =>
  ldN 10 t24 w fun t25 w =>
  al (zeroD prog 104) 104 w fun t7 w =>
  stN 10 t7 t25 w fun _ w =>
  fld 4 t7 w fun t27 w =>
  fld 5 t27 w fun t28 w =>
  stN 1 t28 t6 w fun _ w =>
  fld 0 t7 w fun t29 w =>
  ld1 t29 w fun t30 w =>
  J2 (fun t4_1 t5_1 w =>
  Cl prog 64 #[t15] w fun t75 w =>
  lnS t75 w fun t77 w =>
  bi .sub .i64 t4_1 t5_1 w fun t80 w =>
  bi .neq .i64 t77 t80 w fun t81 w =>
  iff' t81
  (K (Value.bool false) w)
  (lp [(Value.int IntKind.i64 1)] w (b1 fun t11 w g3 =>
  lnS t75 w fun t84 w =>
  bi .lss .i64 t11 t84 w fun t85 w =>
  iff' t85
  (dr w fun w =>
  bi .sub .i64 t11 (Value.int IntKind.i64 1) w fun t90 _ =>
  ixS 6 t75 t90 w fun t91 _ =>
  fld 5 t91 w fun t92 _ =>
  ld1 t92 w fun t93 _ =>
  ixS 6 t75 t11 w fun t96 _ =>
  fld 5 t96 w fun t97 _ =>
  ld1 t97 w fun t98 _ =>
  bi .geq .i64 t93 t98 w fun t99 _ =>
  iff' t99
  (K (Value.bool false) w)
  (bi .add .i64 t11 (Value.int IntKind.i64 1) w fun t87 w =>
  g3 [t87] w))
  (bi .add .i64 t6 (Value.int IntKind.i64 1) w fun t21 w =>
  g1 [t4_1, t5_1, t21] w)))) fun k2 =>
  bi .eql .i64 t30 (Value.int IntKind.i64 0) w fun t32 w =>
  iff' t32
  (fld 1 t7 w fun t34 w =>
  ldN 3 t34 w fun t35 w =>
  fld 4 t7 w fun t36 w =>
  ldN 6 t36 w fun t37 w =>
  Cl prog 62 #[t15, t35, t37] w fun t38 w =>
  bi .eql .i64 t38 (Value.int IntKind.i64 0) w fun t39 w =>
  iff' t39
  (bi .add .i64 t4 (Value.int IntKind.i64 1) w fun t41 w =>
  k2 t41 t5 w)
  (k2 t4 t5 w))
  (bi .eql .i64 t30 (Value.int IntKind.i64 1) w fun t43 w =>
  iff' t43
  (fld 1 t7 w fun t46 w =>
  ldN 3 t46 w fun t47 w =>
  Cl prog 67 #[t15, t47] w fun t48 w =>
  lnS t48 w fun t49 w =>
  bi .add .i64 t5 t49 w fun t50 w =>
  k2 t4 t50 w)
  (bi .eql .i64 t30 (Value.int IntKind.i64 2) w fun t52 w =>
  iff' t52
  (fld 1 t7 w fun t55 w =>
  fld 0 t55 w fun t56 w =>
  ld1 t56 w fun t57 w =>
  Cl prog 63 #[t15, t57] w fun t58 w =>
  lnS t58 w fun t59 w =>
  bi .add .i64 t5 t59 w fun t60 w =>
  k2 t4 t60 w)
  (bi .eql .i64 t30 (Value.int IntKind.i64 3) w fun t62 w =>
  iff' t62
  (fld 4 t7 w fun t65 w =>
  fld 0 t65 w fun t66 w =>
  ldN 3 t66 w fun t67 w =>
  Cl prog 68 #[t15, t67] w fun t68 w =>
  xt 0 t68 w fun t69 w =>
  xt 1 t68 w fun _ w =>
  bi .add .i64 t5 t69 w fun t73 w =>
  k2 t4 t73 w)
  (k2 t4 t5 w)))))
  (bld (zeroD prog 61) #[(0, 1), (1, 1), (2, 1)] [(0, (Value.int IntKind.i64 (-9)))] w fun t101 w =>
  bld (zeroD prog 63) #[(0, 3), (3, 1), (4, 1), (5, 1)] [] w fun t102 w =>
  Cl prog 62 #[t15, t101, t102] w fun t103 w =>
  bi .eql .i64 t103 (Value.int IntKind.i64 110) w fun t104 w =>
  K t104 w)))
theorem pacelinelaw14_GateOnce_eq (t0 : Value) (w : World) (K : KV) : pacelinelaw14_GateOnce t0 w K = fnW prog 105 [2] (match fn13.body with | some c => c | none => .skip) #[t0] w K := by kernel_rfl
theorem pacelinelaw14_GateOnce_ok : fnOk prog 105 [2] (match fn13.body with | some c => c | none => .skip) = true := by kernel_rfl
theorem pacelinelaw14_GateOnce_calls {t0 : Value} {w : World} {K : KV} (h : pacelinelaw14_GateOnce t0 w K) : Cl prog 13 #[t0] w K :=
  ⟨by kernel_rfl, calls_of_F (fn := fn13) (nt := 105) (rs := [2]) mixed fnAt13 (by kernel_rfl) (by kernel_rfl) (by kernel_rfl) (Nat.le_of_ble_eq_true (by kernel_rfl)) pacelinelaw14_GateOnce_ok (pacelinelaw14_GateOnce_eq t0 w K) h⟩

/-- paceline/pacelinelaw14.GateScript -/
def pacelinelaw14_GateScript (t0 : Value) (w : World) (K : KV) : Prop :=
  lnS t0 w fun t12 w =>
  bi .gtr .i64 t12 (Value.int IntKind.i64 300) w fun t13 w =>
  iff' t13
  (K (Value.bool true) w)
  (Cl prog 61 #[] w fun t14 w =>
  Cl prog 69 #[] w fun t15 w =>
  bn .eql t14 w fun t17 w =>
  iff' t17
  (K (Value.bool false) w)
  (lp [(Value.int IntKind.i64 0)] w (b1 fun t5 w g1 =>
  lnS t0 w fun t20 w =>
  bi .lss .i64 t5 t20 w fun t21 w =>
  iff' t21
  (ixS 10 t0 t5 w fun t26 w =>
  ldN 10 t26 w fun t27 w =>
  al (zeroD prog 104) 104 w fun t6 w =>
  stN 10 t6 t27 w fun _ w =>
  fld 0 t6 w fun t28 w =>
  ld1 t28 w fun t29 w =>
  J0 (fun w =>
  dr w fun w =>
  ncP t15 <|
  fld 0 t15 w fun t101 _ =>
  ld1 t101 w fun t102 _ =>
  Cl prog 65 #[t14] w fun t98 w =>
  (ld1 t101 w (fun v' w'' => v' = t102 ∧ w'' = w)) ∧ (bi .neq .i64 t98 t102 w fun t103 _ =>
  gd t103 false (fun k => k t14 w) w fun t105 _ =>
  gd t103 false (fun k => k t15 w) w fun t107 _ =>
  gd t103 false (fun k => Cl prog 64 #[t105] w k) w fun t106 w =>
  gd t103 false (fun k => Cl prog 74 #[t107] w k) w fun t108 w =>
  gd t103 false (fun k => Cl prog 66 #[t106, t108] w k) w fun t109 w =>
  gd t103 false (fun k => bnot t109 w k) w fun t110 _ =>
  pk t103 (Value.bool true) t110 w fun t111 _ =>
  iff' t111
  (K (Value.bool false) w)
  (bi .add .i64 t5 (Value.int IntKind.i64 1) w fun t23 w =>
  g1 [t23] w))) fun k2 =>
  bi .eql .i64 t29 (Value.int IntKind.i64 0) w fun t31 w =>
  iff' t31
  (dr w fun w =>
  fld 1 t6 w fun t33 _ =>
  ldN 3 t33 w fun t34 _ =>
  fld 4 t6 w fun t35 _ =>
  ldN 6 t35 w fun t36 _ =>
  fld 1 t6 w fun t39 _ =>
  ldN 3 t39 w fun t40 _ =>
  fld 4 t6 w fun t41 _ =>
  ldN 6 t41 w fun t42 _ =>
  Cl prog 62 #[t14, t34, t36] w fun t37 w =>
  (ldN 6 t41 w (fun v' w'' => v' = t42 ∧ w'' = w)) ∧ ((ldN 3 t39 w (fun v' w'' => v' = t40 ∧ w'' = w)) ∧ (Cl prog 70 #[t15, t40, t42] w fun t43 w =>
  bi .neq .i64 t37 t43 w fun t44 _ =>
  iff' t44
  (K (Value.bool false) w)
  (k2 w))))
  (bi .eql .i64 t29 (Value.int IntKind.i64 1) w fun t46 w =>
  iff' t46
  (dr w fun w =>
  fld 1 t6 w fun t48 _ =>
  ldN 3 t48 w fun t49 _ =>
  fld 1 t6 w fun t52 _ =>
  ldN 3 t52 w fun t53 _ =>
  Cl prog 67 #[t14, t49] w fun t50 w =>
  (ldN 3 t52 w (fun v' w'' => v' = t53 ∧ w'' = w)) ∧ (Cl prog 71 #[t15, t53] w fun t54 w =>
  Cl prog 66 #[t50, t54] w fun t55 w =>
  bnot t55 w fun t56 _ =>
  iff' t56
  (K (Value.bool false) w)
  (k2 w)))
  (bi .eql .i64 t29 (Value.int IntKind.i64 2) w fun t58 w =>
  iff' t58
  (dr w fun w =>
  fld 1 t6 w fun t60 _ =>
  fld 0 t60 w fun t61 _ =>
  ld1 t61 w fun t62 _ =>
  fld 1 t6 w fun t65 _ =>
  fld 0 t65 w fun t66 _ =>
  ld1 t66 w fun t67 _ =>
  Cl prog 63 #[t14, t62] w fun t63 w =>
  (ld1 t66 w (fun v' w'' => v' = t67 ∧ w'' = w)) ∧ (Cl prog 72 #[t15, t67] w fun t68 w =>
  Cl prog 66 #[t63, t68] w fun t69 w =>
  bnot t69 w fun t70 _ =>
  iff' t70
  (K (Value.bool false) w)
  (k2 w)))
  (bi .eql .i64 t29 (Value.int IntKind.i64 3) w fun t72 w =>
  iff' t72
  (fld 4 t6 w fun t75 w =>
  fld 0 t75 w fun t76 w =>
  ldN 3 t76 w fun t77 w =>
  Cl prog 68 #[t14, t77] w fun t78 w =>
  xt 0 t78 w fun t79 w =>
  xt 1 t78 w fun t80 w =>
  fld 4 t6 w fun t83 w =>
  fld 0 t83 w fun t84 w =>
  ldN 3 t84 w fun t85 w =>
  Cl prog 73 #[t15, t85] w fun t86 w =>
  xt 0 t86 w fun t87 w =>
  xt 1 t86 w fun t88 w =>
  bi .neq .i64 t79 t87 w fun t91 w =>
  gd t91 false (fun k => k t80 w) w fun t93 w =>
  gd t91 false (fun k => k t88 w) w fun t94 w =>
  gd t91 false (fun k => bi .neq .i64 t93 t94 w k) w fun t95 w =>
  pk t91 (Value.bool true) t95 w fun t96 w =>
  iff' t96
  (K (Value.bool false) w)
  (k2 w))
  (k2 w)))))
  (bld (zeroD prog 61) #[(0, 1), (1, 1), (2, 1)] [(0, (Value.int IntKind.i64 (-9)))] w fun t113 w =>
  bld (zeroD prog 63) #[(0, 3), (3, 1), (4, 1), (5, 1)] [] w fun t114 w =>
  Cl prog 62 #[t14, t113, t114] w fun t115 w =>
  bi .eql .i64 t115 (Value.int IntKind.i64 110) w fun t116 w =>
  K t116 w))))
theorem pacelinelaw14_GateScript_eq (t0 : Value) (w : World) (K : KV) : pacelinelaw14_GateScript t0 w K = fnW prog 117 [2] (match fn14.body with | some c => c | none => .skip) #[t0] w K := by kernel_rfl
theorem pacelinelaw14_GateScript_ok : fnOk prog 117 [2] (match fn14.body with | some c => c | none => .skip) = true := by kernel_rfl
theorem pacelinelaw14_GateScript_calls {t0 : Value} {w : World} {K : KV} (h : pacelinelaw14_GateScript t0 w K) : Cl prog 14 #[t0] w K :=
  ⟨by kernel_rfl, calls_of_F (fn := fn14) (nt := 117) (rs := [2]) mixed fnAt14 (by kernel_rfl) (by kernel_rfl) (by kernel_rfl) (Nat.le_of_ble_eq_true (by kernel_rfl)) pacelinelaw14_GateScript_ok (pacelinelaw14_GateScript_eq t0 w K) h⟩

end Go.Proofs.Ytdiglafiimnfoaa
