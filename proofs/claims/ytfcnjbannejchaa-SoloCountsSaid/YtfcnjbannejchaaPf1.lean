/- Printed by prt.py: the Go functions of this seat as shallow predicate transformers. Conditions: none. -/
import Derived.Test.YtfcnjbannejchaaEngO
import Derived.Test.YtfcnjbannejchaaEngZ
import Derived.Test.YtfcnjbannejchaaPfHead
import Derived.KernelRfl
namespace Go.Proofs.Ytfcnjbannejchaa
open Go Go.E
set_option linter.unusedVariables false
set_option maxRecDepth 100000
/-- (*paceline/solo.Run).push -/
def solo_Run_push (t0 t1 : Value) (w : World) (K : KV) : Prop :=
  al (Value.cells t1) 37 w fun t3 w =>
  dr w fun w =>
  ncP t0 <|
  fld 4 t0 w fun t6 _ =>
  ldN 6 t3 w fun t8 _ =>
  Cl prog 50 #[(Value.iface 77 t6), (Value.iface 37 t8)] w fun _ w =>
  K (Value.tuple #[]) w
theorem solo_Run_push_eq (t0 t1 : Value) (w : World) (K : KV) : solo_Run_push t0 t1 w K = fnW prog 11 [] (match fn27.body with | some c => c | none => .skip) #[t0, t1] w K := by kernel_rfl
theorem solo_Run_push_ok : fnOk prog 11 [] (match fn27.body with | some c => c | none => .skip) = true := by kernel_rfl
theorem solo_Run_push_calls {t0 t1 : Value} {w : World} {K : KV} (h : solo_Run_push t0 t1 w K) : Cl prog 27 #[t0, t1] w K :=
  Cl.mk (by kernel_rfl) (calls_of_F (fn := fn27) (nt := 11) (rs := []) mixed fnAt27 (by kernel_rfl) (by kernel_rfl) (by kernel_rfl) (Nat.le_of_ble_eq_true (by kernel_rfl)) solo_Run_push_ok (solo_Run_push_eq t0 t1 w K) h)

/-- paceline/pacelineref05.Check -/
def pacelineref05_Check (t0 : Value) (w : World) (K : KV) : Prop :=
  lnS t0 w fun t5 w =>
  bi .lss .i64 t5 (Value.int IntKind.i64 1) w fun t6 w =>
  gd t6 false (fun k => k t0 w) w fun t8 w =>
  gd t6 false (fun k => lnS t8 w k) w fun t9 w =>
  gd t6 false (fun k => bi .gtr .i64 t9 (Value.int IntKind.i64 16) w k) w fun t10 w =>
  pk t6 (Value.bool true) t10 w fun t11 w =>
  iff' t11
  (K (Value.int IntKind.i64 50) w)
  (lp [(Value.int IntKind.i64 0)] w (b1 fun t3 w g1 =>
  lnS t0 w fun t14 w =>
  bi .lss .i64 t3 t14 w fun t15 w =>
  iff' t15
  (ixS 1 t0 t3 w fun t20 w =>
  ld1 t20 w fun t21 w =>
  bi .lss .i64 t21 (Value.int IntKind.i64 (-1)) w fun t22 w =>
  gd t22 false (fun k => k t0 w) w fun t24 w =>
  gd t22 false (fun k => k t3 w) w fun t25 w =>
  gd t22 false (fun k => ixS 1 t24 t25 w k) w fun t26 w =>
  gd t22 false (fun k => ld1 t26 w k) w fun t27 w =>
  gd t22 false (fun k => k t3 w) w fun t28 w =>
  gd t22 false (fun k => bi .geq .i64 t27 t28 w k) w fun t29 w =>
  pk t22 (Value.bool true) t29 w fun t30 w =>
  iff' t30
  (K (Value.int IntKind.i64 50) w)
  (bi .add .i64 t3 (Value.int IntKind.i64 1) w fun t17 w =>
  g1 [t17] w))
  (K (Value.int IntKind.i64 0) w)))
theorem pacelineref05_Check_eq (t0 : Value) (w : World) (K : KV) : pacelineref05_Check t0 w K = fnW prog 31 [2] (match fn28.body with | some c => c | none => .skip) #[t0] w K := by kernel_rfl
theorem pacelineref05_Check_ok : fnOk prog 31 [2] (match fn28.body with | some c => c | none => .skip) = true := by kernel_rfl
theorem pacelineref05_Check_calls {t0 : Value} {w : World} {K : KV} (h : pacelineref05_Check t0 w K) : Cl prog 28 #[t0] w K :=
  Cl.mk (by kernel_rfl) (calls_of_F (fn := fn28) (nt := 31) (rs := [2]) mixed fnAt28 (by kernel_rfl) (by kernel_rfl) (by kernel_rfl) (Nat.le_of_ble_eq_true (by kernel_rfl)) pacelineref05_Check_ok (pacelineref05_Check_eq t0 w K) h)

/-- paceline/pacelineref08.Fed -/
def pacelineref08_Fed (t0 t1 : Value) (w : World) (K : KV) : Prop :=
  al (Value.cells t0) 53 w fun t2 w =>
  fld 0 t2 w fun t10 w =>
  ld1 t10 w fun t11 w =>
  bi .neq .i64 t11 (Value.int IntKind.i64 0) w fun t12 w =>
  gd t12 true (fun k => fld 0 t2 w k) w fun t14 w =>
  gd t12 true (fun k => ld1 t14 w k) w fun t15 w =>
  gd t12 true (fun k => bi .neq .i64 t15 (Value.int IntKind.i64 1) w k) w fun t16 w =>
  pk t12 t16 (Value.bool false) w fun t17 w =>
  iff' t17
  (K (Value.int IntKind.i64 1) w)
  (fld 1 t2 w fun t18 w =>
  ld1 t18 w fun t19 w =>
  bi .lss .i64 t19 (Value.int IntKind.i64 1) w fun t20 w =>
  gd t20 false (fun k => fld 1 t2 w k) w fun t22 w =>
  gd t20 false (fun k => ld1 t22 w k) w fun t23 w =>
  gd t20 false (fun k => bi .gtr .i64 t23 (Value.int IntKind.i64 1048576) w k) w fun t24 w =>
  pk t20 (Value.bool true) t24 w fun t25 w =>
  iff' t25
  (K (Value.int IntKind.i64 80) w)
  (fld 2 t2 w fun t26 w =>
  ld1 t26 w fun t27 w =>
  bi .lss .i64 t27 (Value.int IntKind.i64 0) w fun t28 w =>
  gd t28 false (fun k => fld 2 t2 w k) w fun t30 w =>
  gd t28 false (fun k => ld1 t30 w k) w fun t31 w =>
  gd t28 false (fun k => bi .geq .i64 t31 (Value.int IntKind.i64 8) w k) w fun t32 w =>
  pk t28 (Value.bool true) t32 w fun t33 w =>
  gd t33 false (fun k => fld 3 t2 w k) w fun t35 w =>
  gd t33 false (fun k => ld1 t35 w k) w fun t36 w =>
  gd t33 false (fun k => Cl prog 51 #[t36] w k) w fun t37 w =>
  gd t33 false (fun k => bi .neq .i64 t37 (Value.int IntKind.i64 0) w k) w fun t38 w =>
  pk t33 (Value.bool true) t38 w fun t39 w =>
  iff' t39
  (K (Value.int IntKind.i64 70) w)
  (fld 4 t2 w fun t40 w =>
  ld1 t40 w fun t41 w =>
  Cl prog 52 #[t41, t1] w fun t43 w =>
  bnot t43 w fun t44 w =>
  gd t44 false (fun k => fld 5 t2 w k) w fun t46 w =>
  gd t44 false (fun k => ld1 t46 w k) w fun t47 w =>
  gd t44 false (fun k => k t1 w) w fun t48 w =>
  gd t44 false (fun k => Cl prog 52 #[t47, t48] w k) w fun t49 w =>
  gd t44 false (fun k => bnot t49 w k) w fun t50 w =>
  pk t44 (Value.bool true) t50 w fun t51 w =>
  iff' t51
  (K (Value.int IntKind.i64 81) w)
  (lp [(Value.int IntKind.i64 0)] w (b1 fun t5 w g1 =>
  fld 3 t2 w fun t53 w =>
  ld1 t53 w fun t54 w =>
  lnS t54 w fun t55 w =>
  bi .lss .i64 t5 t55 w fun t56 w =>
  iff' t56
  (fld 3 t2 w fun t59 w =>
  ld1 t59 w fun t60 w =>
  ixS 4 t60 t5 w fun t62 w =>
  fld 1 t62 w fun t63 w =>
  ld1 t63 w fun t64 w =>
  bi .geq .i64 t64 t1 w fun t66 w =>
  iff' t66
  (K (Value.int IntKind.i64 81) w)
  (lp [(Value.int IntKind.i64 0)] w (b1 fun t6 w g2 =>
  fld 3 t2 w fun t68 w =>
  ld1 t68 w fun t69 w =>
  ixS 4 t69 t5 w fun t71 w =>
  fld 3 t71 w fun t72 w =>
  ld1 t72 w fun t73 w =>
  lnS t73 w fun t74 w =>
  bi .lss .i64 t6 t74 w fun t75 w =>
  iff' t75
  (fld 3 t2 w fun t78 w =>
  ld1 t78 w fun t79 w =>
  ixS 4 t79 t5 w fun t81 w =>
  fld 3 t81 w fun t82 w =>
  ld1 t82 w fun t83 w =>
  ixS 3 t83 t6 w fun t85 w =>
  ldN 3 t85 w fun t86 w =>
  al (zeroD prog 63) 63 w fun t7 w =>
  stN 3 t7 t86 w fun _ w =>
  fld 4 t2 w fun t87 w =>
  ld1 t87 w fun t88 w =>
  fld 0 t7 w fun t89 w =>
  ld1 t89 w fun t90 w =>
  Cl prog 53 #[t88, t90] w fun t91 w =>
  bnot t91 w fun t92 w =>
  iff' t92
  (K (Value.int IntKind.i64 81) w)
  (fld 1 t7 w fun t93 w =>
  ld1 t93 w fun t94 w =>
  fld 1 t2 w fun t95 w =>
  ld1 t95 w fun t96 w =>
  bi .lss .i64 t94 t96 w fun t97 w =>
  iff' t97
  (K (Value.int IntKind.i64 80) w)
  (bi .add .i64 t6 (Value.int IntKind.i64 1) w fun t77 w =>
  g2 [t77] w)))
  (bi .add .i64 t5 (Value.int IntKind.i64 1) w fun t58 w =>
  g1 [t58] w))))
  (fld 6 t2 w fun t98 w =>
  ld1 t98 w fun t99 w =>
  lnS t99 w fun t100 w =>
  bi .gtr .i64 t100 (Value.int IntKind.i64 4) w fun t101 w =>
  iff' t101
  (K (Value.int IntKind.i64 82) w)
  (lp [(Value.int IntKind.i64 0)] w (b1 fun t8 w g3 =>
  fld 6 t2 w fun t103 w =>
  ld1 t103 w fun t104 w =>
  lnS t104 w fun t105 w =>
  bi .lss .i64 t8 t105 w fun t106 w =>
  iff' t106
  (fld 6 t2 w fun t109 w =>
  ld1 t109 w fun t110 w =>
  ixS 3 t110 t8 w fun t112 w =>
  ldN 3 t112 w fun t113 w =>
  al (zeroD prog 63) 63 w fun t9 w =>
  stN 3 t9 t113 w fun _ w =>
  fld 4 t2 w fun t114 w =>
  ld1 t114 w fun t115 w =>
  fld 0 t9 w fun t116 w =>
  ld1 t116 w fun t117 w =>
  Cl prog 53 #[t115, t117] w fun t118 w =>
  bnot t118 w fun t119 w =>
  gd t119 false (fun k => fld 1 t9 w k) w fun t121 w =>
  gd t119 false (fun k => ld1 t121 w k) w fun t122 w =>
  gd t119 false (fun k => bi .lss .i64 t122 (Value.int IntKind.i64 0) w k) w fun t123 w =>
  pk t119 (Value.bool true) t123 w fun t124 w =>
  gd t124 false (fun k => fld 1 t9 w k) w fun t126 w =>
  gd t124 false (fun k => ld1 t126 w k) w fun t127 w =>
  gd t124 false (fun k => bi .gtr .i64 t127 (Value.int IntKind.i64 1099511627776) w k) w fun t128 w =>
  pk t124 (Value.bool true) t128 w fun t129 w =>
  gd t129 false (fun k => fld 2 t9 w k) w fun t131 w =>
  gd t129 false (fun k => ld1 t131 w k) w fun t132 w =>
  gd t129 false (fun k => bi .lss .i64 t132 (Value.int IntKind.i64 0) w k) w fun t133 w =>
  pk t129 (Value.bool true) t133 w fun t134 w =>
  gd t134 false (fun k => fld 2 t9 w k) w fun t136 w =>
  gd t134 false (fun k => ld1 t136 w k) w fun t137 w =>
  gd t134 false (fun k => bi .geq .i64 t137 (Value.int IntKind.i64 1000) w k) w fun t138 w =>
  pk t134 (Value.bool true) t138 w fun t139 w =>
  iff' t139
  (K (Value.int IntKind.i64 82) w)
  (bi .add .i64 t8 (Value.int IntKind.i64 1) w fun t108 w =>
  g3 [t108] w))
  (K (Value.int IntKind.i64 0) w)))))))))
theorem pacelineref08_Fed_eq (t0 t1 : Value) (w : World) (K : KV) : pacelineref08_Fed t0 t1 w K = fnW prog 140 [4] (match fn29.body with | some c => c | none => .skip) #[t0, t1] w K := by kernel_rfl
theorem pacelineref08_Fed_ok : fnOk prog 140 [4] (match fn29.body with | some c => c | none => .skip) = true := by kernel_rfl
theorem pacelineref08_Fed_calls {t0 t1 : Value} {w : World} {K : KV} (h : pacelineref08_Fed t0 t1 w K) : Cl prog 29 #[t0, t1] w K :=
  Cl.mk (by kernel_rfl) (calls_of_F (fn := fn29) (nt := 140) (rs := [4]) mixed fnAt29 (by kernel_rfl) (by kernel_rfl) (by kernel_rfl) (Nat.le_of_ble_eq_true (by kernel_rfl)) pacelineref08_Fed_ok (pacelineref08_Fed_eq t0 t1 w K) h)

/-- container/heap.Pop -/
def heap_Pop (t0 : Value) (w : World) (K : KV) : Prop :=
  clI prog t0 "Len" #[] w fun t5 w =>
  bi .sub .i64 t5 (Value.int IntKind.i64 1) w fun t6 w =>
  clI prog t0 "Swap" #[(Value.int IntKind.i64 0), t6] w fun _ w =>
  Cl prog 54 #[t0, (Value.int IntKind.i64 0), t6] w fun _ w =>
  clI prog t0 "Pop" #[] w fun t14 w =>
  K t14 w
theorem heap_Pop_eq (t0 : Value) (w : World) (K : KV) : heap_Pop t0 w K = fnW prog 15 [2] (match fn30.body with | some c => c | none => .skip) #[t0] w K := by kernel_rfl
theorem heap_Pop_ok : fnOk prog 15 [2] (match fn30.body with | some c => c | none => .skip) = true := by kernel_rfl
theorem heap_Pop_calls {t0 : Value} {w : World} {K : KV} (h : heap_Pop t0 w K) : Cl prog 30 #[t0] w K :=
  Cl.mk (by kernel_rfl) (calls_of_F (fn := fn30) (nt := 15) (rs := [2]) mixed fnAt30 (by kernel_rfl) (by kernel_rfl) (by kernel_rfl) (Nat.le_of_ble_eq_true (by kernel_rfl)) heap_Pop_ok (heap_Pop_eq t0 w K) h)

/-- paceline/table.Step -/
def table_Step (t0 t1 t2 : Value) (w : World) (K : KV) : Prop :=
  Cl prog 55 #[t0, t1, t2] w fun t12 w =>
  bi .lss .i64 t12 (Value.int IntKind.i64 0) w fun t14 w =>
  iff' t14
  (K (Value.tuple #[t1, (Value.slice none 0 0)]) w)
  (dr w fun w =>
  ixS 4 t0 t12 w fun t18 _ =>
  fld 2 t18 w fun t19 _ =>
  ld1 t19 w fun t20 _ =>
  ixS 4 t0 t12 w fun t23 _ =>
  fld 3 t23 w fun t24 _ =>
  ld1 t24 w fun t25 _ =>
  Cl prog 48 #[t25] w fun t26 w =>
  (ld1 t19 w (fun v' w'' => v' = t20 ∧ w'' = w)) ∧ (K (Value.tuple #[t20, t26]) w))
theorem table_Step_eq (t0 t1 t2 : Value) (w : World) (K : KV) : table_Step t0 t1 t2 w K = fnW prog 27 [6, 7] (match fn31.body with | some c => c | none => .skip) #[t0, t1, t2] w K := by kernel_rfl
theorem table_Step_ok : fnOk prog 27 [6, 7] (match fn31.body with | some c => c | none => .skip) = true := by kernel_rfl
theorem table_Step_calls {t0 t1 t2 : Value} {w : World} {K : KV} (h : table_Step t0 t1 t2 w K) : Cl prog 31 #[t0, t1, t2] w K :=
  Cl.mk (by kernel_rfl) (calls_of_F (fn := fn31) (nt := 27) (rs := [6, 7]) mixed fnAt31 (by kernel_rfl) (by kernel_rfl) (by kernel_rfl) (Nat.le_of_ble_eq_true (by kernel_rfl)) table_Step_ok (table_Step_eq t0 t1 t2 w K) h)

/-- paceline/config.Spread -/
def config_Spread (t0 t1 t2 t3 t4 t5 : Value) (w : World) (K : KV) : Prop :=
  al (Value.cells t0) 25 w fun t6 w =>
  lnS t5 w fun t20 w =>
  lp [(Value.slice none 0 0), (Value.int IntKind.i64 0)] w (b2 fun t13 t21 w g1 =>
  bi .lss .i64 t21 t20 w fun t22 w =>
  iff' t22
  (ixS 3 t5 t21 w fun t24 w =>
  ldN 3 t24 w fun t25 w =>
  al (zeroD prog 63) 63 w fun t15 w =>
  stN 3 t15 t25 w fun _ w =>
  bi .add .i64 t2 t21 w fun t29 w =>
  ldN 3 t15 w fun t32 w =>
  Cl prog 56 #[t1, t29, t3, t4, t32] w fun t33 w =>
  al (zeroD prog 37) 37 w fun t16 w =>
  stN 6 t16 t33 w fun _ w =>
  ldN 3 t6 w fun t34 w =>
  fld 4 t16 w fun t36 w =>
  ld1 t36 w fun t37 w =>
  Cl prog 57 #[t34, t1, t37] w fun t38 w =>
  lnS t38 w fun t39 w =>
  lp [t13, (Value.int IntKind.i64 0)] w (b2 fun t13_1 t40 w g2 =>
  bi .lss .i64 t40 t39 w fun t41 w =>
  iff' t41
  (ixS 1 t38 t40 w fun t42 w =>
  ld1 t42 w fun t43 w =>
  fld 3 t16 w fun t45 w =>
  stN 1 t45 t43 w fun _ w =>
  ldN 6 t16 w fun t47 w =>
  bsl 37 6 1 (zeroD prog 37) [(0, t47)] w fun t48 w =>
  apS prog #[58, 58] 58 t13_1 t48 w fun t49 w =>
  bi .add .i64 t40 (Value.int IntKind.i64 1) w fun t50 w =>
  g2 [t49, t50] w)
  (bi .add .i64 t21 (Value.int IntKind.i64 1) w fun t51 w =>
  g1 [t13_1, t51] w)))
  (K t13 w))
theorem config_Spread_eq (t0 t1 t2 t3 t4 t5 : Value) (w : World) (K : KV) : config_Spread t0 t1 t2 t3 t4 t5 w K = fnW prog 53 [12] (match fn32.body with | some c => c | none => .skip) #[t0, t1, t2, t3, t4, t5] w K := by kernel_rfl
theorem config_Spread_ok : fnOk prog 53 [12] (match fn32.body with | some c => c | none => .skip) = true := by kernel_rfl
theorem config_Spread_calls {t0 t1 t2 t3 t4 t5 : Value} {w : World} {K : KV} (h : config_Spread t0 t1 t2 t3 t4 t5 w K) : Cl prog 32 #[t0, t1, t2, t3, t4, t5] w K :=
  Cl.mk (by kernel_rfl) (calls_of_F (fn := fn32) (nt := 53) (rs := [12]) mixed fnAt32 (by kernel_rfl) (by kernel_rfl) (by kernel_rfl) (Nat.le_of_ble_eq_true (by kernel_rfl)) config_Spread_ok (config_Spread_eq t0 t1 t2 t3 t4 t5 w K) h)

/-- slices.Clone[[]paceline/api.Done,paceline/api.Done] -/
def slices_Clone_api_Done_api_Done (t0 : Value) (w : World) (K : KV) : Prop :=
  bO prog .eql 42 (Operand.tmp 3) (Operand.const (Value.slice none 0 0)) t0 (Value.slice none 0 0) w fun t4 w =>
  iff' t4
  (K (Value.slice none 0 0) w)
  (bsl 39 7 0 #[] [] w fun t5 w =>
  apS prog #[42, 42] 42 t5 t0 w fun t7 w =>
  K t7 w)
theorem slices_Clone_api_Done_api_Done_eq (t0 : Value) (w : World) (K : KV) : slices_Clone_api_Done_api_Done t0 w K = fnW prog 8 [2] (match fn33.body with | some c => c | none => .skip) #[t0] w K := by kernel_rfl
theorem slices_Clone_api_Done_api_Done_ok : fnOk prog 8 [2] (match fn33.body with | some c => c | none => .skip) = true := by kernel_rfl
theorem slices_Clone_api_Done_api_Done_calls {t0 : Value} {w : World} {K : KV} (h : slices_Clone_api_Done_api_Done t0 w K) : Cl prog 33 #[t0] w K :=
  Cl.mk (by kernel_rfl) (calls_of_F (fn := fn33) (nt := 8) (rs := [2]) mixed fnAt33 (by kernel_rfl) (by kernel_rfl) (by kernel_rfl) (Nat.le_of_ble_eq_true (by kernel_rfl)) slices_Clone_api_Done_api_Done_ok (slices_Clone_api_Done_api_Done_eq t0 w K) h)

/-- paceline/pacelineref09.Put -/
def pacelineref09_Put (t0 t1 : Value) (w : World) (K : KV) : Prop :=
  lp [t0, (Value.int IntKind.i64 0)] w (b2 fun t0_1 t5 w g1 =>
  lnS t1 w fun t11 w =>
  bi .lss .i64 t5 t11 w fun t12 w =>
  iff' t12
  (bsl 37 6 0 #[] [] w fun t15 w =>
  lp [t15, (Value.bool false), (Value.int IntKind.i64 0)] w (b3 fun t6 t7 t8 w g2 =>
  lnS t0_1 w fun t18 w =>
  bi .lss .i64 t8 t18 w fun t19 w =>
  iff' t19
  (dr w fun w =>
  bnot t7 w fun t23 _ =>
  gd t23 true (fun k => k t1 w) w fun t25 _ =>
  gd t23 true (fun k => k t5 w) w fun t26 _ =>
  gd t23 true (fun k => ixS 6 t25 t26 w k) w fun t27 _ =>
  gd t23 true (fun k => ldN 6 t27 w k) w fun t28 _ =>
  gd t23 true (fun k => k t0_1 w) w fun t29 _ =>
  gd t23 true (fun k => k t8 w) w fun t30 _ =>
  gd t23 true (fun k => ixS 6 t29 t30 w k) w fun t31 _ =>
  gd t23 true (fun k => ldN 6 t31 w k) w fun t32 _ =>
  gd t23 true (fun k => Cl prog 58 #[t28, t32] w k) w fun t33 w =>
  pk t23 t33 (Value.bool false) w fun t34 _ =>
  J2 (fun t6_1 t7_1 w =>
  ixS 6 t0_1 t8 w fun t45 w =>
  ldN 6 t45 w fun t46 w =>
  bsl 37 6 1 (zeroD prog 37) [(0, t46)] w fun t47 w =>
  apS prog #[58, 58] 58 t6_1 t47 w fun t48 w =>
  bi .add .i64 t8 (Value.int IntKind.i64 1) w fun t21 w =>
  g2 [t48, t7_1, t21] w) fun k3 =>
  iff' t34
  (ixS 6 t1 t5 w fun t38 w =>
  ldN 6 t38 w fun t39 w =>
  bsl 37 6 1 (zeroD prog 37) [(0, t39)] w fun t40 w =>
  apS prog #[58, 58] 58 t6 t40 w fun t41 w =>
  k3 t41 (Value.bool true) w)
  (k3 t6 t7 w))
  (bnot t7 w fun t50 w =>
  J1 (fun t6_2 w =>
  bi .add .i64 t5 (Value.int IntKind.i64 1) w fun t14 w =>
  g1 [t6_2, t14] w) fun k4 =>
  iff' t50
  (ixS 6 t1 t5 w fun t54 w =>
  ldN 6 t54 w fun t55 w =>
  bsl 37 6 1 (zeroD prog 37) [(0, t55)] w fun t56 w =>
  apS prog #[58, 58] 58 t6 t56 w fun t57 w =>
  k4 t57 w)
  (k4 t6 w))))
  (K t0_1 w))
theorem pacelineref09_Put_eq (t0 t1 : Value) (w : World) (K : KV) : pacelineref09_Put t0 t1 w K = fnW prog 60 [4] (match fn34.body with | some c => c | none => .skip) #[t0, t1] w K := by kernel_rfl
theorem pacelineref09_Put_ok : fnOk prog 60 [4] (match fn34.body with | some c => c | none => .skip) = true := by kernel_rfl
theorem pacelineref09_Put_calls {t0 t1 : Value} {w : World} {K : KV} (h : pacelineref09_Put t0 t1 w K) : Cl prog 34 #[t0, t1] w K :=
  Cl.mk (by kernel_rfl) (calls_of_F (fn := fn34) (nt := 60) (rs := [4]) mixed fnAt34 (by kernel_rfl) (by kernel_rfl) (by kernel_rfl) (Nat.le_of_ble_eq_true (by kernel_rfl)) pacelineref09_Put_ok (pacelineref09_Put_eq t0 t1 w K) h)

/-- paceline/pacelineref08.Starts -/
def pacelineref08_Starts (t0 : Value) (w : World) (K : KV) : Prop :=
  al (Value.cells t0) 25 w fun t1 w =>
  bsl 37 6 0 #[] [] w fun t5 w =>
  lp [t5, (Value.int IntKind.i64 0)] w (b2 fun t3 t4 w g1 =>
  fld 1 t1 w fun t7 w =>
  ld1 t7 w fun t8 w =>
  lnS t8 w fun t9 w =>
  bi .lss .i64 t4 t9 w fun t10 w =>
  iff' t10
  (dr w fun w =>
  ldN 3 t1 w fun t14 _ =>
  fld 1 t1 w fun t16 _ =>
  ld1 t16 w fun t17 _ =>
  ixS 7 t17 t4 w fun t19 _ =>
  fld 6 t19 w fun t20 _ =>
  ld1 t20 w fun t21 _ =>
  Cl prog 59 #[t14, t4, (Value.int IntKind.i64 0), (Value.int IntKind.i64 0), (Value.int IntKind.i64 0), t21] w fun t22 w =>
  apS prog #[58, 58] 58 t3 t22 w fun t23 w =>
  bi .add .i64 t4 (Value.int IntKind.i64 1) w fun t12 w =>
  g1 [t23, t12] w)
  (K t3 w))
theorem pacelineref08_Starts_eq (t0 : Value) (w : World) (K : KV) : pacelineref08_Starts t0 w K = fnW prog 25 [2] (match fn35.body with | some c => c | none => .skip) #[t0] w K := by kernel_rfl
theorem pacelineref08_Starts_ok : fnOk prog 25 [2] (match fn35.body with | some c => c | none => .skip) = true := by kernel_rfl
theorem pacelineref08_Starts_calls {t0 : Value} {w : World} {K : KV} (h : pacelineref08_Starts t0 w K) : Cl prog 35 #[t0] w K :=
  Cl.mk (by kernel_rfl) (calls_of_F (fn := fn35) (nt := 25) (rs := [2]) mixed fnAt35 (by kernel_rfl) (by kernel_rfl) (by kernel_rfl) (Nat.le_of_ble_eq_true (by kernel_rfl)) pacelineref08_Starts_ok (pacelineref08_Starts_eq t0 w K) h)

/-- (*paceline/pacelineref09.Run).Next -/
def pacelineref09_Run_Next (t0 : Value) (w : World) (K : KV) : Prop :=
  al (zeroD prog 39) 39 w fun t2 w =>
  dr w fun w =>
  ncP t0 <|
  fld 5 t0 w fun t12 _ =>
  ld1 t12 w fun t13 _ =>
  lnS t13 w fun t14 _ =>
  bi .eql .i64 t14 (Value.int IntKind.i64 0) w fun t15 _ =>
  gd t15 false (fun k => k t0 w) w fun t17 _ =>
  gd t15 false (fun k => nc t17 w k) w fun t18 _ =>
  gd t15 false (fun k => fld 5 t18 w k) w fun t19 _ =>
  gd t15 false (fun k => ld1 t19 w k) w fun t20 _ =>
  gd t15 false (fun k => ixS 6 t20 (Value.int IntKind.i64 0) w k) w fun t21 _ =>
  gd t15 false (fun k => fld 0 t21 w k) w fun t22 _ =>
  gd t15 false (fun k => fld 0 t22 w k) w fun t23 _ =>
  gd t15 false (fun k => ld1 t23 w k) w fun t24 _ =>
  gd t15 false (fun k => k t0 w) w fun t25 _ =>
  gd t15 false (fun k => nc t25 w k) w fun t26 _ =>
  gd t15 false (fun k => fld 0 t26 w k) w fun t27 _ =>
  gd t15 false (fun k => fld 2 t27 w k) w fun t28 _ =>
  gd t15 false (fun k => ld1 t28 w k) w fun t29 _ =>
  gd t15 false (fun k => bi .geq .i64 t24 t29 w k) w fun t30 _ =>
  pk t15 (Value.bool true) t30 w fun t31 _ =>
  iff' t31
  (bld (zeroD prog 39) #[(0, 6), (6, 1)] [] w fun t32 w =>
  stN 7 t2 t32 w fun _ w =>
  ldN 7 t2 w fun r0 _ =>
  K (Value.tuple #[r0, (Value.bool false)]) w)
  (ncP t0 <|
  fld 5 t0 w fun t35 w =>
  ld1 t35 w fun t36 w =>
  ixS 6 t36 (Value.int IntKind.i64 0) w fun t37 w =>
  ldN 6 t37 w fun t38 w =>
  al (zeroD prog 37) 37 w fun t4 w =>
  stN 6 t4 t38 w fun _ w =>
  bsl 37 6 0 #[] [] w fun t39 w =>
  ncP t0 <|
  fld 5 t0 w fun t43 w =>
  ld1 t43 w fun t44 w =>
  slc 6 t44 (some (Value.int IntKind.i64 1)) none w fun t45 w =>
  apS prog #[58, 58] 58 t39 t45 w fun t46 w =>
  fld 3 t4 w fun t47 w =>
  ld1 t47 w fun t48 w =>
  dr w fun w =>
  ncP t0 <|
  fld 0 t0 w fun t52 _ =>
  fld 1 t52 w fun t53 _ =>
  ld1 t53 w fun t54 _ =>
  ixS 7 t54 t48 w fun t56 _ =>
  fld 3 t56 w fun t57 _ =>
  ld1 t57 w fun t58 _ =>
  ncP t0 <|
  fld 3 t0 w fun t61 _ =>
  ld1 t61 w fun t62 _ =>
  ixS 1 t62 t48 w fun t64 _ =>
  ld1 t64 w fun t65 _ =>
  fld 4 t4 w fun t66 _ =>
  ld1 t66 w fun t67 _ =>
  Cl prog 60 #[t58, t65, t67] w fun t68 w =>
  xt 0 t68 w fun t69 _ =>
  xt 1 t68 w fun t70 _ =>
  ncP t0 <|
  fld 3 t0 w fun t73 w =>
  ld1 t73 w fun t74 w =>
  ixS 1 t74 t48 w fun t77 w =>
  stN 1 t77 t69 w fun _ w =>
  dr w fun w =>
  ncP t0 <|
  fld 0 t0 w fun t82 _ =>
  ldN 3 t82 w fun t83 _ =>
  ncP t0 <|
  fld 4 t0 w fun t87 _ =>
  ld1 t87 w fun t88 _ =>
  ixS 1 t88 t48 w fun t90 _ =>
  ld1 t90 w fun t91 _ =>
  fld 0 t4 w fun t92 _ =>
  fld 0 t92 w fun t93 _ =>
  ld1 t93 w fun t94 _ =>
  fld 5 t4 w fun t95 _ =>
  ld1 t95 w fun t96 _ =>
  Cl prog 59 #[t83, t48, t91, t94, t96, t70] w fun t98 w =>
  Cl prog 34 #[t46, t98] w fun t99 w =>
  ncP t0 <|
  fld 5 t0 w fun t101 _ =>
  stN 1 t101 t99 w fun _ w =>
  dr w fun w =>
  ncP t0 <|
  fld 4 t0 w fun t104 _ =>
  ld1 t104 w fun t105 _ =>
  ncP t0 <|
  fld 4 t0 w fun t109 _ =>
  ld1 t109 w fun t110 _ =>
  ixS 1 t110 t48 w fun t112 _ =>
  ld1 t112 w fun t113 _ =>
  lnS t70 w fun t115 _ =>
  bi .add .i64 t113 t115 w fun t116 _ =>
  ixS 1 t105 t48 w fun t117 _ =>
  stN 1 t117 t116 w fun _ w =>
  ldN 6 t4 w fun t118 w =>
  bld (zeroD prog 39) #[(0, 6), (6, 1)] [(0, t118), (1, t69)] w fun t120 w =>
  al (zeroD prog 39) 39 w fun t9 w =>
  stN 7 t9 t120 w fun _ w =>
  dr w fun w =>
  ncP t0 <|
  fld 6 t0 w fun t124 _ =>
  ld1 t124 w fun t125 _ =>
  ldN 7 t9 w fun t126 _ =>
  bsl 39 7 1 (zeroD prog 39) [(0, t126)] w fun t127 w =>
  (ld1 t124 w (fun v' w'' => v' = t125 ∧ w'' = w)) ∧ (apS prog #[42, 42] 42 t125 t127 w fun t128 w =>
  ncP t0 <|
  fld 6 t0 w fun t130 _ =>
  stN 1 t130 t128 w fun _ w =>
  ldN 7 t9 w fun t131 w =>
  stN 7 t2 t131 w fun _ w =>
  ldN 7 t2 w fun r0 _ =>
  K (Value.tuple #[r0, (Value.bool true)]) w))
theorem pacelineref09_Run_Next_eq (t0 : Value) (w : World) (K : KV) : pacelineref09_Run_Next t0 w K = fnWC prog 132 [(2, some 39), (3, none)] (match fn36.body with | some c => c | none => .skip) #[t0] w K := by kernel_rfl
theorem pacelineref09_Run_Next_ok : fnOkC prog 132 [(2, some 39), (3, none)] (match fn36.body with | some c => c | none => .skip) = true := by kernel_rfl
theorem pacelineref09_Run_Next_calls {t0 : Value} {w : World} {K : KV} (h : pacelineref09_Run_Next t0 w K) : Cl prog 36 #[t0] w K :=
  Cl.mk (by kernel_rfl) (calls_of_FC (fn := fn36) (nt := 132) (rs := [(2, some 39), (3, none)]) mixed fnAt36 (by kernel_rfl) (by kernel_rfl) (by kernel_rfl) (Nat.le_of_ble_eq_true (by kernel_rfl)) pacelineref09_Run_Next_ok (pacelineref09_Run_Next_eq t0 w K) h)

/-- slices.Clone[paceline/solo.waiting,paceline/api.Msg] -/
def slices_Clone_solo_waiting_api_Msg (t0 : Value) (w : World) (K : KV) : Prop :=
  bO prog .eql 66 (Operand.tmp 3) (Operand.const (Value.slice none 0 0)) t0 (Value.slice none 0 0) w fun t4 w =>
  iff' t4
  (K (Value.slice none 0 0) w)
  (bsl 37 6 0 #[] [] w fun t5 w =>
  apS prog #[66, 66] 66 t5 t0 w fun t7 w =>
  K t7 w)
theorem slices_Clone_solo_waiting_api_Msg_eq (t0 : Value) (w : World) (K : KV) : slices_Clone_solo_waiting_api_Msg t0 w K = fnW prog 8 [2] (match fn37.body with | some c => c | none => .skip) #[t0] w K := by kernel_rfl
theorem slices_Clone_solo_waiting_api_Msg_ok : fnOk prog 8 [2] (match fn37.body with | some c => c | none => .skip) = true := by kernel_rfl
theorem slices_Clone_solo_waiting_api_Msg_calls {t0 : Value} {w : World} {K : KV} (h : slices_Clone_solo_waiting_api_Msg t0 w K) : Cl prog 37 #[t0] w K :=
  Cl.mk (by kernel_rfl) (calls_of_F (fn := fn37) (nt := 8) (rs := [2]) mixed fnAt37 (by kernel_rfl) (by kernel_rfl) (by kernel_rfl) (Nat.le_of_ble_eq_true (by kernel_rfl)) slices_Clone_solo_waiting_api_Msg_ok (slices_Clone_solo_waiting_api_Msg_eq t0 w K) h)

/-- slices.SortFunc[paceline/solo.waiting,paceline/api.Msg] -/
def slices_SortFunc_solo_waiting_api_Msg (t0 t1 : Value) (w : World) (K : KV) : Prop :=
  lnS t0 w fun t6 w =>
  cvI .u64 t6 w fun t10 w =>
  Cl prog 62 #[t10] w fun t11 w =>
  Cl prog 61 #[t0, (Value.int IntKind.i64 0), t6, t11, t1] w fun _ w =>
  K (Value.tuple #[]) w
theorem slices_SortFunc_solo_waiting_api_Msg_eq (t0 t1 : Value) (w : World) (K : KV) : slices_SortFunc_solo_waiting_api_Msg t0 t1 w K = fnW prog 14 [] (match fn38.body with | some c => c | none => .skip) #[t0, t1] w K := by kernel_rfl
theorem slices_SortFunc_solo_waiting_api_Msg_ok : fnOk prog 14 [] (match fn38.body with | some c => c | none => .skip) = true := by kernel_rfl
theorem slices_SortFunc_solo_waiting_api_Msg_calls {t0 t1 : Value} {w : World} {K : KV} (h : slices_SortFunc_solo_waiting_api_Msg t0 t1 w K) : Cl prog 38 #[t0, t1] w K :=
  Cl.mk (by kernel_rfl) (calls_of_F (fn := fn38) (nt := 14) (rs := []) mixed fnAt38 (by kernel_rfl) (by kernel_rfl) (by kernel_rfl) (Nat.le_of_ble_eq_true (by kernel_rfl)) slices_SortFunc_solo_waiting_api_Msg_ok (slices_SortFunc_solo_waiting_api_Msg_eq t0 t1 w K) h)

/-- paceline/solo.order -/
def solo_order (t0 t1 : Value) (w : World) (K : KV) : Prop :=
  al (Value.cells t0) 37 w fun t2 w =>
  al (Value.cells t1) 37 w fun t3 w =>
  dr w fun w =>
  fld 0 t2 w fun t5 _ =>
  ldN 3 t5 w fun t6 _ =>
  fld 0 t3 w fun t7 _ =>
  ldN 3 t7 w fun t8 _ =>
  fld 3 t2 w fun t10 _ =>
  ld1 t10 w fun t11 _ =>
  fld 3 t3 w fun t12 _ =>
  ld1 t12 w fun t13 _ =>
  Cl prog 64 #[t6, t8] w fun t9 w =>
  (ld1 t12 w (fun v' w'' => v' = t13 ∧ w'' = w)) ∧ ((ld1 t10 w (fun v' w'' => v' = t11 ∧ w'' = w)) ∧ (Cl prog 65 #[t11, t13] w fun t14 w =>
  bsl 3 1 2 (zeroD prog 3) [(0, t9), (1, t14)] w fun t15 w =>
  Cl prog 63 #[t15] w fun t16 w =>
  K t16 w))
theorem solo_order_eq (t0 t1 : Value) (w : World) (K : KV) : solo_order t0 t1 w K = fnW prog 17 [4] (match fn39.body with | some c => c | none => .skip) #[t0, t1] w K := by kernel_rfl
theorem solo_order_ok : fnOk prog 17 [4] (match fn39.body with | some c => c | none => .skip) = true := by kernel_rfl
theorem solo_order_calls {t0 t1 : Value} {w : World} {K : KV} (h : solo_order t0 t1 w K) : Cl prog 39 #[t0, t1] w K :=
  Cl.mk (by kernel_rfl) (calls_of_F (fn := fn39) (nt := 17) (rs := [4]) mixed fnAt39 (by kernel_rfl) (by kernel_rfl) (by kernel_rfl) (Nat.le_of_ble_eq_true (by kernel_rfl)) solo_order_ok (solo_order_eq t0 t1 w K) h)

/-- paceline/config.first -/
def config_first (t0 : Value) (w : World) (K : KV) : Prop :=
  lnS t0 w fun t7 w =>
  lp [(Value.int IntKind.i64 0)] w (b1 fun t8 w g1 =>
  bi .lss .i64 t8 t7 w fun t9 w =>
  iff' t9
  (ixS 1 t0 t8 w fun t10 w =>
  ld1 t10 w fun t11 w =>
  clV prog t11 #[] w fun t13 w =>
  bi .neq .i64 t13 (Value.int IntKind.i64 0) w fun t15 w =>
  iff' t15
  (K t13 w)
  (bi .add .i64 t8 (Value.int IntKind.i64 1) w fun t17 w =>
  g1 [t17] w))
  (K (Value.int IntKind.i64 0) w))
theorem config_first_eq (t0 : Value) (w : World) (K : KV) : config_first t0 w K = fnW prog 18 [2] (match fn40.body with | some c => c | none => .skip) #[t0] w K := by kernel_rfl
theorem config_first_ok : fnOk prog 18 [2] (match fn40.body with | some c => c | none => .skip) = true := by kernel_rfl
theorem config_first_calls {t0 : Value} {w : World} {K : KV} (h : config_first t0 w K) : Cl prog 40 #[t0] w K :=
  Cl.mk (by kernel_rfl) (calls_of_F (fn := fn40) (nt := 18) (rs := [2]) mixed fnAt40 (by kernel_rfl) (by kernel_rfl) (by kernel_rfl) (Nat.le_of_ble_eq_true (by kernel_rfl)) config_first_ok (config_first_eq t0 w K) h)

/-- paceline/config.Check$1 -/
def config_Check_1 (t0 : Value) (w : World) (K : KV) : Prop :=
  fld 0 t0 w fun t2 w =>
  ld1 t2 w fun t3 w =>
  Cl prog 42 #[t3] w fun t4 w =>
  K t4 w
theorem config_Check_1_eq (t0 : Value) (w : World) (K : KV) : config_Check_1 t0 w K = fnW prog 5 [1] (match fn41.body with | some c => c | none => .skip) #[t0] w K := by kernel_rfl
theorem config_Check_1_ok : fnOk prog 5 [1] (match fn41.body with | some c => c | none => .skip) = true := by kernel_rfl
theorem config_Check_1_calls {t0 : Value} {w : World} {K : KV} (h : config_Check_1 t0 w K) : Cl prog 41 #[t0] w K :=
  Cl.mk (by kernel_rfl) (calls_of_F (fn := fn41) (nt := 5) (rs := [1]) mixed fnAt41 (by kernel_rfl) (by kernel_rfl) (by kernel_rfl) (Nat.le_of_ble_eq_true (by kernel_rfl)) config_Check_1_ok (config_Check_1_eq t0 w K) h)

/-- paceline/tree.Check -/
def tree_Check (t0 : Value) (w : World) (K : KV) : Prop :=
  lnS t0 w fun t7 w =>
  bi .lss .i64 t7 (Value.int IntKind.i64 1) w fun t9 w =>
  gd t9 false (fun k => k t7 w) w fun t11 w =>
  gd t9 false (fun k => bi .gtr .i64 t11 (Value.int IntKind.i64 16) w k) w fun t12 w =>
  pk t9 (Value.bool true) t12 w fun t13 w =>
  iff' t13
  (K (Value.int IntKind.i64 50) w)
  (lnS t0 w fun t15 w =>
  lp [(Value.int IntKind.i64 0)] w (b1 fun t16 w g1 =>
  bi .lss .i64 t16 t15 w fun t17 w =>
  iff' t17
  (ixS 1 t0 t16 w fun t19 w =>
  ld1 t19 w fun t20 w =>
  bi .lss .i64 t20 (Value.int IntKind.i64 (-1)) w fun t22 w =>
  gd t22 false (fun k => k t20 w) w fun t24 w =>
  gd t22 false (fun k => k t16 w) w fun t25 w =>
  gd t22 false (fun k => bi .geq .i64 t24 t25 w k) w fun t26 w =>
  pk t22 (Value.bool true) t26 w fun t27 w =>
  iff' t27
  (K (Value.int IntKind.i64 50) w)
  (bi .add .i64 t16 (Value.int IntKind.i64 1) w fun t28 w =>
  g1 [t28] w))
  (K (Value.int IntKind.i64 0) w)))
theorem tree_Check_eq (t0 : Value) (w : World) (K : KV) : tree_Check t0 w K = fnW prog 29 [2] (match fn42.body with | some c => c | none => .skip) #[t0] w K := by kernel_rfl
theorem tree_Check_ok : fnOk prog 29 [2] (match fn42.body with | some c => c | none => .skip) = true := by kernel_rfl
theorem tree_Check_calls {t0 : Value} {w : World} {K : KV} (h : tree_Check t0 w K) : Cl prog 42 #[t0] w K :=
  Cl.mk (by kernel_rfl) (calls_of_F (fn := fn42) (nt := 29) (rs := [2]) mixed fnAt42 (by kernel_rfl) (by kernel_rfl) (by kernel_rfl) (Nat.le_of_ble_eq_true (by kernel_rfl)) tree_Check_ok (tree_Check_eq t0 w K) h)

/-- paceline/config.unless -/
def config_unless (t0 t1 : Value) (w : World) (K : KV) : Prop :=
  al (Value.cells t0) 4 w fun t2 w =>
  al (Value.cells t1) 29 w fun t3 w =>
  K (Value.func (Fn.func 66) #[] #[t2, t3]) w
theorem config_unless_eq (t0 t1 : Value) (w : World) (K : KV) : config_unless t0 t1 w K = fnW prog 6 [4] (match fn43.body with | some c => c | none => .skip) #[t0, t1] w K := by kernel_rfl
theorem config_unless_ok : fnOk prog 6 [4] (match fn43.body with | some c => c | none => .skip) = true := by kernel_rfl
theorem config_unless_calls {t0 t1 : Value} {w : World} {K : KV} (h : config_unless t0 t1 w K) : Cl prog 43 #[t0, t1] w K :=
  Cl.mk (by kernel_rfl) (calls_of_F (fn := fn43) (nt := 6) (rs := [4]) mixed fnAt43 (by kernel_rfl) (by kernel_rfl) (by kernel_rfl) (Nat.le_of_ble_eq_true (by kernel_rfl)) config_unless_ok (config_unless_eq t0 t1 w K) h)

/-- paceline/config.within -/
def config_within (t0 t1 t2 : Value) (w : World) (K : KV) : Prop :=
  bi .geq .i64 t0 t1 w fun t9 w =>
  gd t9 true (fun k => k t0 w) w fun t11 w =>
  gd t9 true (fun k => k t2 w) w fun t12 w =>
  gd t9 true (fun k => bi .leq .i64 t11 t12 w k) w fun t13 w =>
  pk t9 t13 (Value.bool false) w fun t14 w =>
  K t14 w
theorem config_within_eq (t0 t1 t2 : Value) (w : World) (K : KV) : config_within t0 t1 t2 w K = fnW prog 15 [6] (match fn44.body with | some c => c | none => .skip) #[t0, t1, t2] w K := by kernel_rfl
theorem config_within_ok : fnOk prog 15 [6] (match fn44.body with | some c => c | none => .skip) = true := by kernel_rfl
theorem config_within_calls {t0 t1 t2 : Value} {w : World} {K : KV} (h : config_within t0 t1 t2 w K) : Cl prog 44 #[t0, t1, t2] w K :=
  Cl.mk (by kernel_rfl) (calls_of_F (fn := fn44) (nt := 15) (rs := [6]) mixed fnAt44 (by kernel_rfl) (by kernel_rfl) (by kernel_rfl) (Nat.le_of_ble_eq_true (by kernel_rfl)) config_within_ok (config_within_eq t0 t1 t2 w K) h)

/-- paceline/config.fed -/
def config_fed (t0 t1 : Value) (w : World) (K : KV) : Prop :=
  al (Value.cells t0) 53 w fun t2 w =>
  al (Value.cells t1) 3 w fun t3 w =>
  dr w fun w =>
  fld 0 t2 w fun t11 _ =>
  ld1 t11 w fun t12 _ =>
  fld 1 t2 w fun t15 _ =>
  ld1 t15 w fun t16 _ =>
  fld 2 t2 w fun t19 _ =>
  ld1 t19 w fun t20 _ =>
  fld 4 t2 w fun t25 _ =>
  ld1 t25 w fun t26 _ =>
  fld 6 t2 w fun t36 _ =>
  ld1 t36 w fun t37 _ =>
  lnS t37 w fun t38 _ =>
  bi .leq .i64 t38 (Value.int IntKind.i64 4) w fun t39 _ =>
  Cl prog 44 #[t12, (Value.int IntKind.i64 0), (Value.int IntKind.i64 1)] w fun t13 w =>
  (ld1 t36 w (fun v' w'' => v' = t37 ∧ w'' = w)) ∧ ((ld1 t25 w (fun v' w'' => v' = t26 ∧ w'' = w)) ∧ ((ld1 t19 w (fun v' w'' => v' = t20 ∧ w'' = w)) ∧ ((ld1 t15 w (fun v' w'' => v' = t16 ∧ w'' = w)) ∧ (Cl prog 43 #[t13, (Value.int IntKind.i64 1)] w fun t14 w =>
  (ld1 t36 w (fun v' w'' => v' = t37 ∧ w'' = w)) ∧ ((ld1 t25 w (fun v' w'' => v' = t26 ∧ w'' = w)) ∧ ((ld1 t19 w (fun v' w'' => v' = t20 ∧ w'' = w)) ∧ ((ld1 t15 w (fun v' w'' => v' = t16 ∧ w'' = w)) ∧ (Cl prog 44 #[t16, (Value.int IntKind.i64 1), (Value.int IntKind.i64 1048576)] w fun t17 w =>
  (ld1 t36 w (fun v' w'' => v' = t37 ∧ w'' = w)) ∧ ((ld1 t25 w (fun v' w'' => v' = t26 ∧ w'' = w)) ∧ ((ld1 t19 w (fun v' w'' => v' = t20 ∧ w'' = w)) ∧ (Cl prog 43 #[t17, (Value.int IntKind.i64 80)] w fun t18 w =>
  (ld1 t36 w (fun v' w'' => v' = t37 ∧ w'' = w)) ∧ ((ld1 t25 w (fun v' w'' => v' = t26 ∧ w'' = w)) ∧ ((ld1 t19 w (fun v' w'' => v' = t20 ∧ w'' = w)) ∧ (Cl prog 44 #[t20, (Value.int IntKind.i64 0), (Value.int IntKind.i64 7)] w fun t21 w =>
  (ld1 t36 w (fun v' w'' => v' = t37 ∧ w'' = w)) ∧ ((ld1 t25 w (fun v' w'' => v' = t26 ∧ w'' = w)) ∧ (Cl prog 43 #[t21, (Value.int IntKind.i64 70)] w fun t22 w =>
  (ld1 t36 w (fun v' w'' => v' = t37 ∧ w'' = w)) ∧ ((ld1 t25 w (fun v' w'' => v' = t26 ∧ w'' = w)) ∧ (clV prog (Value.func (Fn.func 67) #[] #[t3]) #[t26] w fun t27 w =>
  (ld1 t36 w (fun v' w'' => v' = t37 ∧ w'' = w)) ∧ (gd t27 true (fun k => k (Value.func (Fn.func 67) #[] #[t3]) w) w fun t29 _ =>
  gd t27 true (fun k => fld 5 t2 w k) w fun t30 _ =>
  gd t27 true (fun k => ld1 t30 w k) w fun t31 _ =>
  gd t27 true (fun k => clV prog t29 #[t31] w k) w fun t32 w =>
  (ld1 t36 w (fun v' w'' => v' = t37 ∧ w'' = w)) ∧ (pk t27 t32 (Value.bool false) w fun t33 _ =>
  Cl prog 43 #[t33, (Value.int IntKind.i64 81)] w fun t34 w =>
  (ld1 t36 w (fun v' w'' => v' = t37 ∧ w'' = w)) ∧ (gd t39 true (fun k => fld 6 t2 w k) w fun t41 _ =>
  gd t39 true (fun k => ld1 t41 w k) w fun t42 _ =>
  gd t39 true (fun k => k (Value.func (Fn.func 70) #[] #[t2]) w) w fun t43 _ =>
  gd t39 true (fun k => Cl prog 73 #[t42, t43] w k) w fun t44 w =>
  gd t39 true (fun k => bnot t44 w k) w fun t45 _ =>
  pk t39 t45 (Value.bool false) w fun t46 _ =>
  Cl prog 43 #[t46, (Value.int IntKind.i64 82)] w fun t47 w =>
  bsl 90 1 7 (zeroD prog 90) [(0, t14), (1, t18), (2, t22), (3, (Value.func (Fn.func 71) #[] #[t2])), (4, t34), (5, (Value.func (Fn.func 68) #[] #[t2, t3])), (6, t47)] w fun t48 w =>
  Cl prog 40 #[t48] w fun t49 w =>
  K t49 w)))))))))))))))))))))
theorem config_fed_eq (t0 t1 : Value) (w : World) (K : KV) : config_fed t0 t1 w K = fnW prog 50 [4] (match fn45.body with | some c => c | none => .skip) #[t0, t1] w K := by kernel_rfl
theorem config_fed_ok : fnOk prog 50 [4] (match fn45.body with | some c => c | none => .skip) = true := by kernel_rfl
theorem config_fed_calls {t0 t1 : Value} {w : World} {K : KV} (h : config_fed t0 t1 w K) : Cl prog 45 #[t0, t1] w K :=
  Cl.mk (by kernel_rfl) (calls_of_F (fn := fn45) (nt := 50) (rs := [4]) mixed fnAt45 (by kernel_rfl) (by kernel_rfl) (by kernel_rfl) (Nat.le_of_ble_eq_true (by kernel_rfl)) config_fed_ok (config_fed_eq t0 t1 w K) h)

/-- slices.Clone[[]int,int] -/
def slices_Clone_int_int (t0 : Value) (w : World) (K : KV) : Prop :=
  bO prog .eql 22 (Operand.tmp 3) (Operand.const (Value.slice none 0 0)) t0 (Value.slice none 0 0) w fun t4 w =>
  iff' t4
  (K (Value.slice none 0 0) w)
  (bsl 3 1 0 #[] [] w fun t5 w =>
  apS prog #[22, 22] 22 t5 t0 w fun t7 w =>
  K t7 w)
theorem slices_Clone_int_int_eq (t0 : Value) (w : World) (K : KV) : slices_Clone_int_int t0 w K = fnW prog 8 [2] (match fn46.body with | some c => c | none => .skip) #[t0] w K := by kernel_rfl
theorem slices_Clone_int_int_ok : fnOk prog 8 [2] (match fn46.body with | some c => c | none => .skip) = true := by kernel_rfl
theorem slices_Clone_int_int_calls {t0 : Value} {w : World} {K : KV} (h : slices_Clone_int_int t0 w K) : Cl prog 46 #[t0] w K :=
  Cl.mk (by kernel_rfl) (calls_of_F (fn := fn46) (nt := 8) (rs := [2]) mixed fnAt46 (by kernel_rfl) (by kernel_rfl) (by kernel_rfl) (Nat.le_of_ble_eq_true (by kernel_rfl)) slices_Clone_int_int_ok (slices_Clone_int_int_eq t0 w K) h)

/-- slices.Clone[[]paceline/api.Fed,paceline/api.Fed] -/
def slices_Clone_api_Fed_api_Fed (t0 : Value) (w : World) (K : KV) : Prop :=
  bO prog .eql 23 (Operand.tmp 3) (Operand.const (Value.slice none 0 0)) t0 (Value.slice none 0 0) w fun t4 w =>
  iff' t4
  (K (Value.slice none 0 0) w)
  (bsl 53 7 0 #[] [] w fun t5 w =>
  apS prog #[23, 23] 23 t5 t0 w fun t7 w =>
  K t7 w)
theorem slices_Clone_api_Fed_api_Fed_eq (t0 : Value) (w : World) (K : KV) : slices_Clone_api_Fed_api_Fed t0 w K = fnW prog 8 [2] (match fn47.body with | some c => c | none => .skip) #[t0] w K := by kernel_rfl
theorem slices_Clone_api_Fed_api_Fed_ok : fnOk prog 8 [2] (match fn47.body with | some c => c | none => .skip) = true := by kernel_rfl
theorem slices_Clone_api_Fed_api_Fed_calls {t0 : Value} {w : World} {K : KV} (h : slices_Clone_api_Fed_api_Fed t0 w K) : Cl prog 47 #[t0] w K :=
  Cl.mk (by kernel_rfl) (calls_of_F (fn := fn47) (nt := 8) (rs := [2]) mixed fnAt47 (by kernel_rfl) (by kernel_rfl) (by kernel_rfl) (Nat.le_of_ble_eq_true (by kernel_rfl)) slices_Clone_api_Fed_api_Fed_ok (slices_Clone_api_Fed_api_Fed_eq t0 w K) h)

/-- slices.Clone[[]paceline/api.Out,paceline/api.Out] -/
def slices_Clone_api_Out_api_Out (t0 : Value) (w : World) (K : KV) : Prop :=
  bO prog .eql 51 (Operand.tmp 3) (Operand.const (Value.slice none 0 0)) t0 (Value.slice none 0 0) w fun t4 w =>
  iff' t4
  (K (Value.slice none 0 0) w)
  (bsl 63 3 0 #[] [] w fun t5 w =>
  apS prog #[51, 51] 51 t5 t0 w fun t7 w =>
  K t7 w)
theorem slices_Clone_api_Out_api_Out_eq (t0 : Value) (w : World) (K : KV) : slices_Clone_api_Out_api_Out t0 w K = fnW prog 8 [2] (match fn48.body with | some c => c | none => .skip) #[t0] w K := by kernel_rfl
theorem slices_Clone_api_Out_api_Out_ok : fnOk prog 8 [2] (match fn48.body with | some c => c | none => .skip) = true := by kernel_rfl
theorem slices_Clone_api_Out_api_Out_calls {t0 : Value} {w : World} {K : KV} (h : slices_Clone_api_Out_api_Out t0 w K) : Cl prog 48 #[t0] w K :=
  Cl.mk (by kernel_rfl) (calls_of_F (fn := fn48) (nt := 8) (rs := [2]) mixed fnAt48 (by kernel_rfl) (by kernel_rfl) (by kernel_rfl) (Nat.le_of_ble_eq_true (by kernel_rfl)) slices_Clone_api_Out_api_Out_ok (slices_Clone_api_Out_api_Out_eq t0 w K) h)

/-- slices.Clone[[]paceline/api.Rule,paceline/api.Rule] -/
def slices_Clone_api_Rule_api_Rule (t0 : Value) (w : World) (K : KV) : Prop :=
  bO prog .eql 50 (Operand.tmp 3) (Operand.const (Value.slice none 0 0)) t0 (Value.slice none 0 0) w fun t4 w =>
  iff' t4
  (K (Value.slice none 0 0) w)
  (bsl 55 4 0 #[] [] w fun t5 w =>
  apS prog #[50, 50] 50 t5 t0 w fun t7 w =>
  K t7 w)
theorem slices_Clone_api_Rule_api_Rule_eq (t0 : Value) (w : World) (K : KV) : slices_Clone_api_Rule_api_Rule t0 w K = fnW prog 8 [2] (match fn49.body with | some c => c | none => .skip) #[t0] w K := by kernel_rfl
theorem slices_Clone_api_Rule_api_Rule_ok : fnOk prog 8 [2] (match fn49.body with | some c => c | none => .skip) = true := by kernel_rfl
theorem slices_Clone_api_Rule_api_Rule_calls {t0 : Value} {w : World} {K : KV} (h : slices_Clone_api_Rule_api_Rule t0 w K) : Cl prog 49 #[t0] w K :=
  Cl.mk (by kernel_rfl) (calls_of_F (fn := fn49) (nt := 8) (rs := [2]) mixed fnAt49 (by kernel_rfl) (by kernel_rfl) (by kernel_rfl) (Nat.le_of_ble_eq_true (by kernel_rfl)) slices_Clone_api_Rule_api_Rule_ok (slices_Clone_api_Rule_api_Rule_eq t0 w K) h)

/-- container/heap.Push -/
def heap_Push (t0 t1 : Value) (w : World) (K : KV) : Prop :=
  clI prog t0 "Push" #[t1] w fun _ w =>
  clI prog t0 "Len" #[] w fun t9 w =>
  bi .sub .i64 t9 (Value.int IntKind.i64 1) w fun t10 w =>
  Cl prog 74 #[t0, t10] w fun _ w =>
  K (Value.tuple #[]) w
theorem heap_Push_eq (t0 t1 : Value) (w : World) (K : KV) : heap_Push t0 t1 w K = fnW prog 12 [] (match fn50.body with | some c => c | none => .skip) #[t0, t1] w K := by kernel_rfl
theorem heap_Push_ok : fnOk prog 12 [] (match fn50.body with | some c => c | none => .skip) = true := by kernel_rfl
theorem heap_Push_calls {t0 t1 : Value} {w : World} {K : KV} (h : heap_Push t0 t1 w K) : Cl prog 50 #[t0, t1] w K :=
  Cl.mk (by kernel_rfl) (calls_of_F (fn := fn50) (nt := 12) (rs := []) mixed fnAt50 (by kernel_rfl) (by kernel_rfl) (by kernel_rfl) (Nat.le_of_ble_eq_true (by kernel_rfl)) heap_Push_ok (heap_Push_eq t0 t1 w K) h)

end Go.Proofs.Ytfcnjbannejchaa
