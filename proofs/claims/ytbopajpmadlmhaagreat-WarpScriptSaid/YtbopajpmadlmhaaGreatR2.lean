/- Texts of the proof, joined: Pf1, Pf2, Pf3, Pf4, Pf5, Pf6, TimeA, EngN. Conditions: none. -/
import Derived.Test.YtbopajpmadlmhaaGreatR1
import Derived.KernelRfl
section
namespace Go.Proofs.YtbopajpmadlmhaaGreat
open Go Go.E
set_option linter.unusedVariables false
set_option maxRecDepth 100000
def pacelineref15_Node_Commit (t0 t1 : Value) (w : World) (K : KV) : Prop :=
  ncP t0 <|
  fld 7 t0 w fun t13 w =>
  ld1 t13 w fun t14 w =>
  ncP t14 <|
  fld 0 t14 w fun t16 w =>
  ld1 t16 w fun t17 w =>
  bi .lss .i64 t1 t17 w fun t18 w =>
  iff' t18
  (K (Value.tuple #[(Value.slice none 0 0), (Value.slice none 0 0), (Value.int IntKind.i64 110)]) w)
  (Cl prog 38 #[t0] w fun t21 w =>
  bi .gtr .i64 t1 t21 w fun t22 w =>
  iff' t22
  (K (Value.tuple #[(Value.slice none 0 0), (Value.slice none 0 0), (Value.int IntKind.i64 130)]) w)
  (ncP t0 <|
  fld 7 t0 w fun t25 w =>
  ld1 t25 w fun t26 w =>
  Cl prog 84 #[t26, t1] w fun t28 w =>
  bsl 45 7 0 #[] [] w fun t29 w =>
  lp [t29, (Value.int IntKind.i64 0)] w (b2 fun t8 t9 w g1 =>
  lnS t28 w fun t32 w =>
  bi .lss .i64 t9 t32 w fun t33 w =>
  iff' t33
  (dr w fun w =>
  ixS 10 t28 t9 w fun t39 _ =>
  fld 0 t39 w fun t40 _ =>
  ldN 6 t40 w fun t41 _ =>
  ixS 10 t28 t9 w fun t44 _ =>
  fld 8 t44 w fun t45 _ =>
  ld1 t45 w fun t46 _ =>
  bld (zeroD prog 45) #[(0, 6), (6, 1)] [(0, t41), (1, t46)] w fun t47 w =>
  bsl 45 7 1 (zeroD prog 45) [(0, t47)] w fun t48 w =>
  apS prog #[52, 52] 52 t8 t48 w fun t49 w =>
  bi .add .i64 t9 (Value.int IntKind.i64 1) w fun t35 w =>
  g1 [t49, t35] w)
  (ncP t0 <|
  fld 10 t0 w fun t53 w =>
  ld1 t53 w fun t54 w =>
  apS prog #[52, 52] 52 t54 t8 w fun t56 w =>
  ncP t0 <|
  fld 10 t0 w fun t58 w =>
  stN 1 t58 t56 w fun _ w =>
  ncP t0 <|
  fld 8 t0 w fun t62 w =>
  ld1 t62 w fun t63 w =>
  Cl prog 85 #[t63, t1] w fun t65 w =>
  K (Value.tuple #[t8, t65, (Value.int IntKind.i64 0)]) w))))
theorem pacelineref15_Node_Commit_calls {t0 t1 : Value} {w : World} {K : KV} (h : pacelineref15_Node_Commit t0 t1 w K) : Cl prog 33 #[t0, t1] w K :=
  Cl.mk (by kernel_rfl) (calls_of_F (fn := fn33) (nt := 66) (rs := [4, 5, 6]) mixed fnAt33 (by kernel_rfl) (by kernel_rfl) (by kernel_rfl) (Nat.le_of_ble_eq_true (by kernel_rfl)) (by kernel_rfl) (by kernel_rfl) h)

def pacelinelaw15_sameItems (t0 t1 : Value) (w : World) (K : KV) : Prop :=
  lnS t0 w fun t7 w =>
  lnS t1 w fun t9 w =>
  bi .neq .i64 t7 t9 w fun t10 w =>
  iff' t10
  (K (Value.bool false) w)
  (lp [(Value.int IntKind.i64 0)] w (b1 fun t5 w g1 =>
  lnS t0 w fun t13 w =>
  bi .lss .i64 t5 t13 w fun t14 w =>
  iff' t14
  (dr w fun w =>
  ixS 8 t0 t5 w fun t19 _ =>
  ldN 8 t19 w fun t20 _ =>
  ixS 8 t1 t5 w fun t23 _ =>
  ldN 8 t23 w fun t24 _ =>
  bO prog .neq 43 (Operand.tmp 20) (Operand.tmp 24) t20 t24 w fun t25 w =>
  iff' t25
  (K (Value.bool false) w)
  (bi .add .i64 t5 (Value.int IntKind.i64 1) w fun t16 w =>
  g1 [t16] w))
  (K (Value.bool true) w)))
theorem pacelinelaw15_sameItems_calls {t0 t1 : Value} {w : World} {K : KV} (h : pacelinelaw15_sameItems t0 t1 w K) : Cl prog 34 #[t0, t1] w K :=
  Cl.mk (by kernel_rfl) (calls_of_F (fn := fn34) (nt := 26) (rs := [4]) mixed fnAt34 (by kernel_rfl) (by kernel_rfl) (by kernel_rfl) (Nat.le_of_ble_eq_true (by kernel_rfl)) (by kernel_rfl) (by kernel_rfl) h)

def pacelineref15_Node_Floor (t0 : Value) (w : World) (K : KV) : Prop :=
  ncP t0 <|
  fld 7 t0 w fun t5 w =>
  ld1 t5 w fun t6 w =>
  ncP t6 <|
  fld 0 t6 w fun t8 w =>
  ld1 t8 w fun t9 w =>
  K t9 w
theorem pacelineref15_Node_Floor_calls {t0 : Value} {w : World} {K : KV} (h : pacelineref15_Node_Floor t0 w K) : Cl prog 35 #[t0] w K :=
  Cl.mk (by kernel_rfl) (calls_of_F (fn := fn35) (nt := 10) (rs := [2]) mixed fnAt35 (by kernel_rfl) (by kernel_rfl) (by kernel_rfl) (Nat.le_of_ble_eq_true (by kernel_rfl)) (by kernel_rfl) (by kernel_rfl) h)

def pacelinelaw15_small (t0 : Value) (w : World) (K : KV) : Prop :=
  al (Value.cells t0) 27 w fun t1 w =>
  fld 0 t1 w fun t6 w =>
  ld1 t6 w fun t7 w =>
  lnS t7 w fun t8 w =>
  bi .gtr .i64 t8 (Value.int IntKind.i64 50) w fun t9 w =>
  gd t9 false (fun k => fld 1 t1 w k) w fun t11 w =>
  gd t9 false (fun k => ld1 t11 w k) w fun t12 w =>
  gd t9 false (fun k => lnS t12 w k) w fun t13 w =>
  gd t9 false (fun k => bi .gtr .i64 t13 (Value.int IntKind.i64 20) w k) w fun t14 w =>
  pk t9 (Value.bool true) t14 w fun t15 w =>
  iff' t15
  (K (Value.bool false) w)
  (lp [(Value.int IntKind.i64 0)] w (b1 fun t3 w g1 =>
  fld 1 t1 w fun t17 w =>
  ld1 t17 w fun t18 w =>
  lnS t18 w fun t19 w =>
  bi .lss .i64 t3 t19 w fun t20 w =>
  iff' t20
  (fld 1 t1 w fun t23 w =>
  ld1 t23 w fun t24 w =>
  ixS 7 t24 t3 w fun t26 w =>
  ldN 7 t26 w fun t27 w =>
  al (zeroD prog 66) 66 w fun t4 w =>
  stN 7 t4 t27 w fun _ w =>
  fld 3 t4 w fun t28 w =>
  ld1 t28 w fun t29 w =>
  lnS t29 w fun t30 w =>
  bi .gtr .i64 t30 (Value.int IntKind.i64 60) w fun t31 w =>
  gd t31 false (fun k => fld 4 t4 w k) w fun t33 w =>
  gd t31 false (fun k => ld1 t33 w k) w fun t34 w =>
  gd t31 false (fun k => lnS t34 w k) w fun t35 w =>
  gd t31 false (fun k => bi .gtr .i64 t35 (Value.int IntKind.i64 50) w k) w fun t36 w =>
  pk t31 (Value.bool true) t36 w fun t37 w =>
  gd t37 false (fun k => fld 5 t4 w k) w fun t39 w =>
  gd t37 false (fun k => ld1 t39 w k) w fun t40 w =>
  gd t37 false (fun k => lnS t40 w k) w fun t41 w =>
  gd t37 false (fun k => bi .gtr .i64 t41 (Value.int IntKind.i64 50) w k) w fun t42 w =>
  pk t37 (Value.bool true) t42 w fun t43 w =>
  gd t43 false (fun k => fld 6 t4 w k) w fun t45 w =>
  gd t43 false (fun k => ld1 t45 w k) w fun t46 w =>
  gd t43 false (fun k => lnS t46 w k) w fun t47 w =>
  gd t43 false (fun k => bi .gtr .i64 t47 (Value.int IntKind.i64 20) w k) w fun t48 w =>
  pk t43 (Value.bool true) t48 w fun t49 w =>
  iff' t49
  (K (Value.bool false) w)
  (lp [(Value.int IntKind.i64 0)] w (b1 fun t5 w g2 =>
  fld 3 t4 w fun t51 w =>
  ld1 t51 w fun t52 w =>
  lnS t52 w fun t53 w =>
  bi .lss .i64 t5 t53 w fun t54 w =>
  iff' t54
  (fld 3 t4 w fun t57 w =>
  ld1 t57 w fun t58 w =>
  ixS 4 t58 t5 w fun t60 w =>
  fld 3 t60 w fun t61 w =>
  ld1 t61 w fun t62 w =>
  lnS t62 w fun t63 w =>
  bi .gtr .i64 t63 (Value.int IntKind.i64 20) w fun t64 w =>
  iff' t64
  (K (Value.bool false) w)
  (bi .add .i64 t5 (Value.int IntKind.i64 1) w fun t56 w =>
  g2 [t56] w))
  (bi .add .i64 t3 (Value.int IntKind.i64 1) w fun t22 w =>
  g1 [t22] w))))
  (K (Value.bool true) w)))
theorem pacelinelaw15_small_calls {t0 : Value} {w : World} {K : KV} (h : pacelinelaw15_small t0 w K) : Cl prog 36 #[t0] w K :=
  Cl.mk (by kernel_rfl) (calls_of_F (fn := fn36) (nt := 65) (rs := [2]) mixed fnAt36 (by kernel_rfl) (by kernel_rfl) (by kernel_rfl) (Nat.le_of_ble_eq_true (by kernel_rfl)) (by kernel_rfl) (by kernel_rfl) h)

def pacelineref15_Node_Ahead (t0 : Value) (w : World) (K : KV) : Prop :=
  ncP t0 <|
  fld 7 t0 w fun t5 w =>
  ld1 t5 w fun t6 w =>
  ncP t6 <|
  fld 1 t6 w fun t8 w =>
  ld1 t8 w fun t9 w =>
  lnS t9 w fun t10 w =>
  K t10 w
theorem pacelineref15_Node_Ahead_calls {t0 : Value} {w : World} {K : KV} (h : pacelineref15_Node_Ahead t0 w K) : Cl prog 37 #[t0] w K :=
  Cl.mk (by kernel_rfl) (calls_of_F (fn := fn37) (nt := 11) (rs := [2]) mixed fnAt37 (by kernel_rfl) (by kernel_rfl) (by kernel_rfl) (Nat.le_of_ble_eq_true (by kernel_rfl)) (by kernel_rfl) (by kernel_rfl) h)

def pacelineref15_Node_Local (t0 : Value) (w : World) (K : KV) : Prop :=
  bsl 3 1 0 #[] [] w fun t7 w =>
  ncP t0 <|
  fld 6 t0 w fun t11 w =>
  ld1 t11 w fun t12 w =>
  Cl prog 80 #[t12] w fun t13 w =>
  xt 0 t13 w fun t14 w =>
  xt 1 t13 w fun t15 w =>
  al (zeroD prog 37) 37 w fun t4 w =>
  stN 6 t4 t14 w fun _ w =>
  J1 (fun t3 w =>
  lp [t3, (Value.int IntKind.i64 0)] w (b2 fun t3_1 t6 w g2 =>
  ncP t0 <|
  fld 9 t0 w fun t26 w =>
  ld1 t26 w fun t27 w =>
  lnS t27 w fun t28 w =>
  bi .lss .i64 t6 t28 w fun t29 w =>
  iff' t29
  (J1 (fun t3_2 w =>
  bi .add .i64 t6 (Value.int IntKind.i64 1) w fun t31 w =>
  g2 [t3_2, t31] w) fun k3 =>
  ncP t0 <|
  fld 9 t0 w fun t34 w =>
  ld1 t34 w fun t35 w =>
  ixS 1 t35 t6 w fun t37 w =>
  ld1 t37 w fun t38 w =>
  bi .geq .i64 t38 (Value.int IntKind.i64 0) w fun t39 w =>
  iff' t39
  (ncP t0 <|
  fld 9 t0 w fun t43 w =>
  ld1 t43 w fun t44 w =>
  ixS 1 t44 t6 w fun t46 w =>
  ld1 t46 w fun t47 w =>
  bsl 3 1 1 (zeroD prog 3) [(0, t47)] w fun t48 w =>
  apS prog #[24, 24] 24 t3_1 t48 w fun t49 w =>
  k3 t49 w)
  (k3 t3_1 w))
  (Cl prog 86 #[t3_1] w fun t51 w =>
  K t51 w))) fun k1 =>
  iff' t15
  (fld 0 t4 w fun t18 w =>
  fld 0 t18 w fun t19 w =>
  ld1 t19 w fun t20 w =>
  bsl 3 1 1 (zeroD prog 3) [(0, t20)] w fun t21 w =>
  apS prog #[24, 24] 24 t7 t21 w fun t22 w =>
  k1 t22 w)
  (k1 t7 w)
theorem pacelineref15_Node_Local_calls {t0 : Value} {w : World} {K : KV} (h : pacelineref15_Node_Local t0 w K) : Cl prog 38 #[t0] w K :=
  Cl.mk (by kernel_rfl) (calls_of_F (fn := fn38) (nt := 52) (rs := [2]) mixed fnAt38 (by kernel_rfl) (by kernel_rfl) (by kernel_rfl) (Nat.le_of_ble_eq_true (by kernel_rfl)) (by kernel_rfl) (by kernel_rfl) h)

def pacelineref15_Node_Promise (t0 : Value) (w : World) (K : KV) : Prop :=
  dr w fun w =>
  ncP t0 <|
  fld 7 t0 w fun t5 _ =>
  ld1 t5 w fun t6 _ =>
  ncP t6 <|
  fld 0 t6 w fun t8 _ =>
  ld1 t8 w fun t9 _ =>
  ncP t0 <|
  fld 0 t0 w fun t12 _ =>
  fld 1 t12 w fun t13 _ =>
  ld1 t13 w fun t14 _ =>
  ncP t0 <|
  fld 3 t0 w fun t17 _ =>
  ld1 t17 w fun t18 _ =>
  ixS 7 t14 t18 w fun t19 _ =>
  fld 1 t19 w fun t20 _ =>
  ld1 t20 w fun t21 _ =>
  Cl prog 87 #[t9, t21] w fun t22 w =>
  K t22 w
theorem pacelineref15_Node_Promise_calls {t0 : Value} {w : World} {K : KV} (h : pacelineref15_Node_Promise t0 w K) : Cl prog 39 #[t0] w K :=
  Cl.mk (by kernel_rfl) (calls_of_F (fn := fn39) (nt := 23) (rs := [2]) mixed fnAt39 (by kernel_rfl) (by kernel_rfl) (by kernel_rfl) (Nat.le_of_ble_eq_true (by kernel_rfl)) (by kernel_rfl) (by kernel_rfl) h)

def pacelineref15_Node_Waiting (t0 : Value) (w : World) (K : KV) : Prop :=
  ncP t0 <|
  fld 6 t0 w fun t5 w =>
  ld1 t5 w fun t6 w =>
  Cl prog 88 #[t6] w fun t7 w =>
  K t7 w
theorem pacelineref15_Node_Waiting_calls {t0 : Value} {w : World} {K : KV} (h : pacelineref15_Node_Waiting t0 w K) : Cl prog 40 #[t0] w K :=
  Cl.mk (by kernel_rfl) (calls_of_F (fn := fn40) (nt := 8) (rs := [2]) mixed fnAt40 (by kernel_rfl) (by kernel_rfl) (by kernel_rfl) (Nat.le_of_ble_eq_true (by kernel_rfl)) (by kernel_rfl) (by kernel_rfl) h)

def pacelineref15_Node_Log (t0 : Value) (w : World) (K : KV) : Prop :=
  bsl 45 7 0 #[] [] w fun t4 w =>
  ncP t0 <|
  fld 10 t0 w fun t8 w =>
  ld1 t8 w fun t9 w =>
  apS prog #[52, 52] 52 t4 t9 w fun t10 w =>
  K t10 w
theorem pacelineref15_Node_Log_calls {t0 : Value} {w : World} {K : KV} (h : pacelineref15_Node_Log t0 w K) : Cl prog 41 #[t0] w K :=
  Cl.mk (by kernel_rfl) (calls_of_F (fn := fn41) (nt := 11) (rs := [2]) mixed fnAt41 (by kernel_rfl) (by kernel_rfl) (by kernel_rfl) (Nat.le_of_ble_eq_true (by kernel_rfl)) (by kernel_rfl) (by kernel_rfl) h)

def config_Check (t0 : Value) (w : World) (K : KV) : Prop :=
  al (Value.cells t0) 27 w fun t1 w =>
  fld 2 t1 w fun t9 w =>
  ld1 t9 w fun t10 w =>
  Cl prog 93 #[t10, (Value.int IntKind.i64 0), (Value.int IntKind.i64 1099511627776)] w fun t11 w =>
  gd t11 true (fun k => fld 1 t1 w k) w fun t13 w =>
  gd t11 true (fun k => ld1 t13 w k) w fun t14 w =>
  gd t11 true (fun k => lnS t14 w k) w fun t15 w =>
  gd t11 true (fun k => Cl prog 93 #[t15, (Value.int IntKind.i64 1), (Value.int IntKind.i64 8)] w k) w fun t16 w =>
  pk t11 t16 (Value.bool false) w fun t17 w =>
  Cl prog 92 #[t17, (Value.int IntKind.i64 1)] w fun t18 w =>
  bsl 144 1 2 (zeroD prog 144) [(0, (Value.func (Fn.func 90) #[] #[t1])), (1, t18)] w fun t19 w =>
  Cl prog 89 #[t19] w fun t20 w =>
  bi .neq .i64 t20 (Value.int IntKind.i64 0) w fun t22 w =>
  iff' t22
  (K (Value.tuple #[(Value.int IntKind.i64 (-1)), t20]) w)
  (fld 1 t1 w fun t24 w =>
  ld1 t24 w fun t25 w =>
  lnS t25 w fun t26 w =>
  lp [(Value.int IntKind.i64 0)] w (b1 fun t27 w g1 =>
  bi .lss .i64 t27 t26 w fun t28 w =>
  iff' t28
  (ixS 7 t25 t27 w fun t30 w =>
  ldN 7 t30 w fun t31 w =>
  al (zeroD prog 66) 66 w fun t6 w =>
  stN 7 t6 t31 w fun _ w =>
  ldN 7 t6 w fun t32 w =>
  fld 0 t1 w fun t33 w =>
  ld1 t33 w fun t34 w =>
  lnS t34 w fun t35 w =>
  Cl prog 94 #[t32, t35] w fun t36 w =>
  bi .neq .i64 t36 (Value.int IntKind.i64 0) w fun t38 w =>
  iff' t38
  (K (Value.tuple #[t27, t36]) w)
  (bi .add .i64 t27 (Value.int IntKind.i64 1) w fun t41 w =>
  g1 [t41] w))
  (K (Value.tuple #[(Value.int IntKind.i64 (-1)), (Value.int IntKind.i64 0)]) w)))
theorem config_Check_calls {t0 : Value} {w : World} {K : KV} (h : config_Check t0 w K) : Cl prog 42 #[t0] w K :=
  Cl.mk (by kernel_rfl) (calls_of_F (fn := fn42) (nt := 42) (rs := [2, 3]) mixed fnAt42 (by kernel_rfl) (by kernel_rfl) (by kernel_rfl) (Nat.le_of_ble_eq_true (by kernel_rfl)) (by kernel_rfl) (by kernel_rfl) h)

def warp_copied (t0 : Value) (w : World) (K : KV) : Prop :=
  al (Value.cells t0) 27 w fun t1 w =>
  al (zeroD prog 27) 27 w fun t2 w =>
  fld 0 t1 w fun t6 w =>
  ld1 t6 w fun t7 w =>
  Cl prog 95 #[t7] w fun t8 w =>
  fld 0 t1 w fun t9 w =>
  stN 1 t9 t8 w fun _ w =>
  fld 1 t1 w fun t10 w =>
  ld1 t10 w fun t11 w =>
  Cl prog 96 #[t11] w fun t12 w =>
  fld 1 t1 w fun t13 w =>
  stN 1 t13 t12 w fun _ w =>
  fld 1 t1 w fun t14 w =>
  ld1 t14 w fun t15 w =>
  lnS t15 w fun t16 w =>
  lp [(Value.int IntKind.i64 0)] w (b1 fun t17 w g1 =>
  bi .lss .i64 t17 t16 w fun t18 w =>
  iff' t18
  (fld 1 t1 w fun t20 w =>
  ld1 t20 w fun t21 w =>
  ixS 7 t21 t17 w fun t23 w =>
  dr w fun w =>
  ncP t23 <|
  fld 4 t23 w fun t30 _ =>
  ld1 t30 w fun t31 _ =>
  ncP t23 <|
  fld 5 t23 w fun t35 _ =>
  ld1 t35 w fun t36 _ =>
  ncP t23 <|
  fld 6 t23 w fun t40 _ =>
  ld1 t40 w fun t41 _ =>
  ncP t23 <|
  fld 3 t23 w fun t45 _ =>
  ld1 t45 w fun t46 _ =>
  Cl prog 95 #[t31] w fun t32 w =>
  (ld1 t45 w (fun v' w'' => v' = t46 ∧ w'' = w)) ∧ ((ld1 t40 w (fun v' w'' => v' = t41 ∧ w'' = w)) ∧ ((ld1 t35 w (fun v' w'' => v' = t36 ∧ w'' = w)) ∧ (Cl prog 95 #[t36] w fun t37 w =>
  (ld1 t45 w (fun v' w'' => v' = t46 ∧ w'' = w)) ∧ ((ld1 t40 w (fun v' w'' => v' = t41 ∧ w'' = w)) ∧ (Cl prog 97 #[t41] w fun t42 w =>
  (ld1 t45 w (fun v' w'' => v' = t46 ∧ w'' = w)) ∧ (Cl prog 98 #[t46] w fun t47 w =>
  ncP t23 <|
  fld 4 t23 w fun t49 _ =>
  stN 1 t49 t32 w fun _ w =>
  ncP t23 <|
  fld 5 t23 w fun t51 _ =>
  stN 1 t51 t37 w fun _ w =>
  ncP t23 <|
  fld 6 t23 w fun t53 _ =>
  stN 1 t53 t42 w fun _ w =>
  ncP t23 <|
  fld 3 t23 w fun t55 _ =>
  stN 1 t55 t47 w fun _ w =>
  ncP t23 <|
  fld 3 t23 w fun t58 w =>
  ld1 t58 w fun t59 w =>
  lnS t59 w fun t60 w =>
  lp [(Value.int IntKind.i64 0)] w (b1 fun t61 w g2 =>
  bi .lss .i64 t61 t60 w fun t62 w =>
  iff' t62
  (dr w fun w =>
  ncP t23 <|
  fld 3 t23 w fun t66 _ =>
  ld1 t66 w fun t67 _ =>
  ncP t23 <|
  fld 3 t23 w fun t71 _ =>
  ld1 t71 w fun t72 _ =>
  ixS 4 t72 t61 w fun t74 _ =>
  fld 3 t74 w fun t75 _ =>
  ld1 t75 w fun t76 _ =>
  Cl prog 97 #[t76] w fun t77 w =>
  (ld1 t66 w (fun v' w'' => v' = t67 ∧ w'' = w)) ∧ (ixS 4 t67 t61 w fun t78 _ =>
  fld 3 t78 w fun t79 _ =>
  stN 1 t79 t77 w fun _ w =>
  bi .add .i64 t61 (Value.int IntKind.i64 1) w fun t80 w =>
  g2 [t80] w))
  (bi .add .i64 t17 (Value.int IntKind.i64 1) w fun t81 w =>
  g1 [t81] w)))))))))
  (ldN 3 t1 w fun t82 w =>
  stN 3 t2 t82 w fun _ w =>
  ldN 3 t2 w fun r0 _ =>
  K r0 w))
theorem warp_copied_calls {t0 : Value} {w : World} {K : KV} (h : warp_copied t0 w K) : Cl prog 43 #[t0] w K :=
  Cl.mk (by kernel_rfl) (calls_of_FC (fn := fn43) (nt := 83) (rs := [(2, some 27)]) mixed fnAt43 (by kernel_rfl) (by kernel_rfl) (by kernel_rfl) (Nat.le_of_ble_eq_true (by kernel_rfl)) (by kernel_rfl) (by kernel_rfl) h)

def prio_New (t0 : Value) (w : World) (K : KV) : Prop :=
  mnI .i64 t0 (Value.int IntKind.i64 64) w fun t4 w =>
  mxI .i64 (Value.int IntKind.i64 0) t4 w fun t5 w =>
  mkMap w fun t6 w =>
  bld (zeroD prog 155) #[(0, 1), (1, 1), (2, 1)] [(0, t5), (2, t6)] w fun t7 w =>
  al (Value.cells t7) 155 w fun t8 w =>
  K t8 w
theorem prio_New_calls {t0 : Value} {w : World} {K : KV} (h : prio_New t0 w K) : Cl prog 44 #[t0] w K :=
  Cl.mk (by kernel_rfl) (calls_of_F (fn := fn44) (nt := 9) (rs := [2]) mixed fnAt44 (by kernel_rfl) (by kernel_rfl) (by kernel_rfl) (Nat.le_of_ble_eq_true (by kernel_rfl)) (by kernel_rfl) (by kernel_rfl) h)

def past_New (w : World) (K : KV) : Prop :=
  bld (zeroD prog 157) #[(0, 1), (1, 1)] [] w fun t1 w =>
  al (Value.cells t1) 157 w fun t2 w =>
  K t2 w
theorem past_New_calls {w : World} {K : KV} (h : past_New w K) : Cl prog 45 #[] w K :=
  Cl.mk (by kernel_rfl) (calls_of_F (fn := fn45) (nt := 3) (rs := [0]) mixed fnAt45 (by kernel_rfl) (by kernel_rfl) (by kernel_rfl) (Nat.le_of_ble_eq_true (by kernel_rfl)) (by kernel_rfl) (by kernel_rfl) h)

def gate_New (w : World) (K : KV) : Prop :=
  bld (zeroD prog 160) #[(0, 1), (1, 1)] [] w fun t1 w =>
  al (Value.cells t1) 160 w fun t2 w =>
  K t2 w
theorem gate_New_calls {w : World} {K : KV} (h : gate_New w K) : Cl prog 46 #[] w K :=
  Cl.mk (by kernel_rfl) (calls_of_F (fn := fn46) (nt := 3) (rs := [0]) mixed fnAt46 (by kernel_rfl) (by kernel_rfl) (by kernel_rfl) (Nat.le_of_ble_eq_true (by kernel_rfl)) (by kernel_rfl) (by kernel_rfl) h)

def vtime_Valid (t0 : Value) (w : World) (K : KV) : Prop :=
  bi .eql .i64 t0 (Value.int IntKind.i64 1125899906842624) w fun t4 w =>
  gd t4 false (fun k => k t0 w) w fun t6 w =>
  gd t4 false (fun k => cvI .u64 t6 w k) w fun t7 w =>
  gd t4 false (fun k => bi .leq .u64 t7 (Value.int IntKind.u64 1099511627776) w k) w fun t8 w =>
  pk t4 (Value.bool true) t8 w fun t9 w =>
  K t9 w
theorem vtime_Valid_calls {t0 : Value} {w : World} {K : KV} (h : vtime_Valid t0 w K) : Cl prog 47 #[t0] w K :=
  Cl.mk (by kernel_rfl) (calls_of_F (fn := fn47) (nt := 10) (rs := [2]) mixed fnAt47 (by kernel_rfl) (by kernel_rfl) (by kernel_rfl) (Nat.le_of_ble_eq_true (by kernel_rfl)) (by kernel_rfl) (by kernel_rfl) h)

def warp_Node_plain (t0 t1 t2 : Value) (w : World) (K : KV) : Prop :=
  al (Value.cells t2) 37 w fun t5 w =>
  fld 0 t5 w fun t16 w =>
  ldN 3 t16 w fun t17 w =>
  Cl prog 99 #[t0, t1, t17] w fun t18 w =>
  xt 0 t18 w fun t19 w =>
  xt 1 t18 w fun t20 w =>
  xt 2 t18 w fun t21 w =>
  xt 3 t18 w fun t22 w =>
  bO prog .neq 103 (Operand.tmp 24) (Operand.const Value.nilIface) t22 Value.nilIface w fun t25 w =>
  iff' t25
  (K (Value.tuple #[(Value.slice none 0 0), t22]) w)
  (gd t20 false (fun k => k t21 w) w fun t30 w =>
  pk t20 (Value.bool true) t30 w fun t31 w =>
  iff' t31
  (fld 0 t5 w fun t32 w =>
  ldN 3 t32 w fun t33 w =>
  Cl prog 100 #[t33, (Value.int IntKind.i64 3)] w fun t34 w =>
  K (Value.tuple #[(Value.slice none 0 0), t34]) w)
  (ncP t0 <|
  fld 6 t0 w fun t38 w =>
  ld1 t38 w fun t39 w =>
  Cl prog 101 #[t39] w fun t40 w =>
  bi .add .i64 t40 t19 w fun t42 w =>
  bi .geq .i64 t42 (Value.int IntKind.i64 64) w fun t43 w =>
  iff' t43
  (fld 0 t5 w fun t44 w =>
  ldN 3 t44 w fun t45 w =>
  Cl prog 100 #[t45, (Value.int IntKind.i64 2)] w fun t46 w =>
  K (Value.tuple #[(Value.slice none 0 0), t46]) w)
  (fld 0 t5 w fun t48 w =>
  ldN 3 t48 w fun t49 w =>
  Cl prog 102 #[t0, t49, (Value.bool false)] w fun t50 w =>
  dr w fun w =>
  ncP t0 <|
  fld 6 t0 w fun t53 _ =>
  ld1 t53 w fun t54 _ =>
  ldN 6 t5 w fun t55 _ =>
  Cl prog 103 #[t54, t55] w fun _ w =>
  K (Value.tuple #[t50, Value.nilIface]) w)))
theorem warp_Node_plain_calls {t0 t1 t2 : Value} {w : World} {K : KV} (h : warp_Node_plain t0 t1 t2 w K) : Cl prog 48 #[t0, t1, t2] w K :=
  Cl.mk (by kernel_rfl) (calls_of_F (fn := fn48) (nt := 58) (rs := [6, 7]) mixed fnAt48 (by kernel_rfl) (by kernel_rfl) (by kernel_rfl) (Nat.le_of_ble_eq_true (by kernel_rfl)) (by kernel_rfl) (by kernel_rfl) h)

def warp_Node_anti (t0 t1 t2 : Value) (w : World) (K : KV) : Prop :=
  al (Value.cells t2) 37 w fun t5 w =>
  fld 0 t5 w fun t13 w =>
  ldN 3 t13 w fun t14 w =>
  al (zeroD prog 35) 35 w fun t8 w =>
  stN 3 t8 t14 w fun _ w =>
  ldN 3 t8 w fun t18 w =>
  Cl prog 99 #[t0, t1, t18] w fun t19 w =>
  xt 0 t19 w fun t20 w =>
  xt 1 t19 w fun t21 w =>
  xt 2 t19 w fun t22 w =>
  xt 3 t19 w fun t23 w =>
  bO prog .neq 103 (Operand.tmp 25) (Operand.const Value.nilIface) t23 Value.nilIface w fun t26 w =>
  iff' t26
  (K (Value.tuple #[(Value.slice none 0 0), t23]) w)
  (iff' t21
  (dr w fun w =>
  ncP t0 <|
  fld 6 t0 w fun t32 _ =>
  ld1 t32 w fun t33 _ =>
  ldN 3 t8 w fun t34 _ =>
  Cl prog 104 #[t33, t34] w fun _ w =>
  K (Value.tuple #[(Value.slice none 0 0), Value.nilIface]) w)
  (bnot t22 w fun t38 w =>
  iff' t38
  (ldN 3 t8 w fun t39 w =>
  Cl prog 100 #[t39, (Value.int IntKind.i64 4)] w fun t40 w =>
  K (Value.tuple #[(Value.slice none 0 0), t40]) w)
  (ncP t0 <|
  fld 6 t0 w fun t44 w =>
  ld1 t44 w fun t45 w =>
  Cl prog 101 #[t45] w fun t46 w =>
  bi .add .i64 t46 t20 w fun t48 w =>
  bi .gtr .i64 t48 (Value.int IntKind.i64 65) w fun t49 w =>
  iff' t49
  (ldN 3 t8 w fun t50 w =>
  Cl prog 100 #[t50, (Value.int IntKind.i64 2)] w fun t51 w =>
  K (Value.tuple #[(Value.slice none 0 0), t51]) w)
  (ldN 3 t8 w fun t53 w =>
  Cl prog 102 #[t0, t53, (Value.bool true)] w fun t54 w =>
  K (Value.tuple #[t54, Value.nilIface]) w))))
theorem warp_Node_anti_calls {t0 t1 t2 : Value} {w : World} {K : KV} (h : warp_Node_anti t0 t1 t2 w K) : Cl prog 49 #[t0, t1, t2] w K :=
  Cl.mk (by kernel_rfl) (calls_of_F (fn := fn49) (nt := 55) (rs := [6, 7]) mixed fnAt49 (by kernel_rfl) (by kernel_rfl) (by kernel_rfl) (Nat.le_of_ble_eq_true (by kernel_rfl)) (by kernel_rfl) (by kernel_rfl) h)

def warp_errno (t0 : Value) (w : World) (K : KV) : Prop :=
  bsl 30 1 4 (zeroD prog 30) [(0, (Value.int IntKind.i64 110)), (1, (Value.int IntKind.i64 3)), (2, (Value.int IntKind.i64 4)), (3, (Value.int IntKind.i64 2))] w fun t5 w =>
  lnS t5 w fun t6 w =>
  lp [(Value.int IntKind.i64 0)] w (b1 fun t7 w g1 =>
  bi .lss .i64 t7 t6 w fun t8 w =>
  iff' t8
  (ixS 1 t5 t7 w fun t9 w =>
  ld1 t9 w fun t10 w =>
  Cl prog 105 #[t0, (Value.iface 30 t10)] w fun t14 w =>
  iff' t14
  (K t10 w)
  (bi .add .i64 t7 (Value.int IntKind.i64 1) w fun t16 w =>
  g1 [t16] w))
  (K (Value.int IntKind.i64 0) w))
theorem warp_errno_calls {t0 : Value} {w : World} {K : KV} (h : warp_errno t0 w K) : Cl prog 50 #[t0] w K :=
  Cl.mk (by kernel_rfl) (calls_of_F (fn := fn50) (nt := 17) (rs := [2]) mixed fnAt50 (by kernel_rfl) (by kernel_rfl) (by kernel_rfl) (Nat.le_of_ble_eq_true (by kernel_rfl)) (by kernel_rfl) (by kernel_rfl) h)

def prio_Queue_First (t0 : Value) (w : World) (K : KV) : Prop :=
  al (zeroD prog 37) 37 w fun t2 w =>
  ncP t0 <|
  fld 1 t0 w fun t6 w =>
  ld1 t6 w fun t7 w =>
  lnS t7 w fun t8 w =>
  bi .eql .i64 t8 (Value.int IntKind.i64 0) w fun t9 w =>
  iff' t9
  (bld (zeroD prog 37) #[(0, 3), (3, 1), (4, 1), (5, 1)] [] w fun t10 w =>
  stN 6 t2 t10 w fun _ w =>
  ldN 6 t2 w fun r0 _ =>
  K (Value.tuple #[r0, (Value.bool false)]) w)
  (ncP t0 <|
  fld 1 t0 w fun t13 w =>
  ld1 t13 w fun t14 w =>
  ixS 6 t14 (Value.int IntKind.i64 0) w fun t15 w =>
  ldN 6 t15 w fun t16 w =>
  stN 6 t2 t16 w fun _ w =>
  ldN 6 t2 w fun r0 _ =>
  K (Value.tuple #[r0, (Value.bool true)]) w)
theorem prio_Queue_First_calls {t0 : Value} {w : World} {K : KV} (h : prio_Queue_First t0 w K) : Cl prog 51 #[t0] w K :=
  Cl.mk (by kernel_rfl) (calls_of_FC (fn := fn51) (nt := 17) (rs := [(2, some 37), (3, none)]) mixed fnAt51 (by kernel_rfl) (by kernel_rfl) (by kernel_rfl) (Nat.le_of_ble_eq_true (by kernel_rfl)) (by kernel_rfl) (by kernel_rfl) h)

def past_Past_Len (t0 : Value) (w : World) (K : KV) : Prop :=
  ncP t0 <|
  fld 1 t0 w fun t5 w =>
  ld1 t5 w fun t6 w =>
  lnS t6 w fun t7 w =>
  K t7 w
theorem past_Past_Len_calls {t0 : Value} {w : World} {K : KV} (h : past_Past_Len t0 w K) : Cl prog 52 #[t0] w K :=
  Cl.mk (by kernel_rfl) (calls_of_F (fn := fn52) (nt := 8) (rs := [2]) mixed fnAt52 (by kernel_rfl) (by kernel_rfl) (by kernel_rfl) (Nat.le_of_ble_eq_true (by kernel_rfl)) (by kernel_rfl) (by kernel_rfl) h)

def gate_Gate_Held (t0 : Value) (w : World) (K : KV) : Prop :=
  ncP t0 <|
  fld 1 t0 w fun t5 w =>
  ld1 t5 w fun t6 w =>
  Cl prog 106 #[t6] w fun t7 w =>
  K t7 w
theorem gate_Gate_Held_calls {t0 : Value} {w : World} {K : KV} (h : gate_Gate_Held t0 w K) : Cl prog 53 #[t0] w K :=
  Cl.mk (by kernel_rfl) (calls_of_F (fn := fn53) (nt := 8) (rs := [2]) mixed fnAt53 (by kernel_rfl) (by kernel_rfl) (by kernel_rfl) (Nat.le_of_ble_eq_true (by kernel_rfl)) (by kernel_rfl) (by kernel_rfl) h)

def prio_Queue_Pop (t0 : Value) (w : World) (K : KV) : Prop :=
  al (zeroD prog 37) 37 w fun t2 w =>
  ncP t0 <|
  fld 1 t0 w fun t6 w =>
  ld1 t6 w fun t7 w =>
  lnS t7 w fun t8 w =>
  bi .eql .i64 t8 (Value.int IntKind.i64 0) w fun t9 w =>
  iff' t9
  (bld (zeroD prog 37) #[(0, 3), (3, 1), (4, 1), (5, 1)] [] w fun t10 w =>
  stN 6 t2 t10 w fun _ w =>
  ldN 6 t2 w fun r0 _ =>
  K (Value.tuple #[r0, (Value.bool false)]) w)
  (bld (zeroD prog 172) #[(0, 1)] [(0, t0)] w fun t12 w =>
  Cl prog 107 #[(Value.iface 172 t12)] w fun t14 w =>
  tyA prog t14 20 37 false w fun t15 w =>
  stN 6 t2 t15 w fun _ w =>
  ldN 6 t2 w fun r0 _ =>
  K (Value.tuple #[r0, (Value.bool true)]) w)
theorem prio_Queue_Pop_calls {t0 : Value} {w : World} {K : KV} (h : prio_Queue_Pop t0 w K) : Cl prog 54 #[t0] w K :=
  Cl.mk (by kernel_rfl) (calls_of_FC (fn := fn54) (nt := 16) (rs := [(2, some 37), (3, none)]) mixed fnAt54 (by kernel_rfl) (by kernel_rfl) (by kernel_rfl) (Nat.le_of_ble_eq_true (by kernel_rfl)) (by kernel_rfl) (by kernel_rfl) h)

def table_Step (t0 t1 t2 : Value) (w : World) (K : KV) : Prop :=
  Cl prog 108 #[t0, t1, t2] w fun t12 w =>
  bi .lss .i64 t12 (Value.int IntKind.i64 0) w fun t14 w =>
  iff' t14
  (K (Value.tuple #[t1, (Value.slice none 0 0)]) w)
  (dr w fun w =>
  ixS 4 t0 t12 w fun t18 _ =>
  fld 2 t18 w fun t19 _ =>
  ld1 t19 w fun t20 _ =>
  ixS 4 t0 t12 w fun t23 _ =>
  fld 3 t23 w fun t24 _ =>
  ld1 t24 w fun t25 _ =>
  Cl prog 97 #[t25] w fun t26 w =>
  (ld1 t19 w (fun v' w'' => v' = t20 ∧ w'' = w)) ∧ (K (Value.tuple #[t20, t26]) w))
theorem table_Step_calls {t0 t1 t2 : Value} {w : World} {K : KV} (h : table_Step t0 t1 t2 w K) : Cl prog 55 #[t0, t1, t2] w K :=
  Cl.mk (by kernel_rfl) (calls_of_F (fn := fn55) (nt := 27) (rs := [6, 7]) mixed fnAt55 (by kernel_rfl) (by kernel_rfl) (by kernel_rfl) (Nat.le_of_ble_eq_true (by kernel_rfl)) (by kernel_rfl) (by kernel_rfl) h)

def config_Spread (t0 t1 t2 t3 t4 t5 : Value) (w : World) (K : KV) : Prop :=
  al (Value.cells t0) 27 w fun t6 w =>
  lnS t5 w fun t20 w =>
  lp [(Value.slice none 0 0), (Value.int IntKind.i64 0)] w (b2 fun t13 t21 w g1 =>
  bi .lss .i64 t21 t20 w fun t22 w =>
  iff' t22
  (ixS 3 t5 t21 w fun t24 w =>
  ldN 3 t24 w fun t25 w =>
  al (zeroD prog 87) 87 w fun t15 w =>
  stN 3 t15 t25 w fun _ w =>
  bi .add .i64 t2 t21 w fun t29 w =>
  ldN 3 t15 w fun t32 w =>
  Cl prog 109 #[t1, t29, t3, t4, t32] w fun t33 w =>
  al (zeroD prog 37) 37 w fun t16 w =>
  stN 6 t16 t33 w fun _ w =>
  ldN 3 t6 w fun t34 w =>
  fld 4 t16 w fun t36 w =>
  ld1 t36 w fun t37 w =>
  Cl prog 110 #[t34, t1, t37] w fun t38 w =>
  lnS t38 w fun t39 w =>
  lp [t13, (Value.int IntKind.i64 0)] w (b2 fun t13_1 t40 w g2 =>
  bi .lss .i64 t40 t39 w fun t41 w =>
  iff' t41
  (ixS 1 t38 t40 w fun t42 w =>
  ld1 t42 w fun t43 w =>
  fld 3 t16 w fun t45 w =>
  stN 1 t45 t43 w fun _ w =>
  ldN 6 t16 w fun t47 w =>
  bsl 37 6 1 (zeroD prog 37) [(0, t47)] w fun t48 w =>
  apS prog #[33, 33] 33 t13_1 t48 w fun t49 w =>
  bi .add .i64 t40 (Value.int IntKind.i64 1) w fun t50 w =>
  g2 [t49, t50] w)
  (bi .add .i64 t21 (Value.int IntKind.i64 1) w fun t51 w =>
  g1 [t13_1, t51] w)))
  (K t13 w))
theorem config_Spread_calls {t0 t1 t2 t3 t4 t5 : Value} {w : World} {K : KV} (h : config_Spread t0 t1 t2 t3 t4 t5 w K) : Cl prog 56 #[t0, t1, t2, t3, t4, t5] w K :=
  Cl.mk (by kernel_rfl) (calls_of_F (fn := fn56) (nt := 53) (rs := [12]) mixed fnAt56 (by kernel_rfl) (by kernel_rfl) (by kernel_rfl) (Nat.le_of_ble_eq_true (by kernel_rfl)) (by kernel_rfl) (by kernel_rfl) h)

def past_Past_Push (t0 t1 : Value) (w : World) (K : KV) : Prop :=
  al (Value.cells t1) 113 w fun t3 w =>
  Cl prog 111 #[t0] w fun t9 w =>
  xt 0 t9 w fun t10 w =>
  xt 1 t9 w fun t11 w =>
  al (zeroD prog 113) 113 w fun t5 w =>
  stN 10 t5 t10 w fun _ w =>
  dr w fun w =>
  fld 0 t3 w fun t13 _ =>
  fld 0 t13 w fun t14 _ =>
  fld 0 t14 w fun t15 _ =>
  ld1 t15 w fun t16 _ =>
  ncP t0 <|
  fld 0 t0 w fun t19 _ =>
  ld1 t19 w fun t20 _ =>
  bi .lss .i64 t16 t20 w fun t21 _ =>
  iff' t21
  (K (Value.int IntKind.i64 110) w)
  (gd t11 true (fun k => ldN 10 t5 w k) w fun t25 w =>
  gd t11 true (fun k => fld 0 t3 w k) w fun t26 w =>
  gd t11 true (fun k => fld 0 t26 w k) w fun t27 w =>
  gd t11 true (fun k => ldN 3 t27 w k) w fun t28 w =>
  gd t11 true (fun k => Cl prog 112 #[t25, t28] w k) w fun t29 w =>
  gd t11 true (fun k => bnot t29 w k) w fun t30 w =>
  pk t11 t30 (Value.bool false) w fun t31 w =>
  iff' t31
  (K (Value.int IntKind.i64 130) w)
  (ncP t0 <|
  fld 1 t0 w fun t35 w =>
  ld1 t35 w fun t36 w =>
  lnS t36 w fun t37 w =>
  bi .geq .i64 t37 (Value.int IntKind.i64 64) w fun t38 w =>
  iff' t38
  (K (Value.int IntKind.i64 2) w)
  (dr w fun w =>
  ncP t0 <|
  fld 1 t0 w fun t42 _ =>
  ld1 t42 w fun t43 _ =>
  ldN 10 t3 w fun t44 _ =>
  Cl prog 113 #[t44] w fun t45 w =>
  (ld1 t42 w (fun v' w'' => v' = t43 ∧ w'' = w)) ∧ (bsl 113 10 1 (zeroD prog 113) [(0, t45)] w fun t46 w =>
  (ld1 t42 w (fun v' w'' => v' = t43 ∧ w'' = w)) ∧ (apS prog #[115, 115] 115 t43 t46 w fun t47 w =>
  ncP t0 <|
  fld 1 t0 w fun t49 _ =>
  stN 1 t49 t47 w fun _ w =>
  K (Value.int IntKind.i64 0) w)))))
theorem past_Past_Push_calls {t0 t1 : Value} {w : World} {K : KV} (h : past_Past_Push t0 t1 w K) : Cl prog 57 #[t0, t1] w K :=
  Cl.mk (by kernel_rfl) (calls_of_F (fn := fn57) (nt := 50) (rs := [4]) mixed fnAt57 (by kernel_rfl) (by kernel_rfl) (by kernel_rfl) (Nat.le_of_ble_eq_true (by kernel_rfl)) (by kernel_rfl) (by kernel_rfl) h)

def warp_Node_bold (t0 t1 : Value) (w : World) (K : KV) : Prop :=
  ncP t0 <|
  fld 0 t0 w fun t7 w =>
  fld 1 t7 w fun t8 w =>
  ld1 t8 w fun t9 w =>
  ixS 7 t9 t1 w fun t11 w =>
  fld 0 t11 w fun t12 w =>
  ld1 t12 w fun t13 w =>
  bi .eql .i64 t13 (Value.int IntKind.i64 1) w fun t14 w =>
  K t14 w
theorem warp_Node_bold_calls {t0 t1 : Value} {w : World} {K : KV} (h : warp_Node_bold t0 t1 w K) : Cl prog 58 #[t0, t1] w K :=
  Cl.mk (by kernel_rfl) (calls_of_F (fn := fn58) (nt := 15) (rs := [4]) mixed fnAt58 (by kernel_rfl) (by kernel_rfl) (by kernel_rfl) (Nat.le_of_ble_eq_true (by kernel_rfl)) (by kernel_rfl) (by kernel_rfl) h)

def gate_Gate_Hold (t0 t1 t2 : Value) (w : World) (K : KV) : Prop :=
  al (Value.cells t1) 35 w fun t4 w =>
  al (Value.cells t2) 37 w fun t5 w =>
  dr w fun w =>
  fld 0 t4 w fun t8 _ =>
  ld1 t8 w fun t9 _ =>
  ncP t0 <|
  fld 0 t0 w fun t12 _ =>
  ld1 t12 w fun t13 _ =>
  bi .lss .i64 t9 t13 w fun t14 _ =>
  iff' t14
  (K (Value.int IntKind.i64 110) w)
  (ncP t0 <|
  fld 1 t0 w fun t18 w =>
  ld1 t18 w fun t19 w =>
  lnS t19 w fun t20 w =>
  bi .geq .i64 t20 (Value.int IntKind.i64 256) w fun t21 w =>
  iff' t21
  (K (Value.int IntKind.i64 2) w)
  (dr w fun w =>
  ncP t0 <|
  fld 1 t0 w fun t25 _ =>
  ld1 t25 w fun t26 _ =>
  ldN 3 t4 w fun t27 _ =>
  ldN 6 t5 w fun t28 _ =>
  bld (zeroD prog 177) #[(0, 3), (3, 6)] [(0, t27), (1, t28)] w fun t29 w =>
  (ld1 t25 w (fun v' w'' => v' = t26 ∧ w'' = w)) ∧ (bsl 177 9 1 (zeroD prog 177) [(0, t29)] w fun t30 w =>
  (ld1 t25 w (fun v' w'' => v' = t26 ∧ w'' = w)) ∧ (apS prog #[158, 158] 158 t26 t30 w fun t31 w =>
  ncP t0 <|
  fld 1 t0 w fun t33 _ =>
  stN 1 t33 t31 w fun _ w =>
  K (Value.int IntKind.i64 0) w))))
theorem gate_Gate_Hold_calls {t0 t1 t2 : Value} {w : World} {K : KV} (h : gate_Gate_Hold t0 t1 t2 w K) : Cl prog 59 #[t0, t1, t2] w K :=
  Cl.mk (by kernel_rfl) (calls_of_F (fn := fn59) (nt := 34) (rs := [6]) mixed fnAt59 (by kernel_rfl) (by kernel_rfl) (by kernel_rfl) (Nat.le_of_ble_eq_true (by kernel_rfl)) (by kernel_rfl) (by kernel_rfl) h)

def prio_Queue_List (t0 : Value) (w : World) (K : KV) : Prop :=
  ncP t0 <|
  fld 1 t0 w fun t6 w =>
  ld1 t6 w fun t7 w =>
  Cl prog 114 #[t7] w fun t8 w =>
  Cl prog 115 #[t8, (Value.func (.func 116) #[] #[])] w fun _ w =>
  K t8 w
theorem prio_Queue_List_calls {t0 : Value} {w : World} {K : KV} (h : prio_Queue_List t0 w K) : Cl prog 60 #[t0] w K :=
  Cl.mk (by kernel_rfl) (calls_of_F (fn := fn60) (nt := 12) (rs := [2]) mixed fnAt60 (by kernel_rfl) (by kernel_rfl) (by kernel_rfl) (Nat.le_of_ble_eq_true (by kernel_rfl)) (by kernel_rfl) (by kernel_rfl) h)

def past_Past_Floor (t0 : Value) (w : World) (K : KV) : Prop :=
  ncP t0 <|
  fld 0 t0 w fun t5 w =>
  ld1 t5 w fun t6 w =>
  K t6 w
theorem past_Past_Floor_calls {t0 : Value} {w : World} {K : KV} (h : past_Past_Floor t0 w K) : Cl prog 61 #[t0] w K :=
  Cl.mk (by kernel_rfl) (calls_of_F (fn := fn61) (nt := 7) (rs := [2]) mixed fnAt61 (by kernel_rfl) (by kernel_rfl) (by kernel_rfl) (Nat.le_of_ble_eq_true (by kernel_rfl)) (by kernel_rfl) (by kernel_rfl) h)

def past_Past_Settle (t0 t1 : Value) (w : World) (K : KV) : Prop :=
  bld (zeroD prog 35) #[(0, 1), (1, 1), (2, 1)] [(0, t1)] w fun t9 w =>
  Cl prog 118 #[t0, (Value.func (.func 119) #[] #[]), t9] w fun t10 w =>
  ncP t0 <|
  fld 1 t0 w fun t13 w =>
  ld1 t13 w fun t14 w =>
  slc 10 t14 none (some t10) w fun t16 w =>
  Cl prog 120 #[t16] w fun t17 w =>
  ncP t0 <|
  fld 1 t0 w fun t21 w =>
  ld1 t21 w fun t22 w =>
  slc 10 t22 (some t10) none w fun t24 w =>
  Cl prog 120 #[t24] w fun t25 w =>
  ncP t0 <|
  fld 1 t0 w fun t27 w =>
  stN 1 t27 t25 w fun _ w =>
  ncP t0 <|
  fld 0 t0 w fun t31 w =>
  ld1 t31 w fun t32 w =>
  mxI .i64 t32 t1 w fun t34 w =>
  ncP t0 <|
  fld 0 t0 w fun t36 w =>
  stN 1 t36 t34 w fun _ w =>
  K t17 w
theorem past_Past_Settle_calls {t0 t1 : Value} {w : World} {K : KV} (h : past_Past_Settle t0 t1 w K) : Cl prog 62 #[t0, t1] w K :=
  Cl.mk (by kernel_rfl) (calls_of_F (fn := fn62) (nt := 38) (rs := [4]) mixed fnAt62 (by kernel_rfl) (by kernel_rfl) (by kernel_rfl) (Nat.le_of_ble_eq_true (by kernel_rfl)) (by kernel_rfl) (by kernel_rfl) h)

end Go.Proofs.YtbopajpmadlmhaaGreat
end
section
namespace Go.Proofs.YtbopajpmadlmhaaGreat
open Go Go.E
set_option linter.unusedVariables false
set_option maxRecDepth 100000
def gate_Gate_Open (t0 t1 : Value) (w : World) (K : KV) : Prop :=
  al (Value.cells t1) 3 w fun t3 w =>
  Cl prog 121 #[t0, (Value.func (Fn.func 122) #[] #[t3])] w fun t8 w =>
  Cl prog 123 #[t8, (Value.func (.func 124) #[] #[])] w fun _ w =>
  dr w fun w =>
  ncP t0 <|
  fld 0 t0 w fun t14 _ =>
  ld1 t14 w fun t15 _ =>
  ld1 t3 w fun t16 _ =>
  mxI .i64 t15 t16 w fun t17 w =>
  ncP t0 <|
  fld 0 t0 w fun t19 _ =>
  stN 1 t19 t17 w fun _ w =>
  Cl prog 106 #[t8] w fun t21 w =>
  K t21 w
theorem gate_Gate_Open_calls {t0 t1 : Value} {w : World} {K : KV} (h : gate_Gate_Open t0 t1 w K) : Cl prog 63 #[t0, t1] w K :=
  Cl.mk (by kernel_rfl) (calls_of_F (fn := fn63) (nt := 22) (rs := [4]) mixed fnAt63 (by kernel_rfl) (by kernel_rfl) (by kernel_rfl) (Nat.le_of_ble_eq_true (by kernel_rfl)) (by kernel_rfl) (by kernel_rfl) h)

def vtime_Least (t0 : Value) (w : World) (K : KV) : Prop :=
  lnS t0 w fun t7 w =>
  lp [(Value.int IntKind.i64 1125899906842624), (Value.int IntKind.i64 0)] w (b2 fun t3 t8 w g1 =>
  bi .lss .i64 t8 t7 w fun t9 w =>
  iff' t9
  (ixS 1 t0 t8 w fun t10 w =>
  ld1 t10 w fun t11 w =>
  Cl prog 125 #[t11] w fun t14 w =>
  mnI .i64 t3 t14 w fun t15 w =>
  bi .add .i64 t8 (Value.int IntKind.i64 1) w fun t16 w =>
  g1 [t15, t16] w)
  (K t3 w))
theorem vtime_Least_calls {t0 : Value} {w : World} {K : KV} (h : vtime_Least t0 w K) : Cl prog 64 #[t0] w K :=
  Cl.mk (by kernel_rfl) (calls_of_F (fn := fn64) (nt := 18) (rs := [2]) mixed fnAt64 (by kernel_rfl) (by kernel_rfl) (by kernel_rfl) (Nat.le_of_ble_eq_true (by kernel_rfl)) (by kernel_rfl) (by kernel_rfl) h)

def pacelineref07_Find (t0 t1 t2 : Value) (w : World) (K : KV) : Prop :=
  lp [(Value.int IntKind.i64 0)] w (b1 fun t7 w g1 =>
  lnS t0 w fun t10 w =>
  bi .lss .i64 t7 t10 w fun t11 w =>
  iff' t11
  (ixS 4 t0 t7 w fun t16 w =>
  fld 0 t16 w fun t17 w =>
  ld1 t17 w fun t18 w =>
  bi .eql .i64 t18 t1 w fun t20 w =>
  gd t20 true (fun k => k t0 w) w fun t22 w =>
  gd t20 true (fun k => k t7 w) w fun t23 w =>
  gd t20 true (fun k => ixS 4 t22 t23 w k) w fun t24 w =>
  gd t20 true (fun k => fld 1 t24 w k) w fun t25 w =>
  gd t20 true (fun k => ld1 t25 w k) w fun t26 w =>
  gd t20 true (fun k => k t2 w) w fun t27 w =>
  gd t20 true (fun k => bi .eql .i64 t26 t27 w k) w fun t28 w =>
  pk t20 t28 (Value.bool false) w fun t29 w =>
  iff' t29
  (K t7 w)
  (bi .add .i64 t7 (Value.int IntKind.i64 1) w fun t13 w =>
  g1 [t13] w))
  (K (Value.int IntKind.i64 (-1)) w))
theorem pacelineref07_Find_calls {t0 t1 t2 : Value} {w : World} {K : KV} (h : pacelineref07_Find t0 t1 t2 w K) : Cl prog 65 #[t0, t1, t2] w K :=
  Cl.mk (by kernel_rfl) (calls_of_F (fn := fn65) (nt := 31) (rs := [6]) mixed fnAt65 (by kernel_rfl) (by kernel_rfl) (by kernel_rfl) (Nat.le_of_ble_eq_true (by kernel_rfl)) (by kernel_rfl) (by kernel_rfl) h)

def pacelineref07_Sent (t0 t1 t2 t3 t4 : Value) (w : World) (K : KV) : Prop :=
  al (Value.cells t4) 87 w fun t9 w =>
  al (zeroD prog 37) 37 w fun t10 w =>
  bi .rem .i64 t3 (Value.int IntKind.i64 1000) w fun t13 w =>
  fld 2 t9 w fun t14 w =>
  ld1 t14 w fun t15 w =>
  bi .rem .i64 t15 (Value.int IntKind.i64 1000) w fun t16 w =>
  bi .add .i64 t13 t16 w fun t17 w =>
  bi .rem .i64 t17 (Value.int IntKind.i64 1000) w fun t18 w =>
  bi .add .i64 t18 (Value.int IntKind.i64 1000) w fun t19 w =>
  dr w fun w =>
  fld 1 t9 w fun t21 _ =>
  ld1 t21 w fun t22 _ =>
  fld 0 t9 w fun t27 _ =>
  ld1 t27 w fun t28 _ =>
  bi .rem .i64 t19 (Value.int IntKind.i64 1000) w fun t30 _ =>
  Cl prog 87 #[t2, t22] w fun t23 w =>
  (ld1 t27 w (fun v' w'' => v' = t28 ∧ w'' = w)) ∧ (bld (zeroD prog 35) #[(0, 1), (1, 1), (2, 1)] [(0, t23), (1, t0), (2, t1)] w fun t26 w =>
  (ld1 t27 w (fun v' w'' => v' = t28 ∧ w'' = w)) ∧ (bld (zeroD prog 37) #[(0, 3), (3, 1), (4, 1), (5, 1)] [(0, t26), (1, (Value.int IntKind.i64 (-1))), (2, t28), (3, t30)] w fun t31 w =>
  stN 6 t10 t31 w fun _ w =>
  ldN 6 t10 w fun r0 _ =>
  K r0 w))
theorem pacelineref07_Sent_calls {t0 t1 t2 t3 t4 : Value} {w : World} {K : KV} (h : pacelineref07_Sent t0 t1 t2 t3 t4 w K) : Cl prog 66 #[t0, t1, t2, t3, t4] w K :=
  Cl.mk (by kernel_rfl) (calls_of_FC (fn := fn66) (nt := 32) (rs := [(10, some 37)]) mixed fnAt66 (by kernel_rfl) (by kernel_rfl) (by kernel_rfl) (Nat.le_of_ble_eq_true (by kernel_rfl)) (by kernel_rfl) (by kernel_rfl) h)

def pacelineref08_Routes (t0 t1 t2 : Value) (w : World) (K : KV) : Prop :=
  al (Value.cells t0) 27 w fun t3 w =>
  fld 0 t3 w fun t12 w =>
  ld1 t12 w fun t13 w =>
  Cl prog 126 #[t13, t2] w fun t15 w =>
  bsl 3 1 0 #[] [] w fun t16 w =>
  lp [t16, (Value.int IntKind.i64 0)] w (b2 fun t8 t9 w g1 =>
  fld 1 t3 w fun t18 w =>
  ld1 t18 w fun t19 w =>
  lnS t19 w fun t20 w =>
  bi .lss .i64 t9 t20 w fun t21 w =>
  iff' t21
  (J1 (fun t8_1 w =>
  bi .add .i64 t9 (Value.int IntKind.i64 1) w fun t23 w =>
  g1 [t8_1, t23] w) fun k2 =>
  lp [(Value.bool false), (Value.int IntKind.i64 0)] w (b2 fun t10 t11 w g3 =>
  lnS t15 w fun t26 w =>
  bi .lss .i64 t11 t26 w fun t27 w =>
  iff' t27
  (dr w fun w =>
  gd t10 false (fun k => fld 1 t3 w k) w fun t32 _ =>
  gd t10 false (fun k => ld1 t32 w k) w fun t33 _ =>
  gd t10 false (fun k => k t9 w) w fun t34 _ =>
  gd t10 false (fun k => ixS 7 t33 t34 w k) w fun t35 _ =>
  gd t10 false (fun k => fld 5 t35 w k) w fun t36 _ =>
  gd t10 false (fun k => ld1 t36 w k) w fun t37 _ =>
  gd t10 false (fun k => k t15 w) w fun t38 _ =>
  gd t10 false (fun k => k t11 w) w fun t39 _ =>
  gd t10 false (fun k => ixS 1 t38 t39 w k) w fun t40 _ =>
  gd t10 false (fun k => ld1 t40 w k) w fun t41 _ =>
  gd t10 false (fun k => Cl prog 127 #[t37, t41] w k) w fun t42 w =>
  pk t10 (Value.bool true) t42 w fun t43 _ =>
  bi .add .i64 t11 (Value.int IntKind.i64 1) w fun t29 w =>
  g3 [t43, t29] w)
  (bi .neq .i64 t9 t1 w fun t46 w =>
  gd t46 true (fun k => k t10 w) w fun t48 w =>
  pk t46 t48 (Value.bool false) w fun t49 w =>
  iff' t49
  (bsl 3 1 1 (zeroD prog 3) [(0, t9)] w fun t52 w =>
  apS prog #[24, 24] 24 t8 t52 w fun t53 w =>
  k2 t53 w)
  (k2 t8 w))))
  (K t8 w))
theorem pacelineref08_Routes_calls {t0 t1 t2 : Value} {w : World} {K : KV} (h : pacelineref08_Routes t0 t1 t2 w K) : Cl prog 67 #[t0, t1, t2] w K :=
  Cl.mk (by kernel_rfl) (calls_of_F (fn := fn67) (nt := 55) (rs := [6]) mixed fnAt67 (by kernel_rfl) (by kernel_rfl) (by kernel_rfl) (Nat.le_of_ble_eq_true (by kernel_rfl)) (by kernel_rfl) (by kernel_rfl) h)

def vtime_Add (t0 t1 : Value) (w : World) (K : KV) : Prop :=
  Cl prog 125 #[t0] w fun t6 w =>
  Cl prog 125 #[t1] w fun t8 w =>
  bi .add .i64 t6 t8 w fun t9 w =>
  Cl prog 125 #[t9] w fun t10 w =>
  K t10 w
theorem vtime_Add_calls {t0 t1 : Value} {w : World} {K : KV} (h : vtime_Add t0 t1 w K) : Cl prog 68 #[t0, t1] w K :=
  Cl.mk (by kernel_rfl) (calls_of_F (fn := fn68) (nt := 11) (rs := [4]) mixed fnAt68 (by kernel_rfl) (by kernel_rfl) (by kernel_rfl) (Nat.le_of_ble_eq_true (by kernel_rfl)) (by kernel_rfl) (by kernel_rfl) h)

def slices_Clone_api_Done_api_Done (t0 : Value) (w : World) (K : KV) : Prop :=
  bO prog .eql 52 (Operand.tmp 3) (Operand.const (Value.slice none 0 0)) t0 (Value.slice none 0 0) w fun t4 w =>
  iff' t4
  (K (Value.slice none 0 0) w)
  (bsl 45 7 0 #[] [] w fun t5 w =>
  apS prog #[52, 52] 52 t5 t0 w fun t7 w =>
  K t7 w)
theorem slices_Clone_api_Done_api_Done_calls {t0 : Value} {w : World} {K : KV} (h : slices_Clone_api_Done_api_Done t0 w K) : Cl prog 69 #[t0] w K :=
  Cl.mk (by kernel_rfl) (calls_of_F (fn := fn69) (nt := 8) (rs := [2]) mixed fnAt69 (by kernel_rfl) (by kernel_rfl) (by kernel_rfl) (Nat.le_of_ble_eq_true (by kernel_rfl)) (by kernel_rfl) (by kernel_rfl) h)

def pacelineref08_Check (t0 : Value) (w : World) (K : KV) : Prop :=
  al (Value.cells t0) 27 w fun t1 w =>
  fld 0 t1 w fun t7 w =>
  ld1 t7 w fun t8 w =>
  Cl prog 128 #[t8] w fun t9 w =>
  bi .neq .i64 t9 (Value.int IntKind.i64 0) w fun t11 w =>
  iff' t11
  (K (Value.tuple #[(Value.int IntKind.i64 (-1)), t9]) w)
  (fld 2 t1 w fun t13 w =>
  ld1 t13 w fun t14 w =>
  bi .lss .i64 t14 (Value.int IntKind.i64 0) w fun t15 w =>
  gd t15 false (fun k => fld 2 t1 w k) w fun t17 w =>
  gd t15 false (fun k => ld1 t17 w k) w fun t18 w =>
  gd t15 false (fun k => bi .gtr .i64 t18 (Value.int IntKind.i64 1099511627776) w k) w fun t19 w =>
  pk t15 (Value.bool true) t19 w fun t20 w =>
  gd t20 false (fun k => fld 1 t1 w k) w fun t22 w =>
  gd t20 false (fun k => ld1 t22 w k) w fun t23 w =>
  gd t20 false (fun k => lnS t23 w k) w fun t24 w =>
  gd t20 false (fun k => bi .lss .i64 t24 (Value.int IntKind.i64 1) w k) w fun t25 w =>
  pk t20 (Value.bool true) t25 w fun t26 w =>
  gd t26 false (fun k => fld 1 t1 w k) w fun t28 w =>
  gd t26 false (fun k => ld1 t28 w k) w fun t29 w =>
  gd t26 false (fun k => lnS t29 w k) w fun t30 w =>
  gd t26 false (fun k => bi .gtr .i64 t30 (Value.int IntKind.i64 8) w k) w fun t31 w =>
  pk t26 (Value.bool true) t31 w fun t32 w =>
  iff' t32
  (K (Value.tuple #[(Value.int IntKind.i64 (-1)), (Value.int IntKind.i64 1)]) w)
  (lp [(Value.int IntKind.i64 0)] w (b1 fun t5 w g1 =>
  fld 1 t1 w fun t34 w =>
  ld1 t34 w fun t35 w =>
  lnS t35 w fun t36 w =>
  bi .lss .i64 t5 t36 w fun t37 w =>
  iff' t37
  (dr w fun w =>
  fld 1 t1 w fun t40 _ =>
  ld1 t40 w fun t41 _ =>
  ixS 7 t41 t5 w fun t43 _ =>
  ldN 7 t43 w fun t44 _ =>
  fld 0 t1 w fun t45 _ =>
  ld1 t45 w fun t46 _ =>
  lnS t46 w fun t47 _ =>
  Cl prog 129 #[t44, t47] w fun t48 w =>
  bi .neq .i64 t48 (Value.int IntKind.i64 0) w fun t50 w =>
  iff' t50
  (K (Value.tuple #[t5, t48]) w)
  (bi .add .i64 t5 (Value.int IntKind.i64 1) w fun t39 w =>
  g1 [t39] w))
  (K (Value.tuple #[(Value.int IntKind.i64 (-1)), (Value.int IntKind.i64 0)]) w))))
theorem pacelineref08_Check_calls {t0 : Value} {w : World} {K : KV} (h : pacelineref08_Check t0 w K) : Cl prog 70 #[t0] w K :=
  Cl.mk (by kernel_rfl) (calls_of_F (fn := fn70) (nt := 53) (rs := [2, 3]) mixed fnAt70 (by kernel_rfl) (by kernel_rfl) (by kernel_rfl) (Nat.le_of_ble_eq_true (by kernel_rfl)) (by kernel_rfl) (by kernel_rfl) h)

def pacelineref03_New (t0 : Value) (w : World) (K : KV) : Prop :=
  mnI .i64 t0 (Value.int IntKind.i64 64) w fun t4 w =>
  mxI .i64 (Value.int IntKind.i64 0) t4 w fun t5 w =>
  bld (zeroD prog 134) #[(0, 1), (1, 1)] [(0, t5)] w fun t6 w =>
  al (Value.cells t6) 134 w fun t7 w =>
  K t7 w
theorem pacelineref03_New_calls {t0 : Value} {w : World} {K : KV} (h : pacelineref03_New t0 w K) : Cl prog 71 #[t0] w K :=
  Cl.mk (by kernel_rfl) (calls_of_F (fn := fn71) (nt := 8) (rs := [2]) mixed fnAt71 (by kernel_rfl) (by kernel_rfl) (by kernel_rfl) (Nat.le_of_ble_eq_true (by kernel_rfl)) (by kernel_rfl) (by kernel_rfl) h)

def pacelineref13_New (w : World) (K : KV) : Prop :=
  bld (zeroD prog 130) #[(0, 1), (1, 1)] [] w fun t1 w =>
  al (Value.cells t1) 130 w fun t2 w =>
  K t2 w
theorem pacelineref13_New_calls {w : World} {K : KV} (h : pacelineref13_New w K) : Cl prog 72 #[] w K :=
  Cl.mk (by kernel_rfl) (calls_of_F (fn := fn72) (nt := 3) (rs := [0]) mixed fnAt72 (by kernel_rfl) (by kernel_rfl) (by kernel_rfl) (Nat.le_of_ble_eq_true (by kernel_rfl)) (by kernel_rfl) (by kernel_rfl) h)

def pacelineref14_New (w : World) (K : KV) : Prop :=
  bld (zeroD prog 138) #[(0, 1), (1, 1)] [] w fun t1 w =>
  al (Value.cells t1) 138 w fun t2 w =>
  K t2 w
theorem pacelineref14_New_calls {w : World} {K : KV} (h : pacelineref14_New w K) : Cl prog 73 #[] w K :=
  Cl.mk (by kernel_rfl) (calls_of_F (fn := fn73) (nt := 3) (rs := [0]) mixed fnAt73 (by kernel_rfl) (by kernel_rfl) (by kernel_rfl) (Nat.le_of_ble_eq_true (by kernel_rfl)) (by kernel_rfl) (by kernel_rfl) h)

def pacelineref01_Valid (t0 : Value) (w : World) (K : KV) : Prop :=
  bi .geq .i64 t0 (Value.int IntKind.i64 0) w fun t4 w =>
  gd t4 true (fun k => k t0 w) w fun t6 w =>
  gd t4 true (fun k => bi .leq .i64 t6 (Value.int IntKind.i64 1099511627776) w k) w fun t7 w =>
  pk t4 t7 (Value.bool false) w fun t8 w =>
  gd t8 false (fun k => k t0 w) w fun t10 w =>
  gd t8 false (fun k => bi .eql .i64 t10 (Value.int IntKind.i64 1125899906842624) w k) w fun t11 w =>
  pk t8 (Value.bool true) t11 w fun t12 w =>
  K t12 w
theorem pacelineref01_Valid_calls {t0 : Value} {w : World} {K : KV} (h : pacelineref01_Valid t0 w K) : Cl prog 74 #[t0] w K :=
  Cl.mk (by kernel_rfl) (calls_of_F (fn := fn74) (nt := 13) (rs := [2]) mixed fnAt74 (by kernel_rfl) (by kernel_rfl) (by kernel_rfl) (Nat.le_of_ble_eq_true (by kernel_rfl)) (by kernel_rfl) (by kernel_rfl) h)

def pacelineref15_Node_behind (t0 t1 : Value) (w : World) (K : KV) : Prop :=
  al (Value.cells t1) 35 w fun t3 w =>
  lp [(Value.int IntKind.i64 0), (Value.bool false), (Value.int IntKind.i64 0)] w (b3 fun t6 t7 t8 w g1 =>
  ncP t0 <|
  fld 7 t0 w fun t13 w =>
  ld1 t13 w fun t14 w =>
  ncP t14 <|
  fld 1 t14 w fun t16 w =>
  ld1 t16 w fun t17 w =>
  lnS t17 w fun t18 w =>
  bi .lss .i64 t8 t18 w fun t19 w =>
  iff' t19
  (dr w fun w =>
  ncP t0 <|
  fld 7 t0 w fun t24 _ =>
  ld1 t24 w fun t25 _ =>
  ncP t25 <|
  fld 1 t25 w fun t27 _ =>
  ld1 t27 w fun t28 _ =>
  ixS 10 t28 t8 w fun t30 _ =>
  fld 0 t30 w fun t31 _ =>
  fld 0 t31 w fun t32 _ =>
  ldN 3 t32 w fun t33 _ =>
  ldN 3 t3 w fun t34 _ =>
  Cl prog 29 #[t33, t34] w fun t35 w =>
  bi .geq .i64 t35 (Value.int IntKind.i64 0) w fun t37 w =>
  J1 (fun t6_1 w =>
  gd t7 false (fun k => k t35 w) w fun t42 w =>
  gd t7 false (fun k => bi .eql .i64 t42 (Value.int IntKind.i64 0) w k) w fun t43 w =>
  pk t7 (Value.bool true) t43 w fun t44 w =>
  bi .add .i64 t8 (Value.int IntKind.i64 1) w fun t21 w =>
  g1 [t6_1, t44, t21] w) fun k2 =>
  iff' t37
  (bi .add .i64 t6 (Value.int IntKind.i64 1) w fun t39 w =>
  k2 t39 w)
  (k2 t6 w))
  (K (Value.tuple #[t6, t7]) w))
theorem pacelineref15_Node_behind_calls {t0 t1 : Value} {w : World} {K : KV} (h : pacelineref15_Node_behind t0 t1 w K) : Cl prog 75 #[t0, t1] w K :=
  Cl.mk (by kernel_rfl) (calls_of_F (fn := fn75) (nt := 47) (rs := [4, 5]) mixed fnAt75 (by kernel_rfl) (by kernel_rfl) (by kernel_rfl) (Nat.le_of_ble_eq_true (by kernel_rfl)) (by kernel_rfl) (by kernel_rfl) h)

def pacelineref15_Node_waits (t0 t1 : Value) (w : World) (K : KV) : Prop :=
  al (Value.cells t1) 35 w fun t3 w =>
  lp [(Value.int IntKind.i64 0)] w (b1 fun t5 w g1 =>
  ncP t0 <|
  fld 6 t0 w fun t9 w =>
  ld1 t9 w fun t10 w =>
  ncP t10 <|
  fld 1 t10 w fun t12 w =>
  ld1 t12 w fun t13 w =>
  lnS t13 w fun t14 w =>
  bi .lss .i64 t5 t14 w fun t15 w =>
  iff' t15
  (dr w fun w =>
  ncP t0 <|
  fld 6 t0 w fun t20 _ =>
  ld1 t20 w fun t21 _ =>
  ncP t21 <|
  fld 1 t21 w fun t23 _ =>
  ld1 t23 w fun t24 _ =>
  ixS 6 t24 t5 w fun t26 _ =>
  fld 0 t26 w fun t27 _ =>
  ldN 3 t27 w fun t28 _ =>
  ldN 3 t3 w fun t29 _ =>
  bO prog .eql 35 (Operand.tmp 28) (Operand.tmp 29) t28 t29 w fun t30 w =>
  iff' t30
  (K (Value.bool true) w)
  (bi .add .i64 t5 (Value.int IntKind.i64 1) w fun t17 w =>
  g1 [t17] w))
  (K (Value.bool false) w))
theorem pacelineref15_Node_waits_calls {t0 t1 : Value} {w : World} {K : KV} (h : pacelineref15_Node_waits t0 t1 w K) : Cl prog 76 #[t0, t1] w K :=
  Cl.mk (by kernel_rfl) (calls_of_F (fn := fn76) (nt := 31) (rs := [4]) mixed fnAt76 (by kernel_rfl) (by kernel_rfl) (by kernel_rfl) (Nat.le_of_ble_eq_true (by kernel_rfl)) (by kernel_rfl) (by kernel_rfl) h)

def pacelineref03_Queue_Len (t0 : Value) (w : World) (K : KV) : Prop :=
  ncP t0 <|
  fld 1 t0 w fun t5 w =>
  ld1 t5 w fun t6 w =>
  lnS t6 w fun t7 w =>
  K t7 w
theorem pacelineref03_Queue_Len_calls {t0 : Value} {w : World} {K : KV} (h : pacelineref03_Queue_Len t0 w K) : Cl prog 77 #[t0] w K :=
  Cl.mk (by kernel_rfl) (calls_of_F (fn := fn77) (nt := 8) (rs := [2]) mixed fnAt77 (by kernel_rfl) (by kernel_rfl) (by kernel_rfl) (Nat.le_of_ble_eq_true (by kernel_rfl)) (by kernel_rfl) (by kernel_rfl) h)

def pacelineref15_Node_undo (t0 t1 : Value) (w : World) (K : KV) : Prop :=
  al (Value.cells t1) 35 w fun t3 w =>
  bsl 43 8 0 #[] [] w fun t10 w =>
  dr w fun w =>
  ncP t0 <|
  fld 7 t0 w fun t13 _ =>
  ld1 t13 w fun t14 _ =>
  ldN 3 t3 w fun t15 _ =>
  Cl prog 130 #[t14, t15] w fun t16 w =>
  lp [t10, (Value.int IntKind.i64 0)] w (b2 fun t5 t7 w g1 =>
  lnS t16 w fun t19 w =>
  bi .lss .i64 t7 t19 w fun t20 w =>
  iff' t20
  (ixS 10 t16 t7 w fun t26 w =>
  fld 6 t26 w fun t27 w =>
  ld1 t27 w fun t28 w =>
  ncP t0 <|
  fld 4 t0 w fun t30 w =>
  stN 1 t30 t28 w fun _ w =>
  ixS 10 t16 t7 w fun t34 w =>
  fld 7 t34 w fun t35 w =>
  ld1 t35 w fun t36 w =>
  ncP t0 <|
  fld 5 t0 w fun t38 w =>
  stN 1 t38 t36 w fun _ w =>
  dr w fun w =>
  ncP t0 <|
  fld 6 t0 w fun t41 _ =>
  ld1 t41 w fun t42 _ =>
  ncP t0 <|
  fld 6 t0 w fun t45 _ =>
  ld1 t45 w fun t46 _ =>
  ncP t46 <|
  fld 1 t46 w fun t48 _ =>
  ld1 t48 w fun t49 _ =>
  ixS 10 t16 t7 w fun t52 _ =>
  fld 0 t52 w fun t53 _ =>
  ldN 6 t53 w fun t54 _ =>
  Cl prog 13 #[t49, t54] w fun t55 w =>
  (ld1 t41 w (fun v' w'' => v' = t42 ∧ w'' = w)) ∧ (ncP t42 <|
  fld 1 t42 w fun t57 _ =>
  stN 1 t57 t55 w fun _ w =>
  lp [t5, (Value.int IntKind.i64 0)] w (b2 fun t5_1 t8 w g2 =>
  ixS 10 t16 t7 w fun t61 w =>
  fld 9 t61 w fun t62 w =>
  ld1 t62 w fun t63 w =>
  lnS t63 w fun t64 w =>
  bi .lss .i64 t8 t64 w fun t65 w =>
  iff' t65
  (J1 (fun t5_2 w =>
  bi .add .i64 t8 (Value.int IntKind.i64 1) w fun t67 w =>
  g2 [t5_2, t67] w) fun k3 =>
  ixS 10 t16 t7 w fun t70 w =>
  fld 9 t70 w fun t71 w =>
  ld1 t71 w fun t72 w =>
  ixS 6 t72 t8 w fun t74 w =>
  ldN 6 t74 w fun t75 w =>
  al (zeroD prog 37) 37 w fun t9 w =>
  stN 6 t9 t75 w fun _ w =>
  dr w fun w =>
  ncP t0 <|
  fld 0 t0 w fun t78 _ =>
  fld 1 t78 w fun t79 _ =>
  ld1 t79 w fun t80 _ =>
  fld 3 t9 w fun t81 _ =>
  ld1 t81 w fun t82 _ =>
  ixS 7 t80 t82 w fun t83 _ =>
  fld 0 t83 w fun t84 _ =>
  ld1 t84 w fun t85 _ =>
  bi .eql .i64 t85 (Value.int IntKind.i64 1) w fun t86 _ =>
  iff' t86
  (ldN 6 t9 w fun t88 w =>
  bld (zeroD prog 43) #[(0, 1), (1, 6), (7, 1)] [(0, (Value.int IntKind.i64 1)), (1, t88)] w fun t89 w =>
  bsl 43 8 1 (zeroD prog 43) [(0, t89)] w fun t90 w =>
  apS prog #[39, 39] 39 t5_1 t90 w fun t91 w =>
  k3 t91 w)
  (k3 t5_1 w))
  (bi .add .i64 t7 (Value.int IntKind.i64 1) w fun t22 w =>
  g1 [t5_1, t22] w))))
  (dr w fun w =>
  ncP t0 <|
  fld 8 t0 w fun t94 _ =>
  ld1 t94 w fun t95 _ =>
  ldN 3 t3 w fun t96 _ =>
  Cl prog 131 #[t95, t96] w fun _ w =>
  K t5 w))
theorem pacelineref15_Node_undo_calls {t0 t1 : Value} {w : World} {K : KV} (h : pacelineref15_Node_undo t0 t1 w K) : Cl prog 78 #[t0, t1] w K :=
  Cl.mk (by kernel_rfl) (calls_of_F (fn := fn78) (nt := 99) (rs := [4]) mixed fnAt78 (by kernel_rfl) (by kernel_rfl) (by kernel_rfl) (Nat.le_of_ble_eq_true (by kernel_rfl)) (by kernel_rfl) (by kernel_rfl) h)

def pacelineref03_Queue_Remove (t0 t1 : Value) (w : World) (K : KV) : Prop :=
  al (Value.cells t1) 35 w fun t3 w =>
  al (zeroD prog 37) 37 w fun t4 w =>
  ldN 3 t3 w fun t9 w =>
  Cl prog 132 #[t0, t9] w fun t10 w =>
  bi .lss .i64 t10 (Value.int IntKind.i64 0) w fun t12 w =>
  iff' t12
  (bld (zeroD prog 37) #[(0, 3), (3, 1), (4, 1), (5, 1)] [] w fun t13 w =>
  stN 6 t4 t13 w fun _ w =>
  ldN 6 t4 w fun r0 _ =>
  K (Value.tuple #[r0, (Value.bool false)]) w)
  (ncP t0 <|
  fld 1 t0 w fun t16 w =>
  ld1 t16 w fun t17 w =>
  ixS 6 t17 t10 w fun t19 w =>
  ldN 6 t19 w fun t20 w =>
  al (zeroD prog 37) 37 w fun t7 w =>
  stN 6 t7 t20 w fun _ w =>
  dr w fun w =>
  ncP t0 <|
  fld 1 t0 w fun t24 _ =>
  ld1 t24 w fun t25 _ =>
  ldN 3 t3 w fun t26 _ =>
  Cl prog 133 #[t25, t26] w fun t27 w =>
  ncP t0 <|
  fld 1 t0 w fun t29 _ =>
  stN 1 t29 t27 w fun _ w =>
  ldN 6 t7 w fun t30 w =>
  stN 6 t4 t30 w fun _ w =>
  ldN 6 t4 w fun r0 _ =>
  K (Value.tuple #[r0, (Value.bool true)]) w)
theorem pacelineref03_Queue_Remove_calls {t0 t1 : Value} {w : World} {K : KV} (h : pacelineref03_Queue_Remove t0 t1 w K) : Cl prog 79 #[t0, t1] w K :=
  Cl.mk (by kernel_rfl) (calls_of_FC (fn := fn79) (nt := 31) (rs := [(4, some 37), (5, none)]) mixed fnAt79 (by kernel_rfl) (by kernel_rfl) (by kernel_rfl) (Nat.le_of_ble_eq_true (by kernel_rfl)) (by kernel_rfl) (by kernel_rfl) h)

def pacelineref03_Queue_First (t0 : Value) (w : World) (K : KV) : Prop :=
  al (zeroD prog 37) 37 w fun t2 w =>
  ncP t0 <|
  fld 1 t0 w fun t6 w =>
  ld1 t6 w fun t7 w =>
  lnS t7 w fun t8 w =>
  bi .eql .i64 t8 (Value.int IntKind.i64 0) w fun t9 w =>
  iff' t9
  (bld (zeroD prog 37) #[(0, 3), (3, 1), (4, 1), (5, 1)] [] w fun t10 w =>
  stN 6 t2 t10 w fun _ w =>
  ldN 6 t2 w fun r0 _ =>
  K (Value.tuple #[r0, (Value.bool false)]) w)
  (ncP t0 <|
  fld 1 t0 w fun t13 w =>
  ld1 t13 w fun t14 w =>
  ixS 6 t14 (Value.int IntKind.i64 0) w fun t15 w =>
  ldN 6 t15 w fun t16 w =>
  stN 6 t2 t16 w fun _ w =>
  ldN 6 t2 w fun r0 _ =>
  K (Value.tuple #[r0, (Value.bool true)]) w)
theorem pacelineref03_Queue_First_calls {t0 : Value} {w : World} {K : KV} (h : pacelineref03_Queue_First t0 w K) : Cl prog 80 #[t0] w K :=
  Cl.mk (by kernel_rfl) (calls_of_FC (fn := fn80) (nt := 17) (rs := [(2, some 37), (3, none)]) mixed fnAt80 (by kernel_rfl) (by kernel_rfl) (by kernel_rfl) (Nat.le_of_ble_eq_true (by kernel_rfl)) (by kernel_rfl) (by kernel_rfl) h)

def pacelineref03_Queue_Pop (t0 : Value) (w : World) (K : KV) : Prop :=
  al (zeroD prog 37) 37 w fun t2 w =>
  Cl prog 80 #[t0] w fun t8 w =>
  xt 0 t8 w fun t9 w =>
  xt 1 t8 w fun t10 w =>
  al (zeroD prog 37) 37 w fun t4 w =>
  stN 6 t4 t9 w fun _ w =>
  J0 (fun w =>
  ldN 6 t4 w fun t22 w =>
  stN 6 t2 t22 w fun _ w =>
  ldN 6 t2 w fun r0 _ =>
  K (Value.tuple #[r0, t10]) w) fun k1 =>
  iff' t10
  (dr w fun w =>
  ncP t0 <|
  fld 1 t0 w fun t15 _ =>
  ld1 t15 w fun t16 _ =>
  fld 0 t4 w fun t17 _ =>
  ldN 3 t17 w fun t18 _ =>
  Cl prog 133 #[t16, t18] w fun t19 w =>
  ncP t0 <|
  fld 1 t0 w fun t21 _ =>
  stN 1 t21 t19 w fun _ w =>
  k1 w)
  (k1 w)
theorem pacelineref03_Queue_Pop_calls {t0 : Value} {w : World} {K : KV} (h : pacelineref03_Queue_Pop t0 w K) : Cl prog 81 #[t0] w K :=
  Cl.mk (by kernel_rfl) (calls_of_FC (fn := fn81) (nt := 24) (rs := [(2, some 37), (3, none)]) mixed fnAt81 (by kernel_rfl) (by kernel_rfl) (by kernel_rfl) (Nat.le_of_ble_eq_true (by kernel_rfl)) (by kernel_rfl) (by kernel_rfl) h)

def pacelineref13_Past_Push (t0 t1 : Value) (w : World) (K : KV) : Prop :=
  al (Value.cells t1) 140 w fun t3 w =>
  dr w fun w =>
  fld 0 t3 w fun t7 _ =>
  fld 0 t7 w fun t8 _ =>
  fld 0 t8 w fun t9 _ =>
  ld1 t9 w fun t10 _ =>
  ncP t0 <|
  fld 0 t0 w fun t13 _ =>
  ld1 t13 w fun t14 _ =>
  bi .lss .i64 t10 t14 w fun t15 _ =>
  iff' t15
  (K (Value.int IntKind.i64 110) w)
  (ncP t0 <|
  fld 1 t0 w fun t18 w =>
  ld1 t18 w fun t19 w =>
  lnS t19 w fun t20 w =>
  dr w fun w =>
  bi .gtr .i64 t20 (Value.int IntKind.i64 0) w fun t22 _ =>
  gd t22 true (fun k => k t0 w) w fun t24 _ =>
  gd t22 true (fun k => nc t24 w k) w fun t25 _ =>
  gd t22 true (fun k => fld 1 t25 w k) w fun t26 _ =>
  gd t22 true (fun k => ld1 t26 w k) w fun t27 _ =>
  gd t22 true (fun k => k t20 w) w fun t28 _ =>
  gd t22 true (fun k => bi .sub .i64 t28 (Value.int IntKind.i64 1) w k) w fun t29 _ =>
  gd t22 true (fun k => ixS 10 t27 t29 w k) w fun t30 _ =>
  gd t22 true (fun k => fld 0 t30 w k) w fun t31 _ =>
  gd t22 true (fun k => fld 0 t31 w k) w fun t32 _ =>
  gd t22 true (fun k => ldN 3 t32 w k) w fun t33 _ =>
  gd t22 true (fun k => fld 0 t3 w k) w fun t34 _ =>
  gd t22 true (fun k => fld 0 t34 w k) w fun t35 _ =>
  gd t22 true (fun k => ldN 3 t35 w k) w fun t36 _ =>
  gd t22 true (fun k => Cl prog 29 #[t33, t36] w k) w fun t37 w =>
  gd t22 true (fun k => bi .geq .i64 t37 (Value.int IntKind.i64 0) w k) w fun t38 _ =>
  pk t22 t38 (Value.bool false) w fun t39 _ =>
  iff' t39
  (K (Value.int IntKind.i64 130) w)
  (bi .geq .i64 t20 (Value.int IntKind.i64 64) w fun t41 w =>
  iff' t41
  (K (Value.int IntKind.i64 2) w)
  (bsl 140 10 0 #[] [] w fun t42 w =>
  ncP t0 <|
  fld 1 t0 w fun t46 w =>
  ld1 t46 w fun t47 w =>
  apS prog #[128, 128] 128 t42 t47 w fun t48 w =>
  ldN 10 t3 w fun t51 w =>
  bsl 140 10 1 (zeroD prog 140) [(0, t51)] w fun t52 w =>
  apS prog #[128, 128] 128 t48 t52 w fun t53 w =>
  ncP t0 <|
  fld 1 t0 w fun t55 w =>
  stN 1 t55 t53 w fun _ w =>
  K (Value.int IntKind.i64 0) w)))
theorem pacelineref13_Past_Push_calls {t0 t1 : Value} {w : World} {K : KV} (h : pacelineref13_Past_Push t0 t1 w K) : Cl prog 82 #[t0, t1] w K :=
  Cl.mk (by kernel_rfl) (calls_of_F (fn := fn82) (nt := 56) (rs := [4]) mixed fnAt82 (by kernel_rfl) (by kernel_rfl) (by kernel_rfl) (Nat.le_of_ble_eq_true (by kernel_rfl)) (by kernel_rfl) (by kernel_rfl) h)

def pacelineref14_Gate_Hold (t0 t1 t2 : Value) (w : World) (K : KV) : Prop :=
  al (Value.cells t1) 35 w fun t4 w =>
  al (Value.cells t2) 37 w fun t5 w =>
  dr w fun w =>
  fld 0 t4 w fun t8 _ =>
  ld1 t8 w fun t9 _ =>
  ncP t0 <|
  fld 0 t0 w fun t12 _ =>
  ld1 t12 w fun t13 _ =>
  bi .lss .i64 t9 t13 w fun t14 _ =>
  iff' t14
  (K (Value.int IntKind.i64 110) w)
  (ncP t0 <|
  fld 1 t0 w fun t17 w =>
  ld1 t17 w fun t18 w =>
  lnS t18 w fun t19 w =>
  bi .geq .i64 t19 (Value.int IntKind.i64 256) w fun t20 w =>
  iff' t20
  (K (Value.int IntKind.i64 2) w)
  (bsl 196 9 0 #[] [] w fun t21 w =>
  ncP t0 <|
  fld 1 t0 w fun t25 w =>
  ld1 t25 w fun t26 w =>
  apS prog #[136, 136] 136 t21 t26 w fun t27 w =>
  ldN 3 t4 w fun t30 w =>
  ldN 6 t5 w fun t31 w =>
  bld (zeroD prog 196) #[(0, 3), (3, 6)] [(0, t30), (1, t31)] w fun t32 w =>
  bsl 196 9 1 (zeroD prog 196) [(0, t32)] w fun t33 w =>
  apS prog #[136, 136] 136 t27 t33 w fun t34 w =>
  ncP t0 <|
  fld 1 t0 w fun t36 w =>
  stN 1 t36 t34 w fun _ w =>
  K (Value.int IntKind.i64 0) w))
theorem pacelineref14_Gate_Hold_calls {t0 t1 t2 : Value} {w : World} {K : KV} (h : pacelineref14_Gate_Hold t0 t1 t2 w K) : Cl prog 83 #[t0, t1, t2] w K :=
  Cl.mk (by kernel_rfl) (calls_of_F (fn := fn83) (nt := 37) (rs := [6]) mixed fnAt83 (by kernel_rfl) (by kernel_rfl) (by kernel_rfl) (Nat.le_of_ble_eq_true (by kernel_rfl)) (by kernel_rfl) (by kernel_rfl) h)

def pacelineref13_Past_Settle (t0 t1 : Value) (w : World) (K : KV) : Prop :=
  bsl 140 10 0 #[] [] w fun t8 w =>
  bsl 140 10 0 #[] [] w fun t9 w =>
  lp [t8, t9, (Value.int IntKind.i64 0)] w (b3 fun t5 t6 t7 w g1 =>
  ncP t0 <|
  fld 1 t0 w fun t13 w =>
  ld1 t13 w fun t14 w =>
  lnS t14 w fun t15 w =>
  bi .lss .i64 t7 t15 w fun t16 w =>
  iff' t16
  (J2 (fun t5_1 t6_1 w =>
  bi .add .i64 t7 (Value.int IntKind.i64 1) w fun t18 w =>
  g1 [t5_1, t6_1, t18] w) fun k2 =>
  ncP t0 <|
  fld 1 t0 w fun t21 w =>
  ld1 t21 w fun t22 w =>
  ixS 10 t22 t7 w fun t24 w =>
  fld 0 t24 w fun t25 w =>
  fld 0 t25 w fun t26 w =>
  fld 0 t26 w fun t27 w =>
  ld1 t27 w fun t28 w =>
  bi .lss .i64 t28 t1 w fun t30 w =>
  iff' t30
  (ncP t0 <|
  fld 1 t0 w fun t34 w =>
  ld1 t34 w fun t35 w =>
  ixS 10 t35 t7 w fun t37 w =>
  ldN 10 t37 w fun t38 w =>
  bsl 140 10 1 (zeroD prog 140) [(0, t38)] w fun t39 w =>
  apS prog #[128, 128] 128 t5 t39 w fun t40 w =>
  k2 t40 t6 w)
  (ncP t0 <|
  fld 1 t0 w fun t44 w =>
  ld1 t44 w fun t45 w =>
  ixS 10 t45 t7 w fun t47 w =>
  ldN 10 t47 w fun t48 w =>
  bsl 140 10 1 (zeroD prog 140) [(0, t48)] w fun t49 w =>
  apS prog #[128, 128] 128 t6 t49 w fun t50 w =>
  k2 t5 t50 w))
  (ncP t0 <|
  fld 1 t0 w fun t54 w =>
  stN 1 t54 t6 w fun _ w =>
  ncP t0 <|
  fld 0 t0 w fun t58 w =>
  ld1 t58 w fun t59 w =>
  mxI .i64 t59 t1 w fun t61 w =>
  ncP t0 <|
  fld 0 t0 w fun t63 w =>
  stN 1 t63 t61 w fun _ w =>
  K t5 w))
theorem pacelineref13_Past_Settle_calls {t0 t1 : Value} {w : World} {K : KV} (h : pacelineref13_Past_Settle t0 t1 w K) : Cl prog 84 #[t0, t1] w K :=
  Cl.mk (by kernel_rfl) (calls_of_F (fn := fn84) (nt := 65) (rs := [4]) mixed fnAt84 (by kernel_rfl) (by kernel_rfl) (by kernel_rfl) (Nat.le_of_ble_eq_true (by kernel_rfl)) (by kernel_rfl) (by kernel_rfl) h)

def pacelineref14_Gate_Open (t0 t1 : Value) (w : World) (K : KV) : Prop :=
  bsl 196 9 0 #[] [] w fun t14 w =>
  bsl 196 9 0 #[] [] w fun t15 w =>
  lp [t14, t15, (Value.int IntKind.i64 0)] w (b3 fun t5 t6 t7 w g1 =>
  ncP t0 <|
  fld 1 t0 w fun t19 w =>
  ld1 t19 w fun t20 w =>
  lnS t20 w fun t21 w =>
  bi .lss .i64 t7 t21 w fun t22 w =>
  iff' t22
  (J2 (fun t5_1 t6_1 w =>
  bi .add .i64 t7 (Value.int IntKind.i64 1) w fun t24 w =>
  g1 [t5_1, t6_1, t24] w) fun k2 =>
  ncP t0 <|
  fld 1 t0 w fun t27 w =>
  ld1 t27 w fun t28 w =>
  ixS 9 t28 t7 w fun t30 w =>
  ldN 9 t30 w fun t31 w =>
  al (zeroD prog 196) 196 w fun t8 w =>
  stN 9 t8 t31 w fun _ w =>
  fld 0 t8 w fun t32 w =>
  fld 0 t32 w fun t33 w =>
  ld1 t33 w fun t34 w =>
  bi .geq .i64 t34 t1 w fun t36 w =>
  iff' t36
  (ldN 9 t8 w fun t38 w =>
  bsl 196 9 1 (zeroD prog 196) [(0, t38)] w fun t39 w =>
  apS prog #[136, 136] 136 t6 t39 w fun t40 w =>
  k2 t5 t40 w)
  (bsl 196 9 0 #[] [] w fun t41 w =>
  lp [t41, (Value.bool false), (Value.int IntKind.i64 0)] w (b3 fun t9 t10 t11 w g3 =>
  lnS t5 w fun t44 w =>
  bi .lss .i64 t11 t44 w fun t45 w =>
  iff' t45
  (dr w fun w =>
  bnot t10 w fun t49 _ =>
  gd t49 true (fun k => fld 0 t8 w k) w fun t51 _ =>
  gd t49 true (fun k => ldN 3 t51 w k) w fun t52 _ =>
  gd t49 true (fun k => k t5 w) w fun t53 _ =>
  gd t49 true (fun k => k t11 w) w fun t54 _ =>
  gd t49 true (fun k => ixS 9 t53 t54 w k) w fun t55 _ =>
  gd t49 true (fun k => fld 0 t55 w k) w fun t56 _ =>
  gd t49 true (fun k => ldN 3 t56 w k) w fun t57 _ =>
  gd t49 true (fun k => Cl prog 29 #[t52, t57] w k) w fun t58 w =>
  gd t49 true (fun k => bi .lss .i64 t58 (Value.int IntKind.i64 0) w k) w fun t59 _ =>
  pk t49 t59 (Value.bool false) w fun t60 _ =>
  J2 (fun t9_1 t10_1 w =>
  ixS 9 t5 t11 w fun t68 w =>
  ldN 9 t68 w fun t69 w =>
  bsl 196 9 1 (zeroD prog 196) [(0, t69)] w fun t70 w =>
  apS prog #[136, 136] 136 t9_1 t70 w fun t71 w =>
  bi .add .i64 t11 (Value.int IntKind.i64 1) w fun t47 w =>
  g3 [t71, t10_1, t47] w) fun k4 =>
  iff' t60
  (ldN 9 t8 w fun t62 w =>
  bsl 196 9 1 (zeroD prog 196) [(0, t62)] w fun t63 w =>
  apS prog #[136, 136] 136 t9 t63 w fun t64 w =>
  k4 t64 (Value.bool true) w)
  (k4 t9 t10 w))
  (bnot t10 w fun t73 w =>
  J1 (fun t9_2 w =>
  k2 t9_2 t6 w) fun k5 =>
  iff' t73
  (ldN 9 t8 w fun t75 w =>
  bsl 196 9 1 (zeroD prog 196) [(0, t75)] w fun t76 w =>
  apS prog #[136, 136] 136 t9 t76 w fun t77 w =>
  k5 t77 w)
  (k5 t9 w)))))
  (bsl 37 6 0 #[] [] w fun t79 w =>
  lp [t79, (Value.int IntKind.i64 0)] w (b2 fun t12 t13 w g6 =>
  lnS t5 w fun t82 w =>
  bi .lss .i64 t13 t82 w fun t83 w =>
  iff' t83
  (ixS 9 t5 t13 w fun t89 w =>
  fld 3 t89 w fun t90 w =>
  ldN 6 t90 w fun t91 w =>
  bsl 37 6 1 (zeroD prog 37) [(0, t91)] w fun t92 w =>
  apS prog #[33, 33] 33 t12 t92 w fun t93 w =>
  bi .add .i64 t13 (Value.int IntKind.i64 1) w fun t85 w =>
  g6 [t93, t85] w)
  (ncP t0 <|
  fld 1 t0 w fun t97 w =>
  stN 1 t97 t6 w fun _ w =>
  ncP t0 <|
  fld 0 t0 w fun t101 w =>
  ld1 t101 w fun t102 w =>
  mxI .i64 t102 t1 w fun t104 w =>
  ncP t0 <|
  fld 0 t0 w fun t106 w =>
  stN 1 t106 t104 w fun _ w =>
  K t12 w))))
theorem pacelineref14_Gate_Open_calls {t0 t1 : Value} {w : World} {K : KV} (h : pacelineref14_Gate_Open t0 t1 w K) : Cl prog 85 #[t0, t1] w K :=
  Cl.mk (by kernel_rfl) (calls_of_F (fn := fn85) (nt := 108) (rs := [4]) mixed fnAt85 (by kernel_rfl) (by kernel_rfl) (by kernel_rfl) (Nat.le_of_ble_eq_true (by kernel_rfl)) (by kernel_rfl) (by kernel_rfl) h)

def pacelineref01_Least (t0 : Value) (w : World) (K : KV) : Prop :=
  lp [(Value.int IntKind.i64 1125899906842624), (Value.int IntKind.i64 0)] w (b2 fun t3 t4 w g1 =>
  lnS t0 w fun t7 w =>
  bi .lss .i64 t4 t7 w fun t8 w =>
  iff' t8
  (ixS 1 t0 t4 w fun t14 w =>
  ld1 t14 w fun t15 w =>
  Cl prog 134 #[t15] w fun t16 w =>
  mnI .i64 t3 t16 w fun t17 w =>
  bi .add .i64 t4 (Value.int IntKind.i64 1) w fun t10 w =>
  g1 [t17, t10] w)
  (K t3 w))
theorem pacelineref01_Least_calls {t0 : Value} {w : World} {K : KV} (h : pacelineref01_Least t0 w K) : Cl prog 86 #[t0] w K :=
  Cl.mk (by kernel_rfl) (calls_of_F (fn := fn86) (nt := 19) (rs := [2]) mixed fnAt86 (by kernel_rfl) (by kernel_rfl) (by kernel_rfl) (Nat.le_of_ble_eq_true (by kernel_rfl)) (by kernel_rfl) (by kernel_rfl) h)

def pacelineref01_Add (t0 t1 : Value) (w : World) (K : KV) : Prop :=
  Cl prog 134 #[t0] w fun t6 w =>
  Cl prog 134 #[t1] w fun t8 w =>
  bi .eql .i64 t6 (Value.int IntKind.i64 1125899906842624) w fun t10 w =>
  gd t10 false (fun k => k t8 w) w fun t12 w =>
  gd t10 false (fun k => bi .eql .i64 t12 (Value.int IntKind.i64 1125899906842624) w k) w fun t13 w =>
  pk t10 (Value.bool true) t13 w fun t14 w =>
  iff' t14
  (K (Value.int IntKind.i64 1125899906842624) w)
  (bi .add .i64 t6 t8 w fun t17 w =>
  Cl prog 134 #[t17] w fun t18 w =>
  K t18 w)
theorem pacelineref01_Add_calls {t0 t1 : Value} {w : World} {K : KV} (h : pacelineref01_Add t0 t1 w K) : Cl prog 87 #[t0, t1] w K :=
  Cl.mk (by kernel_rfl) (calls_of_F (fn := fn87) (nt := 19) (rs := [4]) mixed fnAt87 (by kernel_rfl) (by kernel_rfl) (by kernel_rfl) (Nat.le_of_ble_eq_true (by kernel_rfl)) (by kernel_rfl) (by kernel_rfl) h)

def pacelineref03_Queue_List (t0 : Value) (w : World) (K : KV) : Prop :=
  bsl 37 6 0 #[] [] w fun t4 w =>
  ncP t0 <|
  fld 1 t0 w fun t8 w =>
  ld1 t8 w fun t9 w =>
  apS prog #[33, 33] 33 t4 t9 w fun t10 w =>
  K t10 w
theorem pacelineref03_Queue_List_calls {t0 : Value} {w : World} {K : KV} (h : pacelineref03_Queue_List t0 w K) : Cl prog 88 #[t0] w K :=
  Cl.mk (by kernel_rfl) (calls_of_F (fn := fn88) (nt := 11) (rs := [2]) mixed fnAt88 (by kernel_rfl) (by kernel_rfl) (by kernel_rfl) (Nat.le_of_ble_eq_true (by kernel_rfl)) (by kernel_rfl) (by kernel_rfl) h)

def config_first (t0 : Value) (w : World) (K : KV) : Prop :=
  lnS t0 w fun t7 w =>
  lp [(Value.int IntKind.i64 0)] w (b1 fun t8 w g1 =>
  bi .lss .i64 t8 t7 w fun t9 w =>
  iff' t9
  (ixS 1 t0 t8 w fun t10 w =>
  ld1 t10 w fun t11 w =>
  clV prog t11 #[] w fun t13 w =>
  bi .neq .i64 t13 (Value.int IntKind.i64 0) w fun t15 w =>
  iff' t15
  (K t13 w)
  (bi .add .i64 t8 (Value.int IntKind.i64 1) w fun t17 w =>
  g1 [t17] w))
  (K (Value.int IntKind.i64 0) w))
theorem config_first_calls {t0 : Value} {w : World} {K : KV} (h : config_first t0 w K) : Cl prog 89 #[t0] w K :=
  Cl.mk (by kernel_rfl) (calls_of_F (fn := fn89) (nt := 18) (rs := [2]) mixed fnAt89 (by kernel_rfl) (by kernel_rfl) (by kernel_rfl) (Nat.le_of_ble_eq_true (by kernel_rfl)) (by kernel_rfl) (by kernel_rfl) h)

def config_Check_1 (t0 : Value) (w : World) (K : KV) : Prop :=
  fld 0 t0 w fun t2 w =>
  ld1 t2 w fun t3 w =>
  Cl prog 91 #[t3] w fun t4 w =>
  K t4 w
theorem config_Check_1_calls {t0 : Value} {w : World} {K : KV} (h : config_Check_1 t0 w K) : Cl prog 90 #[t0] w K :=
  Cl.mk (by kernel_rfl) (calls_of_F (fn := fn90) (nt := 5) (rs := [1]) mixed fnAt90 (by kernel_rfl) (by kernel_rfl) (by kernel_rfl) (Nat.le_of_ble_eq_true (by kernel_rfl)) (by kernel_rfl) (by kernel_rfl) h)

def tree_Check (t0 : Value) (w : World) (K : KV) : Prop :=
  lnS t0 w fun t7 w =>
  bi .lss .i64 t7 (Value.int IntKind.i64 1) w fun t9 w =>
  gd t9 false (fun k => k t7 w) w fun t11 w =>
  gd t9 false (fun k => bi .gtr .i64 t11 (Value.int IntKind.i64 16) w k) w fun t12 w =>
  pk t9 (Value.bool true) t12 w fun t13 w =>
  iff' t13
  (K (Value.int IntKind.i64 50) w)
  (lnS t0 w fun t15 w =>
  lp [(Value.int IntKind.i64 0)] w (b1 fun t16 w g1 =>
  bi .lss .i64 t16 t15 w fun t17 w =>
  iff' t17
  (ixS 1 t0 t16 w fun t19 w =>
  ld1 t19 w fun t20 w =>
  bi .lss .i64 t20 (Value.int IntKind.i64 (-1)) w fun t22 w =>
  gd t22 false (fun k => k t20 w) w fun t24 w =>
  gd t22 false (fun k => k t16 w) w fun t25 w =>
  gd t22 false (fun k => bi .geq .i64 t24 t25 w k) w fun t26 w =>
  pk t22 (Value.bool true) t26 w fun t27 w =>
  iff' t27
  (K (Value.int IntKind.i64 50) w)
  (bi .add .i64 t16 (Value.int IntKind.i64 1) w fun t28 w =>
  g1 [t28] w))
  (K (Value.int IntKind.i64 0) w)))
theorem tree_Check_calls {t0 : Value} {w : World} {K : KV} (h : tree_Check t0 w K) : Cl prog 91 #[t0] w K :=
  Cl.mk (by kernel_rfl) (calls_of_F (fn := fn91) (nt := 29) (rs := [2]) mixed fnAt91 (by kernel_rfl) (by kernel_rfl) (by kernel_rfl) (Nat.le_of_ble_eq_true (by kernel_rfl)) (by kernel_rfl) (by kernel_rfl) h)

def config_unless (t0 t1 : Value) (w : World) (K : KV) : Prop :=
  al (Value.cells t0) 4 w fun t2 w =>
  al (Value.cells t1) 30 w fun t3 w =>
  K (Value.func (Fn.func 135) #[] #[t2, t3]) w
theorem config_unless_calls {t0 t1 : Value} {w : World} {K : KV} (h : config_unless t0 t1 w K) : Cl prog 92 #[t0, t1] w K :=
  Cl.mk (by kernel_rfl) (calls_of_F (fn := fn92) (nt := 6) (rs := [4]) mixed fnAt92 (by kernel_rfl) (by kernel_rfl) (by kernel_rfl) (Nat.le_of_ble_eq_true (by kernel_rfl)) (by kernel_rfl) (by kernel_rfl) h)

end Go.Proofs.YtbopajpmadlmhaaGreat
end
section
namespace Go.Proofs.YtbopajpmadlmhaaGreat
open Go Go.E
set_option linter.unusedVariables false
set_option maxRecDepth 100000
def config_within (t0 t1 t2 : Value) (w : World) (K : KV) : Prop :=
  bi .geq .i64 t0 t1 w fun t9 w =>
  gd t9 true (fun k => k t0 w) w fun t11 w =>
  gd t9 true (fun k => k t2 w) w fun t12 w =>
  gd t9 true (fun k => bi .leq .i64 t11 t12 w k) w fun t13 w =>
  pk t9 t13 (Value.bool false) w fun t14 w =>
  K t14 w
theorem config_within_calls {t0 t1 t2 : Value} {w : World} {K : KV} (h : config_within t0 t1 t2 w K) : Cl prog 93 #[t0, t1, t2] w K :=
  Cl.mk (by kernel_rfl) (calls_of_F (fn := fn93) (nt := 15) (rs := [6]) mixed fnAt93 (by kernel_rfl) (by kernel_rfl) (by kernel_rfl) (Nat.le_of_ble_eq_true (by kernel_rfl)) (by kernel_rfl) (by kernel_rfl) h)

def config_fed (t0 t1 : Value) (w : World) (K : KV) : Prop :=
  al (Value.cells t0) 66 w fun t2 w =>
  al (Value.cells t1) 3 w fun t3 w =>
  dr w fun w =>
  fld 0 t2 w fun t11 _ =>
  ld1 t11 w fun t12 _ =>
  fld 1 t2 w fun t15 _ =>
  ld1 t15 w fun t16 _ =>
  fld 2 t2 w fun t19 _ =>
  ld1 t19 w fun t20 _ =>
  fld 4 t2 w fun t25 _ =>
  ld1 t25 w fun t26 _ =>
  fld 6 t2 w fun t36 _ =>
  ld1 t36 w fun t37 _ =>
  lnS t37 w fun t38 _ =>
  bi .leq .i64 t38 (Value.int IntKind.i64 4) w fun t39 _ =>
  Cl prog 93 #[t12, (Value.int IntKind.i64 0), (Value.int IntKind.i64 1)] w fun t13 w =>
  (ld1 t36 w (fun v' w'' => v' = t37 ∧ w'' = w)) ∧ ((ld1 t25 w (fun v' w'' => v' = t26 ∧ w'' = w)) ∧ ((ld1 t19 w (fun v' w'' => v' = t20 ∧ w'' = w)) ∧ ((ld1 t15 w (fun v' w'' => v' = t16 ∧ w'' = w)) ∧ (Cl prog 92 #[t13, (Value.int IntKind.i64 1)] w fun t14 w =>
  (ld1 t36 w (fun v' w'' => v' = t37 ∧ w'' = w)) ∧ ((ld1 t25 w (fun v' w'' => v' = t26 ∧ w'' = w)) ∧ ((ld1 t19 w (fun v' w'' => v' = t20 ∧ w'' = w)) ∧ ((ld1 t15 w (fun v' w'' => v' = t16 ∧ w'' = w)) ∧ (Cl prog 93 #[t16, (Value.int IntKind.i64 1), (Value.int IntKind.i64 1048576)] w fun t17 w =>
  (ld1 t36 w (fun v' w'' => v' = t37 ∧ w'' = w)) ∧ ((ld1 t25 w (fun v' w'' => v' = t26 ∧ w'' = w)) ∧ ((ld1 t19 w (fun v' w'' => v' = t20 ∧ w'' = w)) ∧ (Cl prog 92 #[t17, (Value.int IntKind.i64 80)] w fun t18 w =>
  (ld1 t36 w (fun v' w'' => v' = t37 ∧ w'' = w)) ∧ ((ld1 t25 w (fun v' w'' => v' = t26 ∧ w'' = w)) ∧ ((ld1 t19 w (fun v' w'' => v' = t20 ∧ w'' = w)) ∧ (Cl prog 93 #[t20, (Value.int IntKind.i64 0), (Value.int IntKind.i64 7)] w fun t21 w =>
  (ld1 t36 w (fun v' w'' => v' = t37 ∧ w'' = w)) ∧ ((ld1 t25 w (fun v' w'' => v' = t26 ∧ w'' = w)) ∧ (Cl prog 92 #[t21, (Value.int IntKind.i64 70)] w fun t22 w =>
  (ld1 t36 w (fun v' w'' => v' = t37 ∧ w'' = w)) ∧ ((ld1 t25 w (fun v' w'' => v' = t26 ∧ w'' = w)) ∧ (clV prog (Value.func (Fn.func 136) #[] #[t3]) #[t26] w fun t27 w =>
  (ld1 t36 w (fun v' w'' => v' = t37 ∧ w'' = w)) ∧ (gd t27 true (fun k => k (Value.func (Fn.func 136) #[] #[t3]) w) w fun t29 _ =>
  gd t27 true (fun k => fld 5 t2 w k) w fun t30 _ =>
  gd t27 true (fun k => ld1 t30 w k) w fun t31 _ =>
  gd t27 true (fun k => clV prog t29 #[t31] w k) w fun t32 w =>
  (ld1 t36 w (fun v' w'' => v' = t37 ∧ w'' = w)) ∧ (pk t27 t32 (Value.bool false) w fun t33 _ =>
  Cl prog 92 #[t33, (Value.int IntKind.i64 81)] w fun t34 w =>
  (ld1 t36 w (fun v' w'' => v' = t37 ∧ w'' = w)) ∧ (gd t39 true (fun k => fld 6 t2 w k) w fun t41 _ =>
  gd t39 true (fun k => ld1 t41 w k) w fun t42 _ =>
  gd t39 true (fun k => k (Value.func (Fn.func 139) #[] #[t2]) w) w fun t43 _ =>
  gd t39 true (fun k => Cl prog 142 #[t42, t43] w k) w fun t44 w =>
  gd t39 true (fun k => bnot t44 w k) w fun t45 _ =>
  pk t39 t45 (Value.bool false) w fun t46 _ =>
  Cl prog 92 #[t46, (Value.int IntKind.i64 82)] w fun t47 w =>
  bsl 144 1 7 (zeroD prog 144) [(0, t14), (1, t18), (2, t22), (3, (Value.func (Fn.func 140) #[] #[t2])), (4, t34), (5, (Value.func (Fn.func 137) #[] #[t2, t3])), (6, t47)] w fun t48 w =>
  Cl prog 89 #[t48] w fun t49 w =>
  K t49 w)))))))))))))))))))))
theorem config_fed_calls {t0 t1 : Value} {w : World} {K : KV} (h : config_fed t0 t1 w K) : Cl prog 94 #[t0, t1] w K :=
  Cl.mk (by kernel_rfl) (calls_of_F (fn := fn94) (nt := 50) (rs := [4]) mixed fnAt94 (by kernel_rfl) (by kernel_rfl) (by kernel_rfl) (Nat.le_of_ble_eq_true (by kernel_rfl)) (by kernel_rfl) (by kernel_rfl) h)

def slices_Clone_int_int (t0 : Value) (w : World) (K : KV) : Prop :=
  bO prog .eql 24 (Operand.tmp 3) (Operand.const (Value.slice none 0 0)) t0 (Value.slice none 0 0) w fun t4 w =>
  iff' t4
  (K (Value.slice none 0 0) w)
  (bsl 3 1 0 #[] [] w fun t5 w =>
  apS prog #[24, 24] 24 t5 t0 w fun t7 w =>
  K t7 w)
theorem slices_Clone_int_int_calls {t0 : Value} {w : World} {K : KV} (h : slices_Clone_int_int t0 w K) : Cl prog 95 #[t0] w K :=
  Cl.mk (by kernel_rfl) (calls_of_F (fn := fn95) (nt := 8) (rs := [2]) mixed fnAt95 (by kernel_rfl) (by kernel_rfl) (by kernel_rfl) (Nat.le_of_ble_eq_true (by kernel_rfl)) (by kernel_rfl) (by kernel_rfl) h)

def slices_Clone_api_Fed_api_Fed (t0 : Value) (w : World) (K : KV) : Prop :=
  bO prog .eql 25 (Operand.tmp 3) (Operand.const (Value.slice none 0 0)) t0 (Value.slice none 0 0) w fun t4 w =>
  iff' t4
  (K (Value.slice none 0 0) w)
  (bsl 66 7 0 #[] [] w fun t5 w =>
  apS prog #[25, 25] 25 t5 t0 w fun t7 w =>
  K t7 w)
theorem slices_Clone_api_Fed_api_Fed_calls {t0 : Value} {w : World} {K : KV} (h : slices_Clone_api_Fed_api_Fed t0 w K) : Cl prog 96 #[t0] w K :=
  Cl.mk (by kernel_rfl) (calls_of_F (fn := fn96) (nt := 8) (rs := [2]) mixed fnAt96 (by kernel_rfl) (by kernel_rfl) (by kernel_rfl) (Nat.le_of_ble_eq_true (by kernel_rfl)) (by kernel_rfl) (by kernel_rfl) h)

def slices_Clone_api_Out_api_Out (t0 : Value) (w : World) (K : KV) : Prop :=
  bO prog .eql 61 (Operand.tmp 3) (Operand.const (Value.slice none 0 0)) t0 (Value.slice none 0 0) w fun t4 w =>
  iff' t4
  (K (Value.slice none 0 0) w)
  (bsl 87 3 0 #[] [] w fun t5 w =>
  apS prog #[61, 61] 61 t5 t0 w fun t7 w =>
  K t7 w)
theorem slices_Clone_api_Out_api_Out_calls {t0 : Value} {w : World} {K : KV} (h : slices_Clone_api_Out_api_Out t0 w K) : Cl prog 97 #[t0] w K :=
  Cl.mk (by kernel_rfl) (calls_of_F (fn := fn97) (nt := 8) (rs := [2]) mixed fnAt97 (by kernel_rfl) (by kernel_rfl) (by kernel_rfl) (Nat.le_of_ble_eq_true (by kernel_rfl)) (by kernel_rfl) (by kernel_rfl) h)

def slices_Clone_api_Rule_api_Rule (t0 : Value) (w : World) (K : KV) : Prop :=
  bO prog .eql 64 (Operand.tmp 3) (Operand.const (Value.slice none 0 0)) t0 (Value.slice none 0 0) w fun t4 w =>
  iff' t4
  (K (Value.slice none 0 0) w)
  (bsl 89 4 0 #[] [] w fun t5 w =>
  apS prog #[64, 64] 64 t5 t0 w fun t7 w =>
  K t7 w)
theorem slices_Clone_api_Rule_api_Rule_calls {t0 : Value} {w : World} {K : KV} (h : slices_Clone_api_Rule_api_Rule t0 w K) : Cl prog 98 #[t0] w K :=
  Cl.mk (by kernel_rfl) (calls_of_F (fn := fn98) (nt := 8) (rs := [2]) mixed fnAt98 (by kernel_rfl) (by kernel_rfl) (by kernel_rfl) (Nat.le_of_ble_eq_true (by kernel_rfl)) (by kernel_rfl) (by kernel_rfl) h)

def warp_Node_fit (t0 t1 t2 : Value) (w : World) (K : KV) : Prop :=
  al (Value.cells t2) 35 w fun t5 w =>
  ncP t0 <|
  fld 9 t0 w fun t18 w =>
  ld1 t18 w fun t19 w =>
  lkM prog 99 t19 t1 true w fun t21 w =>
  xt 0 t21 w fun t22 w =>
  xt 1 t21 w fun t23 w =>
  dr w fun w =>
  fld 0 t5 w fun t24 _ =>
  ld1 t24 w fun t25 _ =>
  ncP t0 <|
  fld 7 t0 w fun t28 _ =>
  ld1 t28 w fun t29 _ =>
  Cl prog 61 #[t29] w fun t30 w =>
  (ld1 t24 w (fun v' w'' => v' = t25 ∧ w'' = w)) ∧ (bi .lss .i64 t25 t30 w fun t31 _ =>
  gd t31 false (fun k => k t23 w) w fun t33 _ =>
  gd t31 false (fun k => k t33 w) w fun t34 _ =>
  gd t34 true (fun k => fld 0 t5 w k) w fun t35 _ =>
  gd t34 true (fun k => ld1 t35 w k) w fun t36 _ =>
  gd t34 true (fun k => k t22 w) w fun t37 _ =>
  gd t34 true (fun k => bi .lss .i64 t36 t37 w k) w fun t38 _ =>
  gd t31 false (fun k => pk t34 t38 (Value.bool false) w k) w fun t39 _ =>
  pk t31 (Value.bool true) t39 w fun t40 _ =>
  iff' t40
  (ldN 3 t5 w fun t41 w =>
  Cl prog 100 #[t41, (Value.int IntKind.i64 110)] w fun t42 w =>
  K (Value.tuple #[(Value.int IntKind.i64 0), (Value.bool false), (Value.bool false), t42]) w)
  (ncP t0 <|
  fld 7 t0 w fun t45 w =>
  ld1 t45 w fun t46 w =>
  Cl prog 143 #[t46] w fun t47 w =>
  lnS t47 w fun t48 w =>
  lp [(Value.int IntKind.i64 0), (Value.bool false), (Value.int IntKind.i64 0)] w (b3 fun t6 t8 t49 w g1 =>
  bi .lss .i64 t49 t48 w fun t50 w =>
  iff' t50
  (ixS 3 t47 t49 w fun t51 w =>
  ldN 3 t51 w fun t52 w =>
  al (zeroD prog 35) 35 w fun t13 w =>
  stN 3 t13 t52 w fun _ w =>
  ldN 3 t13 w fun t53 w =>
  ldN 3 t5 w fun t54 w =>
  Cl prog 117 #[t53, t54] w fun t55 w =>
  bi .geq .i64 t55 (Value.int IntKind.i64 0) w fun t57 w =>
  J1 (fun t6_1 w =>
  gd t8 false (fun k => k t55 w) w fun t62 w =>
  gd t8 false (fun k => bi .eql .i64 t62 (Value.int IntKind.i64 0) w k) w fun t63 w =>
  pk t8 (Value.bool true) t63 w fun t64 w =>
  bi .add .i64 t49 (Value.int IntKind.i64 1) w fun t65 w =>
  g1 [t6_1, t64, t65] w) fun k2 =>
  iff' t57
  (bi .add .i64 t6 (Value.int IntKind.i64 1) w fun t59 w =>
  k2 t59 w)
  (k2 t6 w))
  (ncP t0 <|
  fld 6 t0 w fun t68 w =>
  ld1 t68 w fun t69 w =>
  Cl prog 60 #[t69] w fun t70 w =>
  Cl prog 144 #[t70, (Value.func (Fn.func 145) #[] #[t5])] w fun t72 w =>
  K (Value.tuple #[t6, t72, t8, Value.nilIface]) w))))
theorem warp_Node_fit_calls {t0 t1 t2 : Value} {w : World} {K : KV} (h : warp_Node_fit t0 t1 t2 w K) : Cl prog 99 #[t0, t1, t2] w K :=
  Cl.mk (by kernel_rfl) (calls_of_F (fn := fn99) (nt := 76) (rs := [6, 7, 8, 9]) mixed fnAt99 (by kernel_rfl) (by kernel_rfl) (by kernel_rfl) (Nat.le_of_ble_eq_true (by kernel_rfl)) (by kernel_rfl) (by kernel_rfl) h)

def warp_late (t0 t1 : Value) (w : World) (K : KV) : Prop :=
  al (Value.cells t0) 35 w fun t2 w =>
  ldN 3 t2 w fun t5 w =>
  bld (zeroD prog 208) #[(0, 3), (3, 1)] [(0, t5), (1, (Value.iface 30 t1))] w fun t8 w =>
  al (Value.cells t8) 208 w fun t9 w =>
  K (Value.iface 206 t9) w
theorem warp_late_calls {t0 t1 : Value} {w : World} {K : KV} (h : warp_late t0 t1 w K) : Cl prog 100 #[t0, t1] w K :=
  Cl.mk (by kernel_rfl) (calls_of_F (fn := fn100) (nt := 11) (rs := [4]) mixed fnAt100 (by kernel_rfl) (by kernel_rfl) (by kernel_rfl) (Nat.le_of_ble_eq_true (by kernel_rfl)) (by kernel_rfl) (by kernel_rfl) h)

def prio_Queue_Len (t0 : Value) (w : World) (K : KV) : Prop :=
  ncP t0 <|
  fld 1 t0 w fun t5 w =>
  ld1 t5 w fun t6 w =>
  lnS t6 w fun t7 w =>
  K t7 w
theorem prio_Queue_Len_calls {t0 : Value} {w : World} {K : KV} (h : prio_Queue_Len t0 w K) : Cl prog 101 #[t0] w K :=
  Cl.mk (by kernel_rfl) (calls_of_F (fn := fn101) (nt := 8) (rs := [2]) mixed fnAt101 (by kernel_rfl) (by kernel_rfl) (by kernel_rfl) (Nat.le_of_ble_eq_true (by kernel_rfl)) (by kernel_rfl) (by kernel_rfl) h)

def warp_Node_undo (t0 t1 t2 : Value) (w : World) (K : KV) : Prop :=
  al (Value.cells t1) 35 w fun t4 w =>
  dr w fun w =>
  ncP t0 <|
  fld 7 t0 w fun t14 _ =>
  ld1 t14 w fun t15 _ =>
  ldN 3 t4 w fun t16 _ =>
  Cl prog 146 #[t15, t16] w fun t17 w =>
  lnS t17 w fun t18 _ =>
  lp [(Value.slice none 0 0), (Value.int IntKind.i64 0)] w (b2 fun t7 t19 w g1 =>
  bi .lss .i64 t19 t18 w fun t20 w =>
  iff' t20
  (ixS 10 t17 t19 w fun t21 w =>
  ldN 10 t21 w fun t22 w =>
  al (zeroD prog 113) 113 w fun t9 w =>
  stN 10 t9 t22 w fun _ w =>
  dr w fun w =>
  fld 6 t9 w fun t25 _ =>
  ld1 t25 w fun t26 _ =>
  fld 7 t9 w fun t27 _ =>
  ld1 t27 w fun t28 _ =>
  ncP t0 <|
  fld 4 t0 w fun t30 _ =>
  stN 1 t30 t26 w fun _ w =>
  (ld1 t27 w (fun v' w'' => v' = t28 ∧ w'' = w)) ∧ (ncP t0 <|
  fld 5 t0 w fun t32 _ =>
  stN 1 t32 t28 w fun _ w =>
  bnot t2 w fun t34 w =>
  gd t34 false (fun k => fld 0 t9 w k) w fun t36 w =>
  gd t34 false (fun k => fld 0 t36 w k) w fun t37 w =>
  gd t34 false (fun k => ldN 3 t37 w k) w fun t38 w =>
  gd t34 false (fun k => ldN 3 t4 w k) w fun t39 w =>
  gd t34 false (fun k => bO prog .neq 35 (Operand.tmp 38) (Operand.tmp 39) t38 t39 w k) w fun t40 w =>
  pk t34 (Value.bool true) t40 w fun t41 w =>
  J0 (fun w =>
  fld 9 t9 w fun t49 w =>
  ld1 t49 w fun t50 w =>
  lnS t50 w fun t51 w =>
  lp [t7, (Value.int IntKind.i64 0)] w (b2 fun t7_1 t52 w g3 =>
  bi .lss .i64 t52 t51 w fun t53 w =>
  iff' t53
  (J1 (fun t7_2 w =>
  bi .add .i64 t52 (Value.int IntKind.i64 1) w fun t65 w =>
  g3 [t7_2, t65] w) fun k4 =>
  ixS 6 t50 t52 w fun t54 w =>
  ldN 6 t54 w fun t55 w =>
  al (zeroD prog 37) 37 w fun t11 w =>
  stN 6 t11 t55 w fun _ w =>
  fld 3 t11 w fun t57 w =>
  ld1 t57 w fun t58 w =>
  Cl prog 58 #[t0, t58] w fun t59 w =>
  iff' t59
  (ldN 6 t11 w fun t61 w =>
  bld (zeroD prog 43) #[(0, 1), (1, 6), (7, 1)] [(0, (Value.int IntKind.i64 1)), (1, t61)] w fun t62 w =>
  bsl 43 8 1 (zeroD prog 43) [(0, t62)] w fun t63 w =>
  apS prog #[39, 39] 39 t7_1 t63 w fun t64 w =>
  k4 t64 w)
  (k4 t7_1 w))
  (bi .add .i64 t19 (Value.int IntKind.i64 1) w fun t66 w =>
  g1 [t7_1, t66] w))) fun k2 =>
  iff' t41
  (dr w fun w =>
  ncP t0 <|
  fld 6 t0 w fun t44 _ =>
  ld1 t44 w fun t45 _ =>
  fld 0 t9 w fun t46 _ =>
  ldN 6 t46 w fun t47 _ =>
  Cl prog 103 #[t45, t47] w fun _ w =>
  k2 w)
  (k2 w)))
  (dr w fun w =>
  ncP t0 <|
  fld 8 t0 w fun t69 _ =>
  ld1 t69 w fun t70 _ =>
  ldN 3 t4 w fun t71 _ =>
  Cl prog 147 #[t70, t71] w fun _ w =>
  K t7 w))
theorem warp_Node_undo_calls {t0 t1 t2 : Value} {w : World} {K : KV} (h : warp_Node_undo t0 t1 t2 w K) : Cl prog 102 #[t0, t1, t2] w K :=
  Cl.mk (by kernel_rfl) (calls_of_F (fn := fn102) (nt := 74) (rs := [6]) mixed fnAt102 (by kernel_rfl) (by kernel_rfl) (by kernel_rfl) (Nat.le_of_ble_eq_true (by kernel_rfl)) (by kernel_rfl) (by kernel_rfl) h)

def prio_Queue_Push (t0 t1 : Value) (w : World) (K : KV) : Prop :=
  al (Value.cells t1) 37 w fun t3 w =>
  dr w fun w =>
  ncP t0 <|
  fld 2 t0 w fun t10 _ =>
  ld1 t10 w fun t11 _ =>
  fld 0 t3 w fun t12 _ =>
  ldN 3 t12 w fun t13 _ =>
  lkM prog 153 t11 t13 true w fun t14 w =>
  xt 0 t14 w fun _ _ =>
  xt 1 t14 w fun t16 _ =>
  iff' t16
  (K (Value.int IntKind.i64 3) w)
  (dr w fun w =>
  ncP t0 <|
  fld 1 t0 w fun t20 _ =>
  ld1 t20 w fun t21 _ =>
  lnS t21 w fun t22 _ =>
  ncP t0 <|
  fld 0 t0 w fun t25 _ =>
  ld1 t25 w fun t26 _ =>
  bi .geq .i64 t22 t26 w fun t27 _ =>
  iff' t27
  (K (Value.int IntKind.i64 2) w)
  (bld (zeroD prog 172) #[(0, 1)] [(0, t0)] w fun t29 w =>
  ldN 6 t3 w fun t31 w =>
  Cl prog 148 #[(Value.iface 172 t29), (Value.iface 37 t31)] w fun _ w =>
  K (Value.int IntKind.i64 0) w))
theorem prio_Queue_Push_calls {t0 t1 : Value} {w : World} {K : KV} (h : prio_Queue_Push t0 t1 w K) : Cl prog 103 #[t0, t1] w K :=
  Cl.mk (by kernel_rfl) (calls_of_F (fn := fn103) (nt := 34) (rs := [4]) mixed fnAt103 (by kernel_rfl) (by kernel_rfl) (by kernel_rfl) (Nat.le_of_ble_eq_true (by kernel_rfl)) (by kernel_rfl) (by kernel_rfl) h)

def prio_Queue_Remove (t0 t1 : Value) (w : World) (K : KV) : Prop :=
  al (Value.cells t1) 35 w fun t3 w =>
  al (zeroD prog 37) 37 w fun t4 w =>
  dr w fun w =>
  ncP t0 <|
  fld 2 t0 w fun t11 _ =>
  ld1 t11 w fun t12 _ =>
  ldN 3 t3 w fun t13 _ =>
  lkM prog 153 t12 t13 true w fun t14 w =>
  xt 0 t14 w fun t15 _ =>
  xt 1 t14 w fun t16 _ =>
  bnot t16 w fun t18 w =>
  iff' t18
  (bld (zeroD prog 37) #[(0, 3), (3, 1), (4, 1), (5, 1)] [] w fun t19 w =>
  stN 6 t4 t19 w fun _ w =>
  ldN 6 t4 w fun r0 _ =>
  K (Value.tuple #[r0, (Value.bool false)]) w)
  (bld (zeroD prog 172) #[(0, 1)] [(0, t0)] w fun t21 w =>
  Cl prog 149 #[(Value.iface 172 t21), t15] w fun t24 w =>
  tyA prog t24 20 37 false w fun t25 w =>
  stN 6 t4 t25 w fun _ w =>
  ldN 6 t4 w fun r0 _ =>
  K (Value.tuple #[r0, (Value.bool true)]) w)
theorem prio_Queue_Remove_calls {t0 t1 : Value} {w : World} {K : KV} (h : prio_Queue_Remove t0 t1 w K) : Cl prog 104 #[t0, t1] w K :=
  Cl.mk (by kernel_rfl) (calls_of_FC (fn := fn104) (nt := 26) (rs := [(4, some 37), (5, none)]) mixed fnAt104 (by kernel_rfl) (by kernel_rfl) (by kernel_rfl) (Nat.le_of_ble_eq_true (by kernel_rfl)) (by kernel_rfl) (by kernel_rfl) h)

def errors_Is (t0 t1 : Value) (w : World) (K : KV) : Prop :=
  bO prog .eql 103 (Operand.tmp 6) (Operand.const Value.nilIface) t0 Value.nilIface w fun t7 w =>
  gd t7 false (fun k => k t1 w) w fun t9 w =>
  gd t7 false (fun k => bO prog .eql 103 (Operand.tmp 9) (Operand.const Value.nilIface) t9 Value.nilIface w k) w fun t10 w =>
  pk t7 (Value.bool true) t10 w fun t11 w =>
  iff' t11
  (bO prog .eql 103 (Operand.tmp 12) (Operand.tmp 13) t0 t1 w fun t14 w =>
  K t14 w)
  (Cl prog 150 #[t1] w fun t16 w =>
  clI prog t16 "Comparable" #[] w fun t17 w =>
  Cl prog 151 #[t0, t1, t17] w fun t21 w =>
  K t21 w)
theorem errors_Is_calls {t0 t1 : Value} {w : World} {K : KV} (h : errors_Is t0 t1 w K) : Cl prog 105 #[t0, t1] w K :=
  Cl.mk (by kernel_rfl) (calls_of_F (fn := fn105) (nt := 22) (rs := [4]) mixed fnAt105 (by kernel_rfl) (by kernel_rfl) (by kernel_rfl) (Nat.le_of_ble_eq_true (by kernel_rfl)) (by kernel_rfl) (by kernel_rfl) h)

def gate_messages (t0 : Value) (w : World) (K : KV) : Prop :=
  lnS t0 w fun t7 w =>
  lp [(Value.slice none 0 0), (Value.int IntKind.i64 0)] w (b2 fun t3 t8 w g1 =>
  bi .lss .i64 t8 t7 w fun t9 w =>
  iff' t9
  (ixS 9 t0 t8 w fun t10 w =>
  ldN 9 t10 w fun t11 w =>
  al (zeroD prog 177) 177 w fun t5 w =>
  stN 9 t5 t11 w fun _ w =>
  fld 3 t5 w fun t13 w =>
  ldN 6 t13 w fun t14 w =>
  bsl 37 6 1 (zeroD prog 37) [(0, t14)] w fun t15 w =>
  apS prog #[33, 33] 33 t3 t15 w fun t16 w =>
  bi .add .i64 t8 (Value.int IntKind.i64 1) w fun t17 w =>
  g1 [t16, t17] w)
  (K t3 w))
theorem gate_messages_calls {t0 : Value} {w : World} {K : KV} (h : gate_messages t0 w K) : Cl prog 106 #[t0] w K :=
  Cl.mk (by kernel_rfl) (calls_of_F (fn := fn106) (nt := 19) (rs := [2]) mixed fnAt106 (by kernel_rfl) (by kernel_rfl) (by kernel_rfl) (Nat.le_of_ble_eq_true (by kernel_rfl)) (by kernel_rfl) (by kernel_rfl) h)

def heap_Pop (t0 : Value) (w : World) (K : KV) : Prop :=
  clI prog t0 "Len" #[] w fun t5 w =>
  bi .sub .i64 t5 (Value.int IntKind.i64 1) w fun t6 w =>
  clI prog t0 "Swap" #[(Value.int IntKind.i64 0), t6] w fun _ w =>
  Cl prog 152 #[t0, (Value.int IntKind.i64 0), t6] w fun _ w =>
  clI prog t0 "Pop" #[] w fun t14 w =>
  K t14 w
theorem heap_Pop_calls {t0 : Value} {w : World} {K : KV} (h : heap_Pop t0 w K) : Cl prog 107 #[t0] w K :=
  Cl.mk (by kernel_rfl) (calls_of_F (fn := fn107) (nt := 15) (rs := [2]) mixed fnAt107 (by kernel_rfl) (by kernel_rfl) (by kernel_rfl) (Nat.le_of_ble_eq_true (by kernel_rfl)) (by kernel_rfl) (by kernel_rfl) h)

def table_Find (t0 t1 t2 : Value) (w : World) (K : KV) : Prop :=
  al (Value.cells t1) 3 w fun t4 w =>
  al (Value.cells t2) 3 w fun t5 w =>
  Cl prog 153 #[t0, (Value.func (Fn.func 154) #[] #[t4, t5])] w fun t9 w =>
  K t9 w
theorem table_Find_calls {t0 t1 t2 : Value} {w : World} {K : KV} (h : table_Find t0 t1 t2 w K) : Cl prog 108 #[t0, t1, t2] w K :=
  Cl.mk (by kernel_rfl) (calls_of_F (fn := fn108) (nt := 10) (rs := [6]) mixed fnAt108 (by kernel_rfl) (by kernel_rfl) (by kernel_rfl) (Nat.le_of_ble_eq_true (by kernel_rfl)) (by kernel_rfl) (by kernel_rfl) h)

def table_Sent (t0 t1 t2 t3 t4 : Value) (w : World) (K : KV) : Prop :=
  al (Value.cells t4) 87 w fun t9 w =>
  al (zeroD prog 37) 37 w fun t10 w =>
  dr w fun w =>
  fld 1 t9 w fun t12 _ =>
  ld1 t12 w fun t13 _ =>
  fld 0 t9 w fun t18 _ =>
  ld1 t18 w fun t19 _ =>
  fld 2 t9 w fun t22 _ =>
  ld1 t22 w fun t23 _ =>
  Cl prog 68 #[t2, t13] w fun t14 w =>
  (ld1 t22 w (fun v' w'' => v' = t23 ∧ w'' = w)) ∧ ((ld1 t18 w (fun v' w'' => v' = t19 ∧ w'' = w)) ∧ ((bld (zeroD prog 35) #[(0, 1), (1, 1), (2, 1)] [(0, t14), (1, t0), (2, t1)] w fun t17 w =>
  (ld1 t22 w (fun v' w'' => v' = t23 ∧ w'' = w)) ∧ ((ld1 t18 w (fun v' w'' => v' = t19 ∧ w'' = w)) ∧ (Cl prog 155 #[t3] w fun t21 w =>
  (ld1 t22 w (fun v' w'' => v' = t23 ∧ w'' = w)) ∧ ((ld1 t18 w (fun v' w'' => v' = t19 ∧ w'' = w)) ∧ (Cl prog 155 #[t23] w fun t24 w =>
  (ld1 t18 w (fun v' w'' => v' = t19 ∧ w'' = w)) ∧ (bi .add .i64 t21 t24 w fun t25 _ =>
  Cl prog 155 #[t25] w fun t26 w =>
  (ld1 t18 w (fun v' w'' => v' = t19 ∧ w'' = w)) ∧ (bld (zeroD prog 37) #[(0, 3), (3, 1), (4, 1), (5, 1)] [(0, t17), (1, (Value.int IntKind.i64 (-1))), (2, t19), (3, t26)] w fun t27 w =>
  stN 6 t10 t27 w fun _ w =>
  ldN 6 t10 w fun r0 _ =>
  K r0 w))))))) ∧ (Cl prog 155 #[t3] w fun t21_1 w =>
  (ld1 t22 w (fun v' w'' => v' = t23 ∧ w'' = w)) ∧ ((ld1 t18 w (fun v' w'' => v' = t19 ∧ w'' = w)) ∧ ((bld (zeroD prog 35) #[(0, 1), (1, 1), (2, 1)] [(0, t14), (1, t0), (2, t1)] w fun t17_1 w =>
  (ld1 t22 w (fun v' w'' => v' = t23 ∧ w'' = w)) ∧ ((ld1 t18 w (fun v' w'' => v' = t19 ∧ w'' = w)) ∧ (Cl prog 155 #[t23] w fun t24_1 w =>
  (ld1 t18 w (fun v' w'' => v' = t19 ∧ w'' = w)) ∧ (bi .add .i64 t21_1 t24_1 w fun t25_1 _ =>
  Cl prog 155 #[t25_1] w fun t26_1 w =>
  (ld1 t18 w (fun v' w'' => v' = t19 ∧ w'' = w)) ∧ (bld (zeroD prog 37) #[(0, 3), (3, 1), (4, 1), (5, 1)] [(0, t17_1), (1, (Value.int IntKind.i64 (-1))), (2, t19), (3, t26_1)] w fun t27_1 w =>
  stN 6 t10 t27_1 w fun _ w =>
  ldN 6 t10 w fun r0 _ =>
  K r0 w))))) ∧ (Cl prog 155 #[t23] w fun t24_2 w =>
  (ld1 t18 w (fun v' w'' => v' = t19 ∧ w'' = w)) ∧ (bi .add .i64 t21_1 t24_2 w fun t25_2 _ =>
  (bld (zeroD prog 35) #[(0, 1), (1, 1), (2, 1)] [(0, t14), (1, t0), (2, t1)] w fun t17_2 w =>
  (ld1 t22 w (fun v' w'' => v' = t23 ∧ w'' = w)) ∧ ((ld1 t18 w (fun v' w'' => v' = t19 ∧ w'' = w)) ∧ (Cl prog 155 #[t25_2] w fun t26_2 w =>
  (ld1 t18 w (fun v' w'' => v' = t19 ∧ w'' = w)) ∧ (bld (zeroD prog 37) #[(0, 3), (3, 1), (4, 1), (5, 1)] [(0, t17_2), (1, (Value.int IntKind.i64 (-1))), (2, t19), (3, t26_2)] w fun t27_2 w =>
  stN 6 t10 t27_2 w fun _ w =>
  ldN 6 t10 w fun r0 _ =>
  K r0 w)))) ∧ (Cl prog 155 #[t25_2] w fun t26_3 w =>
  (ld1 t18 w (fun v' w'' => v' = t19 ∧ w'' = w)) ∧ (bld (zeroD prog 35) #[(0, 1), (1, 1), (2, 1)] [(0, t14), (1, t0), (2, t1)] w fun t17_3 w =>
  (ld1 t22 w (fun v' w'' => v' = t23 ∧ w'' = w)) ∧ ((ld1 t18 w (fun v' w'' => v' = t19 ∧ w'' = w)) ∧ (bld (zeroD prog 37) #[(0, 3), (3, 1), (4, 1), (5, 1)] [(0, t17_3), (1, (Value.int IntKind.i64 (-1))), (2, t19), (3, t26_3)] w fun t27_3 w =>
  stN 6 t10 t27_3 w fun _ w =>
  ldN 6 t10 w fun r0 _ =>
  K r0 w)))))))))))
theorem table_Sent_calls {t0 t1 t2 t3 t4 : Value} {w : World} {K : KV} (h : table_Sent t0 t1 t2 t3 t4 w K) : Cl prog 109 #[t0, t1, t2, t3, t4] w K :=
  Cl.mk (by kernel_rfl) (calls_of_FC (fn := fn109) (nt := 28) (rs := [(10, some 37)]) mixed fnAt109 (by kernel_rfl) (by kernel_rfl) (by kernel_rfl) (Nat.le_of_ble_eq_true (by kernel_rfl)) (by kernel_rfl) (by kernel_rfl) h)

def config_Routes (t0 t1 t2 : Value) (w : World) (K : KV) : Prop :=
  al (Value.cells t0) 27 w fun t3 w =>
  al (Value.cells t2) 3 w fun t5 w =>
  fld 1 t3 w fun t10 w =>
  ld1 t10 w fun t11 w =>
  lnS t11 w fun t12 w =>
  lp [(Value.slice none 0 0), (Value.int IntKind.i64 0)] w (b2 fun t7 t13 w g1 =>
  bi .lss .i64 t13 t12 w fun t14 w =>
  iff' t14
  (J1 (fun t7_1 w =>
  bi .add .i64 t13 (Value.int IntKind.i64 1) w fun t31 w =>
  g1 [t7_1, t31] w) fun k2 =>
  ixS 7 t11 t13 w fun t16 w =>
  ldN 7 t16 w fun t17 w =>
  al (zeroD prog 66) 66 w fun t9 w =>
  stN 7 t9 t17 w fun _ w =>
  bi .neq .i64 t13 t1 w fun t20 w =>
  gd t20 true (fun k => fld 5 t9 w k) w fun t22 w =>
  gd t20 true (fun k => ld1 t22 w k) w fun t23 w =>
  gd t20 true (fun k => k (Value.func (Fn.func 157) #[] #[t3, t5]) w) w fun t24 w =>
  gd t20 true (fun k => Cl prog 156 #[t23, t24] w k) w fun t25 w =>
  pk t20 t25 (Value.bool false) w fun t26 w =>
  iff' t26
  (bsl 3 1 1 (zeroD prog 3) [(0, t13)] w fun t29 w =>
  apS prog #[24, 24] 24 t7 t29 w fun t30 w =>
  k2 t30 w)
  (k2 t7 w))
  (K t7 w))
theorem config_Routes_calls {t0 t1 t2 : Value} {w : World} {K : KV} (h : config_Routes t0 t1 t2 w K) : Cl prog 110 #[t0, t1, t2] w K :=
  Cl.mk (by kernel_rfl) (calls_of_F (fn := fn110) (nt := 33) (rs := [6]) mixed fnAt110 (by kernel_rfl) (by kernel_rfl) (by kernel_rfl) (Nat.le_of_ble_eq_true (by kernel_rfl)) (by kernel_rfl) (by kernel_rfl) h)

def past_Past_Last (t0 : Value) (w : World) (K : KV) : Prop :=
  al (zeroD prog 113) 113 w fun t2 w =>
  ncP t0 <|
  fld 1 t0 w fun t6 w =>
  ld1 t6 w fun t7 w =>
  lnS t7 w fun t8 w =>
  bi .eql .i64 t8 (Value.int IntKind.i64 0) w fun t9 w =>
  iff' t9
  (bld (zeroD prog 113) #[(0, 6), (6, 1), (7, 1), (8, 1), (9, 1)] [] w fun t10 w =>
  stN 10 t2 t10 w fun _ w =>
  ldN 10 t2 w fun r0 _ =>
  K (Value.tuple #[r0, (Value.bool false)]) w)
  (dr w fun w =>
  ncP t0 <|
  fld 1 t0 w fun t13 _ =>
  ld1 t13 w fun t14 _ =>
  ncP t0 <|
  fld 1 t0 w fun t17 _ =>
  ld1 t17 w fun t18 _ =>
  lnS t18 w fun t19 _ =>
  bi .sub .i64 t19 (Value.int IntKind.i64 1) w fun t20 _ =>
  ixS 10 t14 t20 w fun t21 _ =>
  ldN 10 t21 w fun t22 _ =>
  Cl prog 113 #[t22] w fun t23 w =>
  stN 10 t2 t23 w fun _ w =>
  ldN 10 t2 w fun r0 _ =>
  K (Value.tuple #[r0, (Value.bool true)]) w)
theorem past_Past_Last_calls {t0 : Value} {w : World} {K : KV} (h : past_Past_Last t0 w K) : Cl prog 111 #[t0] w K :=
  Cl.mk (by kernel_rfl) (calls_of_FC (fn := fn111) (nt := 24) (rs := [(2, some 113), (3, none)]) mixed fnAt111 (by kernel_rfl) (by kernel_rfl) (by kernel_rfl) (Nat.le_of_ble_eq_true (by kernel_rfl)) (by kernel_rfl) (by kernel_rfl) h)

def past_Entry_ahead (t0 t1 : Value) (w : World) (K : KV) : Prop :=
  al (Value.cells t0) 113 w fun t2 w =>
  al (Value.cells t1) 35 w fun t3 w =>
  fld 0 t2 w fun t5 w =>
  fld 0 t5 w fun t6 w =>
  ldN 3 t6 w fun t7 w =>
  ldN 3 t3 w fun t8 w =>
  Cl prog 117 #[t7, t8] w fun t9 w =>
  bi .lss .i64 t9 (Value.int IntKind.i64 0) w fun t10 w =>
  K t10 w
theorem past_Entry_ahead_calls {t0 t1 : Value} {w : World} {K : KV} (h : past_Entry_ahead t0 t1 w K) : Cl prog 112 #[t0, t1] w K :=
  Cl.mk (by kernel_rfl) (calls_of_F (fn := fn112) (nt := 11) (rs := [4]) mixed fnAt112 (by kernel_rfl) (by kernel_rfl) (by kernel_rfl) (Nat.le_of_ble_eq_true (by kernel_rfl)) (by kernel_rfl) (by kernel_rfl) h)

def past_own (t0 : Value) (w : World) (K : KV) : Prop :=
  al (Value.cells t0) 113 w fun t1 w =>
  al (zeroD prog 113) 113 w fun t2 w =>
  fld 9 t1 w fun t3 w =>
  ld1 t3 w fun t4 w =>
  Cl prog 114 #[t4] w fun t5 w =>
  fld 9 t1 w fun t6 w =>
  stN 1 t6 t5 w fun _ w =>
  ldN 10 t1 w fun t7 w =>
  stN 10 t2 t7 w fun _ w =>
  ldN 10 t2 w fun r0 _ =>
  K r0 w
theorem past_own_calls {t0 : Value} {w : World} {K : KV} (h : past_own t0 w K) : Cl prog 113 #[t0] w K :=
  Cl.mk (by kernel_rfl) (calls_of_FC (fn := fn113) (nt := 8) (rs := [(2, some 113)]) mixed fnAt113 (by kernel_rfl) (by kernel_rfl) (by kernel_rfl) (Nat.le_of_ble_eq_true (by kernel_rfl)) (by kernel_rfl) (by kernel_rfl) h)

def slices_Clone_api_Msg_api_Msg (t0 : Value) (w : World) (K : KV) : Prop :=
  bO prog .eql 33 (Operand.tmp 3) (Operand.const (Value.slice none 0 0)) t0 (Value.slice none 0 0) w fun t4 w =>
  iff' t4
  (K (Value.slice none 0 0) w)
  (bsl 37 6 0 #[] [] w fun t5 w =>
  apS prog #[33, 33] 33 t5 t0 w fun t7 w =>
  K t7 w)
theorem slices_Clone_api_Msg_api_Msg_calls {t0 : Value} {w : World} {K : KV} (h : slices_Clone_api_Msg_api_Msg t0 w K) : Cl prog 114 #[t0] w K :=
  Cl.mk (by kernel_rfl) (calls_of_F (fn := fn114) (nt := 8) (rs := [2]) mixed fnAt114 (by kernel_rfl) (by kernel_rfl) (by kernel_rfl) (Nat.le_of_ble_eq_true (by kernel_rfl)) (by kernel_rfl) (by kernel_rfl) h)

def prio_Queue_List_1 (t0 t1 : Value) (w : World) (K : KV) : Prop :=
  al (Value.cells t0) 37 w fun t2 w =>
  al (Value.cells t1) 37 w fun t3 w =>
  fld 0 t2 w fun t5 w =>
  ldN 3 t5 w fun t6 w =>
  fld 0 t3 w fun t7 w =>
  ldN 3 t7 w fun t8 w =>
  Cl prog 117 #[t6, t8] w fun t9 w =>
  K t9 w
theorem prio_Queue_List_1_calls {t0 t1 : Value} {w : World} {K : KV} (h : prio_Queue_List_1 t0 t1 w K) : Cl prog 116 #[t0, t1] w K :=
  Cl.mk (by kernel_rfl) (calls_of_F (fn := fn116) (nt := 10) (rs := [4]) mixed fnAt116 (by kernel_rfl) (by kernel_rfl) (by kernel_rfl) (Nat.le_of_ble_eq_true (by kernel_rfl)) (by kernel_rfl) (by kernel_rfl) h)

def vtime_Cmp (t0 t1 : Value) (w : World) (K : KV) : Prop :=
  al (Value.cells t0) 35 w fun t2 w =>
  al (Value.cells t1) 35 w fun t3 w =>
  dr w fun w =>
  fld 0 t2 w fun t5 _ =>
  ld1 t5 w fun t6 _ =>
  fld 0 t3 w fun t7 _ =>
  ld1 t7 w fun t8 _ =>
  fld 1 t2 w fun t10 _ =>
  ld1 t10 w fun t11 _ =>
  fld 1 t3 w fun t12 _ =>
  ld1 t12 w fun t13 _ =>
  fld 2 t2 w fun t15 _ =>
  ld1 t15 w fun t16 _ =>
  fld 2 t3 w fun t17 _ =>
  ld1 t17 w fun t18 _ =>
  Cl prog 162 #[t6, t8] w fun t9 w =>
  (ld1 t17 w (fun v' w'' => v' = t18 ∧ w'' = w)) ∧ ((ld1 t15 w (fun v' w'' => v' = t16 ∧ w'' = w)) ∧ ((ld1 t12 w (fun v' w'' => v' = t13 ∧ w'' = w)) ∧ ((ld1 t10 w (fun v' w'' => v' = t11 ∧ w'' = w)) ∧ (Cl prog 162 #[t11, t13] w fun t14 w =>
  (ld1 t17 w (fun v' w'' => v' = t18 ∧ w'' = w)) ∧ ((ld1 t15 w (fun v' w'' => v' = t16 ∧ w'' = w)) ∧ (Cl prog 162 #[t16, t18] w fun t19 w =>
  bsl 3 1 3 (zeroD prog 3) [(0, t9), (1, t14), (2, t19)] w fun t20 w =>
  Cl prog 161 #[t20] w fun t21 w =>
  K t21 w))))))
theorem vtime_Cmp_calls {t0 t1 : Value} {w : World} {K : KV} (h : vtime_Cmp t0 t1 w K) : Cl prog 117 #[t0, t1] w K :=
  Cl.mk (by kernel_rfl) (calls_of_F (fn := fn117) (nt := 22) (rs := [4]) mixed fnAt117 (by kernel_rfl) (by kernel_rfl) (by kernel_rfl) (Nat.le_of_ble_eq_true (by kernel_rfl)) (by kernel_rfl) (by kernel_rfl) h)

def past_Past_many (t0 t1 t2 : Value) (w : World) (K : KV) : Prop :=
  al (Value.cells t0) 95 w fun t3 w =>
  al (Value.cells t1) 182 w fun t4 w =>
  al (Value.cells t2) 35 w fun t5 w =>
  ld1 t3 w fun t7 w =>
  ncP t7 <|
  fld 1 t7 w fun t9 w =>
  ld1 t9 w fun t10 w =>
  lnS t10 w fun t11 w =>
  Cl prog 163 #[t11, (Value.func (Fn.func 164) #[] #[t4, t3, t5])] w fun t13 w =>
  K t13 w
theorem past_Past_many_calls {t0 t1 t2 : Value} {w : World} {K : KV} (h : past_Past_many t0 t1 t2 w K) : Cl prog 118 #[t0, t1, t2] w K :=
  Cl.mk (by kernel_rfl) (calls_of_F (fn := fn118) (nt := 14) (rs := [6]) mixed fnAt118 (by kernel_rfl) (by kernel_rfl) (by kernel_rfl) (Nat.le_of_ble_eq_true (by kernel_rfl)) (by kernel_rfl) (by kernel_rfl) h)

def past_Entry_early (t0 t1 : Value) (w : World) (K : KV) : Prop :=
  al (Value.cells t0) 113 w fun t2 w =>
  al (Value.cells t1) 35 w fun t3 w =>
  fld 0 t2 w fun t5 w =>
  fld 0 t5 w fun t6 w =>
  fld 0 t6 w fun t7 w =>
  ld1 t7 w fun t8 w =>
  fld 0 t3 w fun t9 w =>
  ld1 t9 w fun t10 w =>
  bi .lss .i64 t8 t10 w fun t11 w =>
  K t11 w
theorem past_Entry_early_calls {t0 t1 : Value} {w : World} {K : KV} (h : past_Entry_early t0 t1 w K) : Cl prog 119 #[t0, t1] w K :=
  Cl.mk (by kernel_rfl) (calls_of_F (fn := fn119) (nt := 12) (rs := [4]) mixed fnAt119 (by kernel_rfl) (by kernel_rfl) (by kernel_rfl) (Nat.le_of_ble_eq_true (by kernel_rfl)) (by kernel_rfl) (by kernel_rfl) h)

def slices_Clone_past_Entry_past_Entry (t0 : Value) (w : World) (K : KV) : Prop :=
  bO prog .eql 115 (Operand.tmp 3) (Operand.const (Value.slice none 0 0)) t0 (Value.slice none 0 0) w fun t4 w =>
  iff' t4
  (K (Value.slice none 0 0) w)
  (bsl 113 10 0 #[] [] w fun t5 w =>
  apS prog #[115, 115] 115 t5 t0 w fun t7 w =>
  K t7 w)
theorem slices_Clone_past_Entry_past_Entry_calls {t0 : Value} {w : World} {K : KV} (h : slices_Clone_past_Entry_past_Entry t0 w K) : Cl prog 120 #[t0] w K :=
  Cl.mk (by kernel_rfl) (calls_of_F (fn := fn120) (nt := 8) (rs := [2]) mixed fnAt120 (by kernel_rfl) (by kernel_rfl) (by kernel_rfl) (Nat.le_of_ble_eq_true (by kernel_rfl)) (by kernel_rfl) (by kernel_rfl) h)

def gate_Gate_part (t0 t1 : Value) (w : World) (K : KV) : Prop :=
  ncP t0 <|
  fld 1 t0 w fun t11 w =>
  ld1 t11 w fun t12 w =>
  lnS t12 w fun t13 w =>
  lp [(Value.slice none 0 0), (Value.slice none 0 0), (Value.int IntKind.i64 0)] w (b3 fun t5 t6 t14 w g1 =>
  bi .lss .i64 t14 t13 w fun t15 w =>
  iff' t15
  (J2 (fun t5_1 t6_1 w =>
  bi .add .i64 t14 (Value.int IntKind.i64 1) w fun t29 w =>
  g1 [t5_1, t6_1, t29] w) fun k2 =>
  ixS 9 t12 t14 w fun t16 w =>
  ldN 9 t16 w fun t17 w =>
  al (zeroD prog 177) 177 w fun t8 w =>
  stN 9 t8 t17 w fun _ w =>
  ldN 9 t8 w fun t19 w =>
  clV prog t1 #[t19] w fun t20 w =>
  iff' t20
  (ldN 9 t8 w fun t22 w =>
  bsl 177 9 1 (zeroD prog 177) [(0, t22)] w fun t23 w =>
  apS prog #[158, 158] 158 t5 t23 w fun t24 w =>
  k2 t24 t6 w)
  (ldN 9 t8 w fun t26 w =>
  bsl 177 9 1 (zeroD prog 177) [(0, t26)] w fun t27 w =>
  apS prog #[158, 158] 158 t6 t27 w fun t28 w =>
  k2 t5 t28 w))
  (ncP t0 <|
  fld 1 t0 w fun t33 w =>
  stN 1 t33 t6 w fun _ w =>
  K t5 w))
theorem gate_Gate_part_calls {t0 t1 : Value} {w : World} {K : KV} (h : gate_Gate_part t0 t1 w K) : Cl prog 121 #[t0, t1] w K :=
  Cl.mk (by kernel_rfl) (calls_of_F (fn := fn121) (nt := 35) (rs := [4]) mixed fnAt121 (by kernel_rfl) (by kernel_rfl) (by kernel_rfl) (Nat.le_of_ble_eq_true (by kernel_rfl)) (by kernel_rfl) (by kernel_rfl) h)

def gate_Gate_Open_1 (t0 t1 : Value) (w : World) (K : KV) : Prop :=
  al (Value.cells t0) 177 w fun t2 w =>
  fld 0 t2 w fun t4 w =>
  fld 0 t4 w fun t5 w =>
  ld1 t5 w fun t6 w =>
  ld1 t1 w fun t7 w =>
  bi .lss .i64 t6 t7 w fun t8 w =>
  K t8 w
theorem gate_Gate_Open_1_calls {t0 t1 : Value} {w : World} {K : KV} (h : gate_Gate_Open_1 t0 t1 w K) : Cl prog 122 #[t0, t1] w K :=
  Cl.mk (by kernel_rfl) (calls_of_F (fn := fn122) (nt := 9) (rs := [3]) mixed fnAt122 (by kernel_rfl) (by kernel_rfl) (by kernel_rfl) (Nat.le_of_ble_eq_true (by kernel_rfl)) (by kernel_rfl) (by kernel_rfl) h)

def slices_SortStableFunc_gate_kept_gate_kept (t0 t1 : Value) (w : World) (K : KV) : Prop :=
  lnS t0 w fun t6 w =>
  Cl prog 165 #[t0, t6, t1] w fun _ w =>
  K (Value.tuple #[]) w
theorem slices_SortStableFunc_gate_kept_gate_kept_calls {t0 t1 : Value} {w : World} {K : KV} (h : slices_SortStableFunc_gate_kept_gate_kept t0 t1 w K) : Cl prog 123 #[t0, t1] w K :=
  Cl.mk (by kernel_rfl) (calls_of_F (fn := fn123) (nt := 9) (rs := []) mixed fnAt123 (by kernel_rfl) (by kernel_rfl) (by kernel_rfl) (Nat.le_of_ble_eq_true (by kernel_rfl)) (by kernel_rfl) (by kernel_rfl) h)

end Go.Proofs.YtbopajpmadlmhaaGreat
end
section
namespace Go.Proofs.YtbopajpmadlmhaaGreat
open Go Go.E
set_option linter.unusedVariables false
set_option maxRecDepth 100000
def gate_Gate_Open_2 (t0 t1 : Value) (w : World) (K : KV) : Prop :=
  al (Value.cells t0) 177 w fun t2 w =>
  al (Value.cells t1) 177 w fun t3 w =>
  fld 0 t2 w fun t5 w =>
  ldN 3 t5 w fun t6 w =>
  fld 0 t3 w fun t7 w =>
  ldN 3 t7 w fun t8 w =>
  Cl prog 117 #[t6, t8] w fun t9 w =>
  K t9 w
theorem gate_Gate_Open_2_calls {t0 t1 : Value} {w : World} {K : KV} (h : gate_Gate_Open_2 t0 t1 w K) : Cl prog 124 #[t0, t1] w K :=
  Cl.mk (by kernel_rfl) (calls_of_F (fn := fn124) (nt := 10) (rs := [4]) mixed fnAt124 (by kernel_rfl) (by kernel_rfl) (by kernel_rfl) (Nat.le_of_ble_eq_true (by kernel_rfl)) (by kernel_rfl) (by kernel_rfl) h)

def vtime_clamp (t0 : Value) (w : World) (K : KV) : Prop :=
  bi .lss .i64 t0 (Value.int IntKind.i64 0) w fun t5 w =>
  iff' t5
  (K (Value.int IntKind.i64 0) w)
  (bi .gtr .i64 t0 (Value.int IntKind.i64 1099511627776) w fun t8 w =>
  iff' t8
  (K (Value.int IntKind.i64 1125899906842624) w)
  (K t0 w))
theorem vtime_clamp_calls {t0 : Value} {w : World} {K : KV} (h : vtime_clamp t0 w K) : Cl prog 125 #[t0] w K :=
  Cl.mk (by kernel_rfl) (calls_of_F (fn := fn125) (nt := 10) (rs := [2]) mixed fnAt125 (by kernel_rfl) (by kernel_rfl) (by kernel_rfl) (Nat.le_of_ble_eq_true (by kernel_rfl)) (by kernel_rfl) (by kernel_rfl) h)

def pacelineref05_Above (t0 t1 : Value) (w : World) (K : KV) : Prop :=
  bsl 3 1 0 #[] [] w fun t6 w =>
  Cl prog 128 #[t0] w fun t8 w =>
  bi .neq .i64 t8 (Value.int IntKind.i64 0) w fun t9 w =>
  gd t9 false (fun k => k t1 w) w fun t11 w =>
  gd t9 false (fun k => bi .lss .i64 t11 (Value.int IntKind.i64 0) w k) w fun t12 w =>
  pk t9 (Value.bool true) t12 w fun t13 w =>
  gd t13 false (fun k => k t1 w) w fun t15 w =>
  gd t13 false (fun k => k t0 w) w fun t16 w =>
  gd t13 false (fun k => lnS t16 w k) w fun t17 w =>
  gd t13 false (fun k => bi .geq .i64 t15 t17 w k) w fun t18 w =>
  pk t13 (Value.bool true) t18 w fun t19 w =>
  iff' t19
  (K t6 w)
  (lp [t1, t6] w (b2 fun t1_1 t5 w g1 =>
  bi .geq .i64 t1_1 (Value.int IntKind.i64 0) w fun t22 w =>
  iff' t22
  (bsl 3 1 1 (zeroD prog 3) [(0, t1_1)] w fun t25 w =>
  apS prog #[24, 24] 24 t5 t25 w fun t26 w =>
  ixS 1 t0 t1_1 w fun t29 w =>
  ld1 t29 w fun t30 w =>
  g1 [t30, t26] w)
  (K t5 w)))
theorem pacelineref05_Above_calls {t0 t1 : Value} {w : World} {K : KV} (h : pacelineref05_Above t0 t1 w K) : Cl prog 126 #[t0, t1] w K :=
  Cl.mk (by kernel_rfl) (calls_of_F (fn := fn126) (nt := 32) (rs := [4]) mixed fnAt126 (by kernel_rfl) (by kernel_rfl) (by kernel_rfl) (Nat.le_of_ble_eq_true (by kernel_rfl)) (by kernel_rfl) (by kernel_rfl) h)

def pacelineref05_Has (t0 t1 : Value) (w : World) (K : KV) : Prop :=
  lp [(Value.int IntKind.i64 0)] w (b1 fun t5 w g1 =>
  lnS t0 w fun t8 w =>
  bi .lss .i64 t5 t8 w fun t9 w =>
  iff' t9
  (ixS 1 t0 t5 w fun t14 w =>
  ld1 t14 w fun t15 w =>
  bi .eql .i64 t15 t1 w fun t17 w =>
  iff' t17
  (K (Value.bool true) w)
  (bi .add .i64 t5 (Value.int IntKind.i64 1) w fun t11 w =>
  g1 [t11] w))
  (K (Value.bool false) w))
theorem pacelineref05_Has_calls {t0 t1 : Value} {w : World} {K : KV} (h : pacelineref05_Has t0 t1 w K) : Cl prog 127 #[t0, t1] w K :=
  Cl.mk (by kernel_rfl) (calls_of_F (fn := fn127) (nt := 18) (rs := [4]) mixed fnAt127 (by kernel_rfl) (by kernel_rfl) (by kernel_rfl) (Nat.le_of_ble_eq_true (by kernel_rfl)) (by kernel_rfl) (by kernel_rfl) h)

def pacelineref05_Check (t0 : Value) (w : World) (K : KV) : Prop :=
  lnS t0 w fun t5 w =>
  bi .lss .i64 t5 (Value.int IntKind.i64 1) w fun t6 w =>
  gd t6 false (fun k => k t0 w) w fun t8 w =>
  gd t6 false (fun k => lnS t8 w k) w fun t9 w =>
  gd t6 false (fun k => bi .gtr .i64 t9 (Value.int IntKind.i64 16) w k) w fun t10 w =>
  pk t6 (Value.bool true) t10 w fun t11 w =>
  iff' t11
  (K (Value.int IntKind.i64 50) w)
  (lp [(Value.int IntKind.i64 0)] w (b1 fun t3 w g1 =>
  lnS t0 w fun t14 w =>
  bi .lss .i64 t3 t14 w fun t15 w =>
  iff' t15
  (ixS 1 t0 t3 w fun t20 w =>
  ld1 t20 w fun t21 w =>
  bi .lss .i64 t21 (Value.int IntKind.i64 (-1)) w fun t22 w =>
  gd t22 false (fun k => k t0 w) w fun t24 w =>
  gd t22 false (fun k => k t3 w) w fun t25 w =>
  gd t22 false (fun k => ixS 1 t24 t25 w k) w fun t26 w =>
  gd t22 false (fun k => ld1 t26 w k) w fun t27 w =>
  gd t22 false (fun k => k t3 w) w fun t28 w =>
  gd t22 false (fun k => bi .geq .i64 t27 t28 w k) w fun t29 w =>
  pk t22 (Value.bool true) t29 w fun t30 w =>
  iff' t30
  (K (Value.int IntKind.i64 50) w)
  (bi .add .i64 t3 (Value.int IntKind.i64 1) w fun t17 w =>
  g1 [t17] w))
  (K (Value.int IntKind.i64 0) w)))
theorem pacelineref05_Check_calls {t0 : Value} {w : World} {K : KV} (h : pacelineref05_Check t0 w K) : Cl prog 128 #[t0] w K :=
  Cl.mk (by kernel_rfl) (calls_of_F (fn := fn128) (nt := 31) (rs := [2]) mixed fnAt128 (by kernel_rfl) (by kernel_rfl) (by kernel_rfl) (Nat.le_of_ble_eq_true (by kernel_rfl)) (by kernel_rfl) (by kernel_rfl) h)

def pacelineref08_Fed (t0 t1 : Value) (w : World) (K : KV) : Prop :=
  al (Value.cells t0) 66 w fun t2 w =>
  fld 0 t2 w fun t10 w =>
  ld1 t10 w fun t11 w =>
  bi .neq .i64 t11 (Value.int IntKind.i64 0) w fun t12 w =>
  gd t12 true (fun k => fld 0 t2 w k) w fun t14 w =>
  gd t12 true (fun k => ld1 t14 w k) w fun t15 w =>
  gd t12 true (fun k => bi .neq .i64 t15 (Value.int IntKind.i64 1) w k) w fun t16 w =>
  pk t12 t16 (Value.bool false) w fun t17 w =>
  iff' t17
  (K (Value.int IntKind.i64 1) w)
  (fld 1 t2 w fun t18 w =>
  ld1 t18 w fun t19 w =>
  bi .lss .i64 t19 (Value.int IntKind.i64 1) w fun t20 w =>
  gd t20 false (fun k => fld 1 t2 w k) w fun t22 w =>
  gd t20 false (fun k => ld1 t22 w k) w fun t23 w =>
  gd t20 false (fun k => bi .gtr .i64 t23 (Value.int IntKind.i64 1048576) w k) w fun t24 w =>
  pk t20 (Value.bool true) t24 w fun t25 w =>
  iff' t25
  (K (Value.int IntKind.i64 80) w)
  (fld 2 t2 w fun t26 w =>
  ld1 t26 w fun t27 w =>
  bi .lss .i64 t27 (Value.int IntKind.i64 0) w fun t28 w =>
  gd t28 false (fun k => fld 2 t2 w k) w fun t30 w =>
  gd t28 false (fun k => ld1 t30 w k) w fun t31 w =>
  gd t28 false (fun k => bi .geq .i64 t31 (Value.int IntKind.i64 8) w k) w fun t32 w =>
  pk t28 (Value.bool true) t32 w fun t33 w =>
  gd t33 false (fun k => fld 3 t2 w k) w fun t35 w =>
  gd t33 false (fun k => ld1 t35 w k) w fun t36 w =>
  gd t33 false (fun k => Cl prog 166 #[t36] w k) w fun t37 w =>
  gd t33 false (fun k => bi .neq .i64 t37 (Value.int IntKind.i64 0) w k) w fun t38 w =>
  pk t33 (Value.bool true) t38 w fun t39 w =>
  iff' t39
  (K (Value.int IntKind.i64 70) w)
  (fld 4 t2 w fun t40 w =>
  ld1 t40 w fun t41 w =>
  Cl prog 167 #[t41, t1] w fun t43 w =>
  bnot t43 w fun t44 w =>
  gd t44 false (fun k => fld 5 t2 w k) w fun t46 w =>
  gd t44 false (fun k => ld1 t46 w k) w fun t47 w =>
  gd t44 false (fun k => k t1 w) w fun t48 w =>
  gd t44 false (fun k => Cl prog 167 #[t47, t48] w k) w fun t49 w =>
  gd t44 false (fun k => bnot t49 w k) w fun t50 w =>
  pk t44 (Value.bool true) t50 w fun t51 w =>
  iff' t51
  (K (Value.int IntKind.i64 81) w)
  (lp [(Value.int IntKind.i64 0)] w (b1 fun t5 w g1 =>
  fld 3 t2 w fun t53 w =>
  ld1 t53 w fun t54 w =>
  lnS t54 w fun t55 w =>
  bi .lss .i64 t5 t55 w fun t56 w =>
  iff' t56
  (fld 3 t2 w fun t59 w =>
  ld1 t59 w fun t60 w =>
  ixS 4 t60 t5 w fun t62 w =>
  fld 1 t62 w fun t63 w =>
  ld1 t63 w fun t64 w =>
  bi .geq .i64 t64 t1 w fun t66 w =>
  iff' t66
  (K (Value.int IntKind.i64 81) w)
  (lp [(Value.int IntKind.i64 0)] w (b1 fun t6 w g2 =>
  fld 3 t2 w fun t68 w =>
  ld1 t68 w fun t69 w =>
  ixS 4 t69 t5 w fun t71 w =>
  fld 3 t71 w fun t72 w =>
  ld1 t72 w fun t73 w =>
  lnS t73 w fun t74 w =>
  bi .lss .i64 t6 t74 w fun t75 w =>
  iff' t75
  (fld 3 t2 w fun t78 w =>
  ld1 t78 w fun t79 w =>
  ixS 4 t79 t5 w fun t81 w =>
  fld 3 t81 w fun t82 w =>
  ld1 t82 w fun t83 w =>
  ixS 3 t83 t6 w fun t85 w =>
  ldN 3 t85 w fun t86 w =>
  al (zeroD prog 87) 87 w fun t7 w =>
  stN 3 t7 t86 w fun _ w =>
  fld 4 t2 w fun t87 w =>
  ld1 t87 w fun t88 w =>
  fld 0 t7 w fun t89 w =>
  ld1 t89 w fun t90 w =>
  Cl prog 127 #[t88, t90] w fun t91 w =>
  bnot t91 w fun t92 w =>
  iff' t92
  (K (Value.int IntKind.i64 81) w)
  (fld 1 t7 w fun t93 w =>
  ld1 t93 w fun t94 w =>
  fld 1 t2 w fun t95 w =>
  ld1 t95 w fun t96 w =>
  bi .lss .i64 t94 t96 w fun t97 w =>
  iff' t97
  (K (Value.int IntKind.i64 80) w)
  (bi .add .i64 t6 (Value.int IntKind.i64 1) w fun t77 w =>
  g2 [t77] w)))
  (bi .add .i64 t5 (Value.int IntKind.i64 1) w fun t58 w =>
  g1 [t58] w))))
  (fld 6 t2 w fun t98 w =>
  ld1 t98 w fun t99 w =>
  lnS t99 w fun t100 w =>
  bi .gtr .i64 t100 (Value.int IntKind.i64 4) w fun t101 w =>
  iff' t101
  (K (Value.int IntKind.i64 82) w)
  (lp [(Value.int IntKind.i64 0)] w (b1 fun t8 w g3 =>
  fld 6 t2 w fun t103 w =>
  ld1 t103 w fun t104 w =>
  lnS t104 w fun t105 w =>
  bi .lss .i64 t8 t105 w fun t106 w =>
  iff' t106
  (fld 6 t2 w fun t109 w =>
  ld1 t109 w fun t110 w =>
  ixS 3 t110 t8 w fun t112 w =>
  ldN 3 t112 w fun t113 w =>
  al (zeroD prog 87) 87 w fun t9 w =>
  stN 3 t9 t113 w fun _ w =>
  fld 4 t2 w fun t114 w =>
  ld1 t114 w fun t115 w =>
  fld 0 t9 w fun t116 w =>
  ld1 t116 w fun t117 w =>
  Cl prog 127 #[t115, t117] w fun t118 w =>
  bnot t118 w fun t119 w =>
  gd t119 false (fun k => fld 1 t9 w k) w fun t121 w =>
  gd t119 false (fun k => ld1 t121 w k) w fun t122 w =>
  gd t119 false (fun k => bi .lss .i64 t122 (Value.int IntKind.i64 0) w k) w fun t123 w =>
  pk t119 (Value.bool true) t123 w fun t124 w =>
  gd t124 false (fun k => fld 1 t9 w k) w fun t126 w =>
  gd t124 false (fun k => ld1 t126 w k) w fun t127 w =>
  gd t124 false (fun k => bi .gtr .i64 t127 (Value.int IntKind.i64 1099511627776) w k) w fun t128 w =>
  pk t124 (Value.bool true) t128 w fun t129 w =>
  gd t129 false (fun k => fld 2 t9 w k) w fun t131 w =>
  gd t129 false (fun k => ld1 t131 w k) w fun t132 w =>
  gd t129 false (fun k => bi .lss .i64 t132 (Value.int IntKind.i64 0) w k) w fun t133 w =>
  pk t129 (Value.bool true) t133 w fun t134 w =>
  gd t134 false (fun k => fld 2 t9 w k) w fun t136 w =>
  gd t134 false (fun k => ld1 t136 w k) w fun t137 w =>
  gd t134 false (fun k => bi .geq .i64 t137 (Value.int IntKind.i64 1000) w k) w fun t138 w =>
  pk t134 (Value.bool true) t138 w fun t139 w =>
  iff' t139
  (K (Value.int IntKind.i64 82) w)
  (bi .add .i64 t8 (Value.int IntKind.i64 1) w fun t108 w =>
  g3 [t108] w))
  (K (Value.int IntKind.i64 0) w)))))))))
theorem pacelineref08_Fed_calls {t0 t1 : Value} {w : World} {K : KV} (h : pacelineref08_Fed t0 t1 w K) : Cl prog 129 #[t0, t1] w K :=
  Cl.mk (by kernel_rfl) (calls_of_F (fn := fn129) (nt := 140) (rs := [4]) mixed fnAt129 (by kernel_rfl) (by kernel_rfl) (by kernel_rfl) (Nat.le_of_ble_eq_true (by kernel_rfl)) (by kernel_rfl) (by kernel_rfl) h)

def pacelineref13_Past_Back (t0 t1 : Value) (w : World) (K : KV) : Prop :=
  al (Value.cells t1) 35 w fun t3 w =>
  bsl 140 10 0 #[] [] w fun t9 w =>
  bsl 140 10 0 #[] [] w fun t10 w =>
  lp [t10, (Value.int IntKind.i64 0)] w (b2 fun t6 t7 w g1 =>
  ncP t0 <|
  fld 1 t0 w fun t14 w =>
  ld1 t14 w fun t15 w =>
  lnS t15 w fun t16 w =>
  bi .lss .i64 t7 t16 w fun t17 w =>
  iff' t17
  (J1 (fun t6_1 w =>
  bi .add .i64 t7 (Value.int IntKind.i64 1) w fun t19 w =>
  g1 [t6_1, t19] w) fun k2 =>
  dr w fun w =>
  ncP t0 <|
  fld 1 t0 w fun t22 _ =>
  ld1 t22 w fun t23 _ =>
  ixS 10 t23 t7 w fun t25 _ =>
  fld 0 t25 w fun t26 _ =>
  fld 0 t26 w fun t27 _ =>
  ldN 3 t27 w fun t28 _ =>
  ldN 3 t3 w fun t29 _ =>
  Cl prog 29 #[t28, t29] w fun t30 w =>
  bi .lss .i64 t30 (Value.int IntKind.i64 0) w fun t31 _ =>
  iff' t31
  (ncP t0 <|
  fld 1 t0 w fun t35 w =>
  ld1 t35 w fun t36 w =>
  ixS 10 t36 t7 w fun t38 w =>
  ldN 10 t38 w fun t39 w =>
  bsl 140 10 1 (zeroD prog 140) [(0, t39)] w fun t40 w =>
  apS prog #[128, 128] 128 t6 t40 w fun t41 w =>
  k2 t41 w)
  (k2 t6 w))
  (ncP t0 <|
  fld 1 t0 w fun t44 w =>
  ld1 t44 w fun t45 w =>
  lnS t45 w fun t46 w =>
  bi .sub .i64 t46 (Value.int IntKind.i64 1) w fun t47 w =>
  lp [t9, t47] w (b2 fun t5 t8 w g3 =>
  lnS t6 w fun t50 w =>
  bi .geq .i64 t8 t50 w fun t51 w =>
  iff' t51
  (ncP t0 <|
  fld 1 t0 w fun t57 w =>
  ld1 t57 w fun t58 w =>
  ixS 10 t58 t8 w fun t60 w =>
  ldN 10 t60 w fun t61 w =>
  bsl 140 10 1 (zeroD prog 140) [(0, t61)] w fun t62 w =>
  apS prog #[128, 128] 128 t5 t62 w fun t63 w =>
  bi .sub .i64 t8 (Value.int IntKind.i64 1) w fun t53 w =>
  g3 [t63, t53] w)
  (ncP t0 <|
  fld 1 t0 w fun t67 w =>
  stN 1 t67 t6 w fun _ w =>
  K t5 w))))
theorem pacelineref13_Past_Back_calls {t0 t1 : Value} {w : World} {K : KV} (h : pacelineref13_Past_Back t0 t1 w K) : Cl prog 130 #[t0, t1] w K :=
  Cl.mk (by kernel_rfl) (calls_of_F (fn := fn130) (nt := 69) (rs := [4]) mixed fnAt130 (by kernel_rfl) (by kernel_rfl) (by kernel_rfl) (Nat.le_of_ble_eq_true (by kernel_rfl)) (by kernel_rfl) (by kernel_rfl) h)

def pacelineref14_Gate_Drop (t0 t1 : Value) (w : World) (K : KV) : Prop :=
  al (Value.cells t1) 35 w fun t3 w =>
  bsl 37 6 0 #[] [] w fun t8 w =>
  bsl 196 9 0 #[] [] w fun t9 w =>
  lp [t8, t9, (Value.int IntKind.i64 0)] w (b3 fun t5 t6 t7 w g1 =>
  ncP t0 <|
  fld 1 t0 w fun t13 w =>
  ld1 t13 w fun t14 w =>
  lnS t14 w fun t15 w =>
  bi .lss .i64 t7 t15 w fun t16 w =>
  iff' t16
  (J2 (fun t5_1 t6_1 w =>
  bi .add .i64 t7 (Value.int IntKind.i64 1) w fun t18 w =>
  g1 [t5_1, t6_1, t18] w) fun k2 =>
  dr w fun w =>
  ncP t0 <|
  fld 1 t0 w fun t21 _ =>
  ld1 t21 w fun t22 _ =>
  ixS 9 t22 t7 w fun t24 _ =>
  fld 0 t24 w fun t25 _ =>
  ldN 3 t25 w fun t26 _ =>
  ldN 3 t3 w fun t27 _ =>
  Cl prog 29 #[t26, t27] w fun t28 w =>
  bi .lss .i64 t28 (Value.int IntKind.i64 0) w fun t29 _ =>
  iff' t29
  (ncP t0 <|
  fld 1 t0 w fun t33 w =>
  ld1 t33 w fun t34 w =>
  ixS 9 t34 t7 w fun t36 w =>
  ldN 9 t36 w fun t37 w =>
  bsl 196 9 1 (zeroD prog 196) [(0, t37)] w fun t38 w =>
  apS prog #[136, 136] 136 t6 t38 w fun t39 w =>
  k2 t5 t39 w)
  (ncP t0 <|
  fld 1 t0 w fun t43 w =>
  ld1 t43 w fun t44 w =>
  ixS 9 t44 t7 w fun t46 w =>
  fld 3 t46 w fun t47 w =>
  ldN 6 t47 w fun t48 w =>
  bsl 37 6 1 (zeroD prog 37) [(0, t48)] w fun t49 w =>
  apS prog #[33, 33] 33 t5 t49 w fun t50 w =>
  k2 t50 t6 w))
  (ncP t0 <|
  fld 1 t0 w fun t54 w =>
  stN 1 t54 t6 w fun _ w =>
  K t5 w))
theorem pacelineref14_Gate_Drop_calls {t0 t1 : Value} {w : World} {K : KV} (h : pacelineref14_Gate_Drop t0 t1 w K) : Cl prog 131 #[t0, t1] w K :=
  Cl.mk (by kernel_rfl) (calls_of_F (fn := fn131) (nt := 56) (rs := [4]) mixed fnAt131 (by kernel_rfl) (by kernel_rfl) (by kernel_rfl) (Nat.le_of_ble_eq_true (by kernel_rfl)) (by kernel_rfl) (by kernel_rfl) h)

def pacelineref03_Queue_find (t0 t1 : Value) (w : World) (K : KV) : Prop :=
  al (Value.cells t1) 35 w fun t3 w =>
  lp [(Value.int IntKind.i64 0)] w (b1 fun t5 w g1 =>
  ncP t0 <|
  fld 1 t0 w fun t9 w =>
  ld1 t9 w fun t10 w =>
  lnS t10 w fun t11 w =>
  bi .lss .i64 t5 t11 w fun t12 w =>
  iff' t12
  (dr w fun w =>
  ncP t0 <|
  fld 1 t0 w fun t17 _ =>
  ld1 t17 w fun t18 _ =>
  ixS 6 t18 t5 w fun t20 _ =>
  fld 0 t20 w fun t21 _ =>
  ldN 3 t21 w fun t22 _ =>
  ldN 3 t3 w fun t23 _ =>
  bO prog .eql 35 (Operand.tmp 22) (Operand.tmp 23) t22 t23 w fun t24 w =>
  iff' t24
  (K t5 w)
  (bi .add .i64 t5 (Value.int IntKind.i64 1) w fun t14 w =>
  g1 [t14] w))
  (K (Value.int IntKind.i64 (-1)) w))
theorem pacelineref03_Queue_find_calls {t0 t1 : Value} {w : World} {K : KV} (h : pacelineref03_Queue_find t0 t1 w K) : Cl prog 132 #[t0, t1] w K :=
  Cl.mk (by kernel_rfl) (calls_of_F (fn := fn132) (nt := 26) (rs := [4]) mixed fnAt132 (by kernel_rfl) (by kernel_rfl) (by kernel_rfl) (Nat.le_of_ble_eq_true (by kernel_rfl)) (by kernel_rfl) (by kernel_rfl) h)

def pacelineref03_Without (t0 t1 : Value) (w : World) (K : KV) : Prop :=
  al (Value.cells t1) 35 w fun t3 w =>
  bsl 37 6 0 #[] [] w fun t7 w =>
  lp [t7, (Value.int IntKind.i64 0)] w (b2 fun t5 t6 w g1 =>
  lnS t0 w fun t10 w =>
  bi .lss .i64 t6 t10 w fun t11 w =>
  iff' t11
  (J1 (fun t5_1 w =>
  bi .add .i64 t6 (Value.int IntKind.i64 1) w fun t13 w =>
  g1 [t5_1, t13] w) fun k2 =>
  dr w fun w =>
  ixS 6 t0 t6 w fun t16 _ =>
  fld 0 t16 w fun t17 _ =>
  ldN 3 t17 w fun t18 _ =>
  ldN 3 t3 w fun t19 _ =>
  bO prog .neq 35 (Operand.tmp 18) (Operand.tmp 19) t18 t19 w fun t20 w =>
  iff' t20
  (ixS 6 t0 t6 w fun t24 w =>
  ldN 6 t24 w fun t25 w =>
  bsl 37 6 1 (zeroD prog 37) [(0, t25)] w fun t26 w =>
  apS prog #[33, 33] 33 t5 t26 w fun t27 w =>
  k2 t27 w)
  (k2 t5 w))
  (K t5 w))
theorem pacelineref03_Without_calls {t0 t1 : Value} {w : World} {K : KV} (h : pacelineref03_Without t0 t1 w K) : Cl prog 133 #[t0, t1] w K :=
  Cl.mk (by kernel_rfl) (calls_of_F (fn := fn133) (nt := 29) (rs := [4]) mixed fnAt133 (by kernel_rfl) (by kernel_rfl) (by kernel_rfl) (Nat.le_of_ble_eq_true (by kernel_rfl)) (by kernel_rfl) (by kernel_rfl) h)

def pacelineref01_time (t0 : Value) (w : World) (K : KV) : Prop :=
  bi .lss .i64 t0 (Value.int IntKind.i64 0) w fun t4 w =>
  iff' t4
  (K (Value.int IntKind.i64 0) w)
  (bi .gtr .i64 t0 (Value.int IntKind.i64 1099511627776) w fun t6 w =>
  iff' t6
  (K (Value.int IntKind.i64 1125899906842624) w)
  (K t0 w))
theorem pacelineref01_time_calls {t0 : Value} {w : World} {K : KV} (h : pacelineref01_time t0 w K) : Cl prog 134 #[t0] w K :=
  Cl.mk (by kernel_rfl) (calls_of_F (fn := fn134) (nt := 8) (rs := [2]) mixed fnAt134 (by kernel_rfl) (by kernel_rfl) (by kernel_rfl) (Nat.le_of_ble_eq_true (by kernel_rfl)) (by kernel_rfl) (by kernel_rfl) h)

def config_unless_1 (t0 t1 : Value) (w : World) (K : KV) : Prop :=
  ld1 t0 w fun t3 w =>
  iff' t3
  (K (Value.int IntKind.i64 0) w)
  (ld1 t1 w fun t4 w =>
  K t4 w)
theorem config_unless_1_calls {t0 t1 : Value} {w : World} {K : KV} (h : config_unless_1 t0 t1 w K) : Cl prog 135 #[t0, t1] w K :=
  Cl.mk (by kernel_rfl) (calls_of_F (fn := fn135) (nt := 5) (rs := [2]) mixed fnAt135 (by kernel_rfl) (by kernel_rfl) (by kernel_rfl) (Nat.le_of_ble_eq_true (by kernel_rfl)) (by kernel_rfl) (by kernel_rfl) h)

def config_fed_1 (t0 t1 : Value) (w : World) (K : KV) : Prop :=
  lnS t0 w fun t8 w =>
  lp [(Value.int IntKind.i64 (-1)), (Value.int IntKind.i64 0)] w (b2 fun t4 t9 w g1 =>
  bi .lss .i64 t9 t8 w fun t10 w =>
  iff' t10
  (ixS 1 t0 t9 w fun t11 w =>
  ld1 t11 w fun t12 w =>
  bi .leq .i64 t12 t4 w fun t15 w =>
  gd t15 false (fun k => k t12 w) w fun t17 w =>
  gd t15 false (fun k => ld1 t1 w k) w fun t18 w =>
  gd t15 false (fun k => bi .geq .i64 t17 t18 w k) w fun t19 w =>
  pk t15 (Value.bool true) t19 w fun t20 w =>
  iff' t20
  (K (Value.bool false) w)
  (bi .add .i64 t9 (Value.int IntKind.i64 1) w fun t22 w =>
  g1 [t12, t22] w))
  (K (Value.bool true) w))
theorem config_fed_1_calls {t0 t1 : Value} {w : World} {K : KV} (h : config_fed_1 t0 t1 w K) : Cl prog 136 #[t0, t1] w K :=
  Cl.mk (by kernel_rfl) (calls_of_F (fn := fn136) (nt := 23) (rs := [3]) mixed fnAt136 (by kernel_rfl) (by kernel_rfl) (by kernel_rfl) (Nat.le_of_ble_eq_true (by kernel_rfl)) (by kernel_rfl) (by kernel_rfl) h)

def config_fed_2 (t0 t1 : Value) (w : World) (K : KV) : Prop :=
  fld 3 t0 w fun t8 w =>
  ld1 t8 w fun t9 w =>
  lnS t9 w fun t10 w =>
  lp [(Value.int IntKind.i64 0)] w (b1 fun t11 w g1 =>
  bi .lss .i64 t11 t10 w fun t12 w =>
  iff' t12
  (ixS 4 t9 t11 w fun t13 w =>
  ldN 4 t13 w fun t14 w =>
  al (zeroD prog 89) 89 w fun t4 w =>
  stN 4 t4 t14 w fun _ w =>
  fld 1 t4 w fun t15 w =>
  ld1 t15 w fun t16 w =>
  ld1 t1 w fun t17 w =>
  bi .geq .i64 t16 t17 w fun t18 w =>
  iff' t18
  (K (Value.int IntKind.i64 81) w)
  (fld 3 t4 w fun t19 w =>
  ld1 t19 w fun t20 w =>
  lnS t20 w fun t21 w =>
  lp [(Value.int IntKind.i64 0)] w (b1 fun t22 w g2 =>
  bi .lss .i64 t22 t21 w fun t23 w =>
  iff' t23
  (ixS 3 t20 t22 w fun t24 w =>
  ldN 3 t24 w fun t25 w =>
  al (zeroD prog 87) 87 w fun t6 w =>
  stN 3 t6 t25 w fun _ w =>
  dr w fun w =>
  fld 4 t0 w fun t26 _ =>
  ld1 t26 w fun t27 _ =>
  fld 0 t6 w fun t28 _ =>
  ld1 t28 w fun t29 _ =>
  fld 1 t6 w fun t32 _ =>
  ld1 t32 w fun t33 _ =>
  fld 1 t0 w fun t34 _ =>
  ld1 t34 w fun t35 _ =>
  bi .geq .i64 t33 t35 w fun t36 _ =>
  Cl prog 138 #[t27, t29] w fun t30 w =>
  (ld1 t34 w (fun v' w'' => v' = t35 ∧ w'' = w)) ∧ ((ld1 t32 w (fun v' w'' => v' = t33 ∧ w'' = w)) ∧ (Cl prog 92 #[t30, (Value.int IntKind.i64 81)] w fun t31 w =>
  (ld1 t34 w (fun v' w'' => v' = t35 ∧ w'' = w)) ∧ ((ld1 t32 w (fun v' w'' => v' = t33 ∧ w'' = w)) ∧ (Cl prog 92 #[t36, (Value.int IntKind.i64 80)] w fun t37 w =>
  bsl 144 1 2 (zeroD prog 144) [(0, t31), (1, t37)] w fun t38 w =>
  Cl prog 89 #[t38] w fun t39 w =>
  bi .neq .i64 t39 (Value.int IntKind.i64 0) w fun t41 w =>
  iff' t41
  (K t39 w)
  (bi .add .i64 t22 (Value.int IntKind.i64 1) w fun t43 w =>
  g2 [t43] w))))))
  (bi .add .i64 t11 (Value.int IntKind.i64 1) w fun t44 w =>
  g1 [t44] w))))
  (K (Value.int IntKind.i64 0) w))
theorem config_fed_2_calls {t0 t1 : Value} {w : World} {K : KV} (h : config_fed_2 t0 t1 w K) : Cl prog 137 #[t0, t1] w K :=
  Cl.mk (by kernel_rfl) (calls_of_F (fn := fn137) (nt := 45) (rs := [2]) mixed fnAt137 (by kernel_rfl) (by kernel_rfl) (by kernel_rfl) (Nat.le_of_ble_eq_true (by kernel_rfl)) (by kernel_rfl) (by kernel_rfl) h)

def slices_Contains_int_int (t0 t1 : Value) (w : World) (K : KV) : Prop :=
  Cl prog 168 #[t0, t1] w fun t7 w =>
  bi .geq .i64 t7 (Value.int IntKind.i64 0) w fun t8 w =>
  K t8 w
theorem slices_Contains_int_int_calls {t0 t1 : Value} {w : World} {K : KV} (h : slices_Contains_int_int t0 t1 w K) : Cl prog 138 #[t0, t1] w K :=
  Cl.mk (by kernel_rfl) (calls_of_F (fn := fn138) (nt := 9) (rs := [4]) mixed fnAt138 (by kernel_rfl) (by kernel_rfl) (by kernel_rfl) (Nat.le_of_ble_eq_true (by kernel_rfl)) (by kernel_rfl) (by kernel_rfl) h)

def config_fed_3 (t0 t1 : Value) (w : World) (K : KV) : Prop :=
  al (Value.cells t0) 87 w fun t2 w =>
  fld 4 t1 w fun t4 w =>
  ld1 t4 w fun t5 w =>
  fld 0 t2 w fun t6 w =>
  ld1 t6 w fun t7 w =>
  Cl prog 138 #[t5, t7] w fun t8 w =>
  bnot t8 w fun t9 w =>
  gd t9 false (fun k => fld 1 t2 w k) w fun t11 w =>
  gd t9 false (fun k => ld1 t11 w k) w fun t12 w =>
  gd t9 false (fun k => Cl prog 93 #[t12, (Value.int IntKind.i64 0), (Value.int IntKind.i64 1099511627776)] w k) w fun t13 w =>
  gd t9 false (fun k => bnot t13 w k) w fun t14 w =>
  pk t9 (Value.bool true) t14 w fun t15 w =>
  gd t15 false (fun k => fld 2 t2 w k) w fun t17 w =>
  gd t15 false (fun k => ld1 t17 w k) w fun t18 w =>
  gd t15 false (fun k => Cl prog 93 #[t18, (Value.int IntKind.i64 0), (Value.int IntKind.i64 999)] w k) w fun t19 w =>
  gd t15 false (fun k => bnot t19 w k) w fun t20 w =>
  pk t15 (Value.bool true) t20 w fun t21 w =>
  K t21 w
theorem config_fed_3_calls {t0 t1 : Value} {w : World} {K : KV} (h : config_fed_3 t0 t1 w K) : Cl prog 139 #[t0, t1] w K :=
  Cl.mk (by kernel_rfl) (calls_of_F (fn := fn139) (nt := 22) (rs := [3]) mixed fnAt139 (by kernel_rfl) (by kernel_rfl) (by kernel_rfl) (Nat.le_of_ble_eq_true (by kernel_rfl)) (by kernel_rfl) (by kernel_rfl) h)

def config_fed_4 (t0 : Value) (w : World) (K : KV) : Prop :=
  fld 3 t0 w fun t2 w =>
  ld1 t2 w fun t3 w =>
  Cl prog 141 #[t3] w fun t4 w =>
  K t4 w
theorem config_fed_4_calls {t0 : Value} {w : World} {K : KV} (h : config_fed_4 t0 w K) : Cl prog 140 #[t0] w K :=
  Cl.mk (by kernel_rfl) (calls_of_F (fn := fn140) (nt := 5) (rs := [1]) mixed fnAt140 (by kernel_rfl) (by kernel_rfl) (by kernel_rfl) (Nat.le_of_ble_eq_true (by kernel_rfl)) (by kernel_rfl) (by kernel_rfl) h)

def table_Check (t0 : Value) (w : World) (K : KV) : Prop :=
  lnS t0 w fun t9 w =>
  bi .gtr .i64 t9 (Value.int IntKind.i64 32) w fun t10 w =>
  iff' t10
  (K (Value.int IntKind.i64 70) w)
  (mkMap w fun t11 w =>
  lnS t0 w fun t13 w =>
  lp [(Value.int IntKind.i64 0)] w (b1 fun t14 w g1 =>
  bi .lss .i64 t14 t13 w fun t15 w =>
  iff' t15
  (ixS 4 t0 t14 w fun t16 w =>
  ldN 4 t16 w fun t17 w =>
  al (zeroD prog 89) 89 w fun t5 w =>
  stN 4 t5 t17 w fun _ w =>
  fld 0 t5 w fun t18 w =>
  ld1 t18 w fun t19 w =>
  fld 1 t5 w fun t20 w =>
  ld1 t20 w fun t21 w =>
  bld (zeroD prog 233) #[(0, 1), (1, 1)] [(0, t19), (1, t21)] w fun t22 w =>
  al (zeroD prog 233) 233 w fun t6 w =>
  stN 2 t6 t22 w fun _ w =>
  ldN 2 t6 w fun t24 w =>
  lkM prog 231 t11 t24 false w fun t25 w =>
  gd t25 false (fun k => fld 0 t5 w k) w fun t27 w =>
  gd t25 false (fun k => ld1 t27 w k) w fun t28 w =>
  gd t25 false (fun k => Cl prog 170 #[t28, (Value.int IntKind.i64 8)] w k) w fun t29 w =>
  gd t25 false (fun k => bnot t29 w k) w fun t30 w =>
  pk t25 (Value.bool true) t30 w fun t31 w =>
  gd t31 false (fun k => fld 2 t5 w k) w fun t33 w =>
  gd t31 false (fun k => ld1 t33 w k) w fun t34 w =>
  gd t31 false (fun k => Cl prog 170 #[t34, (Value.int IntKind.i64 8)] w k) w fun t35 w =>
  gd t31 false (fun k => bnot t35 w k) w fun t36 w =>
  pk t31 (Value.bool true) t36 w fun t37 w =>
  gd t37 false (fun k => fld 1 t5 w k) w fun t39 w =>
  gd t37 false (fun k => ld1 t39 w k) w fun t40 w =>
  gd t37 false (fun k => Cl prog 170 #[t40, (Value.int IntKind.i64 16)] w k) w fun t41 w =>
  gd t37 false (fun k => bnot t41 w k) w fun t42 w =>
  pk t37 (Value.bool true) t42 w fun t43 w =>
  gd t43 false (fun k => fld 3 t5 w k) w fun t45 w =>
  gd t43 false (fun k => ld1 t45 w k) w fun t46 w =>
  gd t43 false (fun k => lnS t46 w k) w fun t47 w =>
  gd t43 false (fun k => bi .gtr .i64 t47 (Value.int IntKind.i64 3) w k) w fun t48 w =>
  pk t43 (Value.bool true) t48 w fun t49 w =>
  gd t49 false (fun k => fld 3 t5 w k) w fun t51 w =>
  gd t49 false (fun k => ld1 t51 w k) w fun t52 w =>
  gd t49 false (fun k => k (Value.func (.func 169) #[] #[]) w) w fun t53 w =>
  gd t49 false (fun k => Cl prog 142 #[t52, t53] w k) w fun t54 w =>
  pk t49 (Value.bool true) t54 w fun t55 w =>
  iff' t55
  (K (Value.int IntKind.i64 70) w)
  (ldN 2 t6 w fun t57 w =>
  upM prog 231 t11 t57 (Value.bool true) w fun _ w =>
  bi .add .i64 t14 (Value.int IntKind.i64 1) w fun t58 w =>
  g1 [t58] w))
  (K (Value.int IntKind.i64 0) w)))
theorem table_Check_calls {t0 : Value} {w : World} {K : KV} (h : table_Check t0 w K) : Cl prog 141 #[t0] w K :=
  Cl.mk (by kernel_rfl) (calls_of_F (fn := fn141) (nt := 59) (rs := [2]) mixed fnAt141 (by kernel_rfl) (by kernel_rfl) (by kernel_rfl) (Nat.le_of_ble_eq_true (by kernel_rfl)) (by kernel_rfl) (by kernel_rfl) h)

def slices_ContainsFunc_api_Out_api_Out (t0 t1 : Value) (w : World) (K : KV) : Prop :=
  Cl prog 171 #[t0, t1] w fun t7 w =>
  bi .geq .i64 t7 (Value.int IntKind.i64 0) w fun t8 w =>
  K t8 w
theorem slices_ContainsFunc_api_Out_api_Out_calls {t0 t1 : Value} {w : World} {K : KV} (h : slices_ContainsFunc_api_Out_api_Out t0 t1 w K) : Cl prog 142 #[t0, t1] w K :=
  Cl.mk (by kernel_rfl) (calls_of_F (fn := fn142) (nt := 9) (rs := [4]) mixed fnAt142 (by kernel_rfl) (by kernel_rfl) (by kernel_rfl) (Nat.le_of_ble_eq_true (by kernel_rfl)) (by kernel_rfl) (by kernel_rfl) h)

def past_Past_Keys (t0 : Value) (w : World) (K : KV) : Prop :=
  ncP t0 <|
  fld 1 t0 w fun t8 w =>
  ld1 t8 w fun t9 w =>
  lnS t9 w fun t10 w =>
  lp [(Value.slice none 0 0), (Value.int IntKind.i64 0)] w (b2 fun t3 t11 w g1 =>
  bi .lss .i64 t11 t10 w fun t12 w =>
  iff' t12
  (ixS 10 t9 t11 w fun t13 w =>
  ldN 10 t13 w fun t14 w =>
  al (zeroD prog 113) 113 w fun t5 w =>
  stN 10 t5 t14 w fun _ w =>
  fld 0 t5 w fun t16 w =>
  fld 0 t16 w fun t17 w =>
  ldN 3 t17 w fun t18 w =>
  bsl 35 3 1 (zeroD prog 35) [(0, t18)] w fun t19 w =>
  apS prog #[202, 202] 202 t3 t19 w fun t20 w =>
  bi .add .i64 t11 (Value.int IntKind.i64 1) w fun t21 w =>
  g1 [t20, t21] w)
  (K t3 w))
theorem past_Past_Keys_calls {t0 : Value} {w : World} {K : KV} (h : past_Past_Keys t0 w K) : Cl prog 143 #[t0] w K :=
  Cl.mk (by kernel_rfl) (calls_of_F (fn := fn143) (nt := 23) (rs := [2]) mixed fnAt143 (by kernel_rfl) (by kernel_rfl) (by kernel_rfl) (Nat.le_of_ble_eq_true (by kernel_rfl)) (by kernel_rfl) (by kernel_rfl) h)

def slices_ContainsFunc_api_Msg_api_Msg (t0 t1 : Value) (w : World) (K : KV) : Prop :=
  Cl prog 172 #[t0, t1] w fun t7 w =>
  bi .geq .i64 t7 (Value.int IntKind.i64 0) w fun t8 w =>
  K t8 w
theorem slices_ContainsFunc_api_Msg_api_Msg_calls {t0 t1 : Value} {w : World} {K : KV} (h : slices_ContainsFunc_api_Msg_api_Msg t0 t1 w K) : Cl prog 144 #[t0, t1] w K :=
  Cl.mk (by kernel_rfl) (calls_of_F (fn := fn144) (nt := 9) (rs := [4]) mixed fnAt144 (by kernel_rfl) (by kernel_rfl) (by kernel_rfl) (Nat.le_of_ble_eq_true (by kernel_rfl)) (by kernel_rfl) (by kernel_rfl) h)

def warp_Node_fit_1 (t0 t1 : Value) (w : World) (K : KV) : Prop :=
  al (Value.cells t0) 37 w fun t2 w =>
  fld 0 t2 w fun t4 w =>
  ldN 3 t4 w fun t5 w =>
  ldN 3 t1 w fun t6 w =>
  bO prog .eql 35 (Operand.tmp 5) (Operand.tmp 6) t5 t6 w fun t7 w =>
  K t7 w
theorem warp_Node_fit_1_calls {t0 t1 : Value} {w : World} {K : KV} (h : warp_Node_fit_1 t0 t1 w K) : Cl prog 145 #[t0, t1] w K :=
  Cl.mk (by kernel_rfl) (calls_of_F (fn := fn145) (nt := 8) (rs := [3]) mixed fnAt145 (by kernel_rfl) (by kernel_rfl) (by kernel_rfl) (Nat.le_of_ble_eq_true (by kernel_rfl)) (by kernel_rfl) (by kernel_rfl) h)

def past_Past_Back (t0 t1 : Value) (w : World) (K : KV) : Prop :=
  al (Value.cells t1) 35 w fun t3 w =>
  ldN 3 t3 w fun t8 w =>
  Cl prog 118 #[t0, (Value.func (.func 112) #[] #[]), t8] w fun t9 w =>
  ncP t0 <|
  fld 1 t0 w fun t12 w =>
  ld1 t12 w fun t13 w =>
  slc 10 t13 (some t9) none w fun t15 w =>
  Cl prog 120 #[t15] w fun t16 w =>
  Cl prog 173 #[t16] w fun _ w =>
  ncP t0 <|
  fld 1 t0 w fun t22 w =>
  ld1 t22 w fun t23 w =>
  slc 10 t23 none (some t9) w fun t25 w =>
  ncP t0 <|
  fld 1 t0 w fun t27 w =>
  stN 1 t27 t25 w fun _ w =>
  K t16 w
theorem past_Past_Back_calls {t0 t1 : Value} {w : World} {K : KV} (h : past_Past_Back t0 t1 w K) : Cl prog 146 #[t0, t1] w K :=
  Cl.mk (by kernel_rfl) (calls_of_F (fn := fn146) (nt := 29) (rs := [4]) mixed fnAt146 (by kernel_rfl) (by kernel_rfl) (by kernel_rfl) (Nat.le_of_ble_eq_true (by kernel_rfl)) (by kernel_rfl) (by kernel_rfl) h)

def gate_Gate_Drop (t0 t1 : Value) (w : World) (K : KV) : Prop :=
  al (Value.cells t1) 35 w fun t3 w =>
  Cl prog 121 #[t0, (Value.func (Fn.func 174) #[] #[t3])] w fun t7 w =>
  Cl prog 106 #[t7] w fun t8 w =>
  K t8 w
theorem gate_Gate_Drop_calls {t0 t1 : Value} {w : World} {K : KV} (h : gate_Gate_Drop t0 t1 w K) : Cl prog 147 #[t0, t1] w K :=
  Cl.mk (by kernel_rfl) (calls_of_F (fn := fn147) (nt := 9) (rs := [4]) mixed fnAt147 (by kernel_rfl) (by kernel_rfl) (by kernel_rfl) (Nat.le_of_ble_eq_true (by kernel_rfl)) (by kernel_rfl) (by kernel_rfl) h)

def heap_Push (t0 t1 : Value) (w : World) (K : KV) : Prop :=
  clI prog t0 "Push" #[t1] w fun _ w =>
  clI prog t0 "Len" #[] w fun t9 w =>
  bi .sub .i64 t9 (Value.int IntKind.i64 1) w fun t10 w =>
  Cl prog 175 #[t0, t10] w fun _ w =>
  K (Value.tuple #[]) w
theorem heap_Push_calls {t0 t1 : Value} {w : World} {K : KV} (h : heap_Push t0 t1 w K) : Cl prog 148 #[t0, t1] w K :=
  Cl.mk (by kernel_rfl) (calls_of_F (fn := fn148) (nt := 12) (rs := []) mixed fnAt148 (by kernel_rfl) (by kernel_rfl) (by kernel_rfl) (Nat.le_of_ble_eq_true (by kernel_rfl)) (by kernel_rfl) (by kernel_rfl) h)

def heap_Remove (t0 t1 : Value) (w : World) (K : KV) : Prop :=
  clI prog t0 "Len" #[] w fun t7 w =>
  bi .sub .i64 t7 (Value.int IntKind.i64 1) w fun t8 w =>
  bi .neq .i64 t8 t1 w fun t11 w =>
  J0 (fun w =>
  clI prog t0 "Pop" #[] w fun t25 w =>
  K t25 w) fun k1 =>
  iff' t11
  (clI prog t0 "Swap" #[t1, t8] w fun _ w =>
  Cl prog 152 #[t0, t1, t8] w fun t19 w =>
  bnot t19 w fun t20 w =>
  iff' t20
  (Cl prog 175 #[t0, t1] w fun _ w =>
  k1 w)
  (k1 w))
  (k1 w)
theorem heap_Remove_calls {t0 t1 : Value} {w : World} {K : KV} (h : heap_Remove t0 t1 w K) : Cl prog 149 #[t0, t1] w K :=
  Cl.mk (by kernel_rfl) (calls_of_F (fn := fn149) (nt := 26) (rs := [4]) mixed fnAt149 (by kernel_rfl) (by kernel_rfl) (by kernel_rfl) (Nat.le_of_ble_eq_true (by kernel_rfl)) (by kernel_rfl) (by kernel_rfl) h)

def errors_is (t0 t1 t2 : Value) (w : World) (K : KV) : Prop :=
  lp [t0] w (b1 fun t0_1 w g1 =>
  gd t2 true (fun k => k t0_1 w) w fun t16 w =>
  gd t2 true (fun k => k t1 w) w fun t17 w =>
  gd t2 true (fun k => bO prog .eql 103 (Operand.tmp 16) (Operand.tmp 17) t16 t17 w k) w fun t18 w =>
  pk t2 t18 (Value.bool false) w fun t19 w =>
  iff' t19
  (K (Value.bool true) w)
  (tyA prog t0_1 103 243 true w fun t22 w =>
  xt 0 t22 w fun t23 w =>
  xt 1 t22 w fun t24 w =>
  gd t24 true (fun k => k t23 w) w fun t27 w =>
  gd t24 true (fun k => k t1 w) w fun t28 w =>
  gd t24 true (fun k => clI prog t27 "Is" #[t28] w k) w fun t29 w =>
  pk t24 t29 (Value.bool false) w fun t30 w =>
  iff' t30
  (K (Value.bool true) w)
  (tyA prog t0_1 103 246 true w fun t32 w =>
  xt 1 t32 w fun t33 w =>
  xt 0 t32 w fun t34 w =>
  iff' t33
  (clI prog t34 "Unwrap" #[] w fun t36 w =>
  bO prog .eql 103 (Operand.tmp 37) (Operand.const Value.nilIface) t36 Value.nilIface w fun t38 w =>
  iff' t38
  (K (Value.bool false) w)
  (g1 [t36] w))
  (tyA prog t0_1 103 248 true w fun t39 w =>
  xt 1 t39 w fun t40 w =>
  xt 0 t39 w fun t41 w =>
  iff' t40
  (clI prog t41 "Unwrap" #[] w fun t43 w =>
  lnS t43 w fun t44 w =>
  lp [(Value.int IntKind.i64 0)] w (b1 fun t45 w g2 =>
  bi .lss .i64 t45 t44 w fun t46 w =>
  iff' t46
  (ixS 1 t43 t45 w fun t47 w =>
  ld1 t47 w fun t48 w =>
  Cl prog 151 #[t48, t1, t2] w fun t52 w =>
  iff' t52
  (K (Value.bool true) w)
  (bi .add .i64 t45 (Value.int IntKind.i64 1) w fun t53 w =>
  g2 [t53] w))
  (K (Value.bool false) w)))
  (K (Value.bool false) w)))))
theorem errors_is_calls {t0 t1 t2 : Value} {w : World} {K : KV} (h : errors_is t0 t1 t2 w K) : Cl prog 151 #[t0, t1, t2] w K :=
  Cl.mk (by kernel_rfl) (calls_of_F (fn := fn151) (nt := 54) (rs := [6]) mixed fnAt151 (by kernel_rfl) (by kernel_rfl) (by kernel_rfl) (Nat.le_of_ble_eq_true (by kernel_rfl)) (by kernel_rfl) (by kernel_rfl) h)

def heap_down (t0 t1 t2 : Value) (w : World) (K : KV) : Prop :=
  J1 (fun t7 w =>
  bi .gtr .i64 t7 t1 w fun t47 w =>
  K t47 w) fun k1 =>
  lp [t1] w (b1 fun t7_1 w g2 =>
  bi .mul .i64 (Value.int IntKind.i64 2) t7_1 w fun t13 w =>
  bi .add .i64 t13 (Value.int IntKind.i64 1) w fun t14 w =>
  bi .geq .i64 t14 t2 w fun t17 w =>
  gd t17 false (fun k => k t14 w) w fun t19 w =>
  gd t17 false (fun k => bi .lss .i64 t19 (Value.int IntKind.i64 0) w k) w fun t20 w =>
  pk t17 (Value.bool true) t20 w fun t21 w =>
  iff' t21
  (k1 t7_1 w)
  (bi .add .i64 t14 (Value.int IntKind.i64 1) w fun t24 w =>
  bi .lss .i64 t24 t2 w fun t27 w =>
  gd t27 true (fun k => k t0 w) w fun t29 w =>
  gd t27 true (fun k => k t24 w) w fun t30 w =>
  gd t27 true (fun k => k t14 w) w fun t31 w =>
  gd t27 true (fun k => clI prog t29 "Less" #[t30, t31] w k) w fun t32 w =>
  pk t27 t32 (Value.bool false) w fun t33 w =>
  J1 (fun t9 w =>
  clI prog t0 "Less" #[t9, t7_1] w fun t38 w =>
  bnot t38 w fun t39 w =>
  iff' t39
  (k1 t7_1 w)
  (clI prog t0 "Swap" #[t7_1, t9] w fun _ w =>
  g2 [t9] w)) fun k3 =>
  iff' t33
  (k3 t24 w)
  (k3 t14 w)))
theorem heap_down_calls {t0 t1 t2 : Value} {w : World} {K : KV} (h : heap_down t0 t1 t2 w K) : Cl prog 152 #[t0, t1, t2] w K :=
  Cl.mk (by kernel_rfl) (calls_of_F (fn := fn152) (nt := 48) (rs := [6]) mixed fnAt152 (by kernel_rfl) (by kernel_rfl) (by kernel_rfl) (Nat.le_of_ble_eq_true (by kernel_rfl)) (by kernel_rfl) (by kernel_rfl) h)

def slices_IndexFunc_api_Rule_api_Rule (t0 t1 : Value) (w : World) (K : KV) : Prop :=
  lnS t0 w fun t7 w =>
  lp [(Value.int IntKind.i64 0)] w (b1 fun t8 w g1 =>
  bi .lss .i64 t8 t7 w fun t9 w =>
  iff' t9
  (ixS 4 t0 t8 w fun t14 w =>
  ldN 4 t14 w fun t15 w =>
  clV prog t1 #[t15] w fun t16 w =>
  iff' t16
  (K t8 w)
  (bi .add .i64 t8 (Value.int IntKind.i64 1) w fun t18 w =>
  g1 [t18] w))
  (K (Value.int IntKind.i64 (-1)) w))
theorem slices_IndexFunc_api_Rule_api_Rule_calls {t0 t1 : Value} {w : World} {K : KV} (h : slices_IndexFunc_api_Rule_api_Rule t0 t1 w K) : Cl prog 153 #[t0, t1] w K :=
  Cl.mk (by kernel_rfl) (calls_of_F (fn := fn153) (nt := 19) (rs := [4]) mixed fnAt153 (by kernel_rfl) (by kernel_rfl) (by kernel_rfl) (Nat.le_of_ble_eq_true (by kernel_rfl)) (by kernel_rfl) (by kernel_rfl) h)

def table_Find_1 (t0 t1 t2 : Value) (w : World) (K : KV) : Prop :=
  al (Value.cells t0) 89 w fun t3 w =>
  fld 0 t3 w fun t5 w =>
  ld1 t5 w fun t6 w =>
  ld1 t1 w fun t7 w =>
  bi .eql .i64 t6 t7 w fun t8 w =>
  gd t8 true (fun k => fld 1 t3 w k) w fun t10 w =>
  gd t8 true (fun k => ld1 t10 w k) w fun t11 w =>
  gd t8 true (fun k => ld1 t2 w k) w fun t12 w =>
  gd t8 true (fun k => bi .eql .i64 t11 t12 w k) w fun t13 w =>
  pk t8 t13 (Value.bool false) w fun t14 w =>
  K t14 w
theorem table_Find_1_calls {t0 t1 t2 : Value} {w : World} {K : KV} (h : table_Find_1 t0 t1 t2 w K) : Cl prog 154 #[t0, t1, t2] w K :=
  Cl.mk (by kernel_rfl) (calls_of_F (fn := fn154) (nt := 15) (rs := [4]) mixed fnAt154 (by kernel_rfl) (by kernel_rfl) (by kernel_rfl) (Nat.le_of_ble_eq_true (by kernel_rfl)) (by kernel_rfl) (by kernel_rfl) h)

end Go.Proofs.YtbopajpmadlmhaaGreat
end
section
namespace Go.Proofs.YtbopajpmadlmhaaGreat
open Go Go.E
set_option linter.unusedVariables false
set_option maxRecDepth 100000
def table_modulo (t0 : Value) (w : World) (K : KV) : Prop :=
  bi .rem .i64 t0 (Value.int IntKind.i64 1000) w fun t4 w =>
  bi .lss .i64 t4 (Value.int IntKind.i64 0) w fun t6 w =>
  J1 (fun t0_1 w =>
  K t0_1 w) fun k1 =>
  iff' t6
  (bi .add .i64 t4 (Value.int IntKind.i64 1000) w fun t8 w =>
  k1 t8 w)
  (k1 t4 w)
theorem table_modulo_calls {t0 : Value} {w : World} {K : KV} (h : table_modulo t0 w K) : Cl prog 155 #[t0] w K :=
  Cl.mk (by kernel_rfl) (calls_of_F (fn := fn155) (nt := 10) (rs := [2]) mixed fnAt155 (by kernel_rfl) (by kernel_rfl) (by kernel_rfl) (Nat.le_of_ble_eq_true (by kernel_rfl)) (by kernel_rfl) (by kernel_rfl) h)

def slices_ContainsFunc_int_int (t0 t1 : Value) (w : World) (K : KV) : Prop :=
  Cl prog 176 #[t0, t1] w fun t7 w =>
  bi .geq .i64 t7 (Value.int IntKind.i64 0) w fun t8 w =>
  K t8 w
theorem slices_ContainsFunc_int_int_calls {t0 t1 : Value} {w : World} {K : KV} (h : slices_ContainsFunc_int_int t0 t1 w K) : Cl prog 156 #[t0, t1] w K :=
  Cl.mk (by kernel_rfl) (calls_of_F (fn := fn156) (nt := 9) (rs := [4]) mixed fnAt156 (by kernel_rfl) (by kernel_rfl) (by kernel_rfl) (Nat.le_of_ble_eq_true (by kernel_rfl)) (by kernel_rfl) (by kernel_rfl) h)

def config_Routes_1 (t0 t1 t2 : Value) (w : World) (K : KV) : Prop :=
  fld 0 t1 w fun t5 w =>
  ld1 t5 w fun t6 w =>
  ld1 t2 w fun t7 w =>
  Cl prog 158 #[t6, t7, t0] w fun t9 w =>
  K t9 w
theorem config_Routes_1_calls {t0 t1 t2 : Value} {w : World} {K : KV} (h : config_Routes_1 t0 t1 t2 w K) : Cl prog 157 #[t0, t1, t2] w K :=
  Cl.mk (by kernel_rfl) (calls_of_F (fn := fn157) (nt := 10) (rs := [4]) mixed fnAt157 (by kernel_rfl) (by kernel_rfl) (by kernel_rfl) (Nat.le_of_ble_eq_true (by kernel_rfl)) (by kernel_rfl) (by kernel_rfl) h)

def tree_IsA (t0 t1 t2 : Value) (w : World) (K : KV) : Prop :=
  al (Value.cells t2) 3 w fun t5 w =>
  al (zeroD prog 4) 4 w fun t6 w =>
  Cl prog 177 #[t0, t1] w fun t10 w =>
  rfWC prog t10 1 (fun l a w k =>
  bgn l w fun w =>
  ld1 t5 w fun t13 w =>
  bi .eql .i64 (a 0) t13 w fun t14 w =>
  iff' t14
  (stN 1 t6 (Value.bool true) w fun _ w =>
  edr l w fun w => k (.bool false) w)
  (edn l w fun w => k (.bool true) w)) w
  (fun D w =>
  stN 1 t6 (Value.bool false) w fun _ w =>
  rdef D w fun w =>
  ld1 t6 w fun r0 _ =>
  K r0 w)
  (fun D w =>
  rdef D w fun w =>
  ld1 t6 w fun r0 _ =>
  K r0 w)
theorem tree_IsA_calls {t0 t1 t2 : Value} {w : World} {K : KV} (h : tree_IsA t0 t1 t2 w K) : Cl prog 158 #[t0, t1, t2] w K :=
  Cl.mk (by kernel_rfl) (calls_of_fnRFCb (fn := fn158) (nt := 15) (rs := [(6, some 4)]) mixed fnAt158 (by kernel_rfl) (by kernel_rfl) (Nat.le_of_ble_eq_true (by kernel_rfl)) (by kernel_rfl) (by kernel_rfl) h)

def cmp_Or_int (t0 : Value) (w : World) (K : KV) : Prop :=
  lnS t0 w fun t7 w =>
  lp [(Value.int IntKind.i64 0)] w (b1 fun t8 w g1 =>
  bi .lss .i64 t8 t7 w fun t9 w =>
  iff' t9
  (ixS 1 t0 t8 w fun t10 w =>
  ld1 t10 w fun t11 w =>
  bi .neq .i64 t11 (Value.int IntKind.i64 0) w fun t14 w =>
  iff' t14
  (K t11 w)
  (bi .add .i64 t8 (Value.int IntKind.i64 1) w fun t16 w =>
  g1 [t16] w))
  (K (Value.int IntKind.i64 0) w))
theorem cmp_Or_int_calls {t0 : Value} {w : World} {K : KV} (h : cmp_Or_int t0 w K) : Cl prog 161 #[t0] w K :=
  Cl.mk (by kernel_rfl) (calls_of_F (fn := fn161) (nt := 18) (rs := [2]) mixed fnAt161 (by kernel_rfl) (by kernel_rfl) (by kernel_rfl) (Nat.le_of_ble_eq_true (by kernel_rfl)) (by kernel_rfl) (by kernel_rfl) h)

def cmp_Compare_int (t0 t1 : Value) (w : World) (K : KV) : Prop :=
  Cl prog 188 #[t0] w fun t8 w =>
  Cl prog 188 #[t1] w fun t10 w =>
  iff' t8
  (iff' t10
  (K (Value.int IntKind.i64 0) w)
  (K (Value.int IntKind.i64 (-1)) w))
  (iff' t10
  (K (Value.int IntKind.i64 1) w)
  (bi .lss .i64 t0 t1 w fun t16 w =>
  iff' t16
  (K (Value.int IntKind.i64 (-1)) w)
  (bi .gtr .i64 t0 t1 w fun t19 w =>
  iff' t19
  (K (Value.int IntKind.i64 1) w)
  (K (Value.int IntKind.i64 0) w))))
theorem cmp_Compare_int_calls {t0 t1 : Value} {w : World} {K : KV} (h : cmp_Compare_int t0 t1 w K) : Cl prog 162 #[t0, t1] w K :=
  Cl.mk (by kernel_rfl) (calls_of_F (fn := fn162) (nt := 20) (rs := [4]) mixed fnAt162 (by kernel_rfl) (by kernel_rfl) (by kernel_rfl) (Nat.le_of_ble_eq_true (by kernel_rfl)) (by kernel_rfl) (by kernel_rfl) h)

def sort_Search (t0 t1 : Value) (w : World) (K : KV) : Prop :=
  lp [(Value.int IntKind.i64 0), t0] w (b2 fun t5 t6 w g1 =>
  bi .lss .i64 t5 t6 w fun t11 w =>
  iff' t11
  (bi .add .i64 t5 t6 w fun t14 w =>
  cvI .u64 t14 w fun t15 w =>
  bO prog .shr 161 (Operand.tmp 15) (Operand.const (Value.int IntKind.u64 1)) t15 (Value.int IntKind.u64 1) w fun t16 w =>
  cvI .i64 t16 w fun t17 w =>
  clV prog t1 #[t17] w fun t20 w =>
  bnot t20 w fun t21 w =>
  iff' t21
  (bi .add .i64 t17 (Value.int IntKind.i64 1) w fun t23 w =>
  g1 [t23, t6] w)
  (g1 [t5, t17] w))
  (K t5 w))
theorem sort_Search_calls {t0 t1 : Value} {w : World} {K : KV} (h : sort_Search t0 t1 w K) : Cl prog 163 #[t0, t1] w K :=
  Cl.mk (by kernel_rfl) (calls_of_F (fn := fn163) (nt := 26) (rs := [4]) mixed fnAt163 (by kernel_rfl) (by kernel_rfl) (by kernel_rfl) (Nat.le_of_ble_eq_true (by kernel_rfl)) (by kernel_rfl) (by kernel_rfl) h)

def past_Past_many_1 (t0 t1 t2 t3 : Value) (w : World) (K : KV) : Prop :=
  dr w fun w =>
  ld1 t1 w fun t6 _ =>
  ld1 t2 w fun t7 _ =>
  ncP t7 <|
  fld 1 t7 w fun t9 _ =>
  ld1 t9 w fun t10 _ =>
  ixS 10 t10 t0 w fun t12 _ =>
  ldN 10 t12 w fun t13 _ =>
  ldN 3 t3 w fun t14 _ =>
  clV prog t6 #[t13, t14] w fun t15 w =>
  bnot t15 w fun t16 _ =>
  K t16 w
theorem past_Past_many_1_calls {t0 t1 t2 t3 : Value} {w : World} {K : KV} (h : past_Past_many_1 t0 t1 t2 t3 w K) : Cl prog 164 #[t0, t1, t2, t3] w K :=
  Cl.mk (by kernel_rfl) (calls_of_F (fn := fn164) (nt := 17) (rs := [5]) mixed fnAt164 (by kernel_rfl) (by kernel_rfl) (by kernel_rfl) (Nat.le_of_ble_eq_true (by kernel_rfl)) (by kernel_rfl) (by kernel_rfl) h)

def slices_stableCmpFunc_gate_kept (t0 t1 t2 : Value) (w : World) (K : KV) : Prop :=
  lp [(Value.int IntKind.i64 0), (Value.int IntKind.i64 20)] w (b2 fun t7 t8 w g1 =>
  bi .leq .i64 t8 t1 w fun t13 w =>
  iff' t13
  (Cl prog 189 #[t0, t7, t8, t2] w fun _ w =>
  bi .add .i64 t8 (Value.int IntKind.i64 20) w fun t22 w =>
  g1 [t8, t22] w)
  (Cl prog 189 #[t0, t7, t1, t2] w fun _ w =>
  lp [(Value.int IntKind.i64 20)] w (b1 fun t6 w g2 =>
  bi .lss .i64 t6 t1 w fun t30 w =>
  iff' t30
  (bi .mul .i64 (Value.int IntKind.i64 2) t6 w fun t32 w =>
  lp [(Value.int IntKind.i64 0), t32] w (b2 fun t7_1 t8_1 w g3 =>
  bi .leq .i64 t8_1 t1 w fun t35 w =>
  iff' t35
  (bi .add .i64 t7_1 t6 w fun t40 w =>
  Cl prog 190 #[t0, t7_1, t40, t8_1, t2] w fun _ w =>
  bi .mul .i64 (Value.int IntKind.i64 2) t6 w fun t47 w =>
  bi .add .i64 t8_1 t47 w fun t48 w =>
  g3 [t8_1, t48] w)
  (bi .add .i64 t7_1 t6 w fun t51 w =>
  bi .lss .i64 t51 t1 w fun t54 w =>
  J0 (fun w =>
  bi .mul .i64 t6 (Value.int IntKind.i64 2) w fun t62 w =>
  g2 [t62] w) fun k4 =>
  iff' t54
  (Cl prog 190 #[t0, t7_1, t51, t1, t2] w fun _ w =>
  k4 w)
  (k4 w))))
  (K (Value.tuple #[]) w))))
theorem slices_stableCmpFunc_gate_kept_calls {t0 t1 t2 : Value} {w : World} {K : KV} (h : slices_stableCmpFunc_gate_kept t0 t1 t2 w K) : Cl prog 165 #[t0, t1, t2] w K :=
  Cl.mk (by kernel_rfl) (calls_of_F (fn := fn165) (nt := 63) (rs := []) mixed fnAt165 (by kernel_rfl) (by kernel_rfl) (by kernel_rfl) (Nat.le_of_ble_eq_true (by kernel_rfl)) (by kernel_rfl) (by kernel_rfl) h)

def pacelineref07_Check (t0 : Value) (w : World) (K : KV) : Prop :=
  lnS t0 w fun t5 w =>
  bi .gtr .i64 t5 (Value.int IntKind.i64 32) w fun t6 w =>
  iff' t6
  (K (Value.int IntKind.i64 70) w)
  (lp [(Value.int IntKind.i64 0)] w (b1 fun t3 w g1 =>
  lnS t0 w fun t9 w =>
  bi .lss .i64 t3 t9 w fun t10 w =>
  iff' t10
  (dr w fun w =>
  ixS 4 t0 t3 w fun t15 _ =>
  ldN 4 t15 w fun t16 _ =>
  Cl prog 191 #[t16] w fun t17 w =>
  bnot t17 w fun t18 _ =>
  gd t18 false (fun k => k t0 w) w fun t20 _ =>
  gd t18 false (fun k => k t0 w) w fun t21 _ =>
  gd t18 false (fun k => k t3 w) w fun t22 _ =>
  gd t18 false (fun k => ixS 4 t21 t22 w k) w fun t23 _ =>
  gd t18 false (fun k => fld 0 t23 w k) w fun t24 _ =>
  gd t18 false (fun k => ld1 t24 w k) w fun t25 _ =>
  gd t18 false (fun k => k t0 w) w fun t26 _ =>
  gd t18 false (fun k => k t3 w) w fun t27 _ =>
  gd t18 false (fun k => ixS 4 t26 t27 w k) w fun t28 _ =>
  gd t18 false (fun k => fld 1 t28 w k) w fun t29 _ =>
  gd t18 false (fun k => ld1 t29 w k) w fun t30 _ =>
  gd t18 false (fun k => k t3 w) w fun t32 _ =>
  gd t18 false (fun k => Cl prog 65 #[t20, t25, t30] w k) w fun t31 w =>
  gd t18 false (fun k => bi .neq .i64 t31 t32 w k) w fun t33 _ =>
  pk t18 (Value.bool true) t33 w fun t34 _ =>
  iff' t34
  (K (Value.int IntKind.i64 70) w)
  (bi .add .i64 t3 (Value.int IntKind.i64 1) w fun t12 w =>
  g1 [t12] w))
  (K (Value.int IntKind.i64 0) w)))
theorem pacelineref07_Check_calls {t0 : Value} {w : World} {K : KV} (h : pacelineref07_Check t0 w K) : Cl prog 166 #[t0] w K :=
  Cl.mk (by kernel_rfl) (calls_of_F (fn := fn166) (nt := 35) (rs := [2]) mixed fnAt166 (by kernel_rfl) (by kernel_rfl) (by kernel_rfl) (Nat.le_of_ble_eq_true (by kernel_rfl)) (by kernel_rfl) (by kernel_rfl) h)

def pacelineref08_classes (t0 t1 : Value) (w : World) (K : KV) : Prop :=
  lp [(Value.int IntKind.i64 0)] w (b1 fun t5 w g1 =>
  lnS t0 w fun t8 w =>
  bi .lss .i64 t5 t8 w fun t9 w =>
  iff' t9
  (dr w fun w =>
  ixS 1 t0 t5 w fun t14 _ =>
  ld1 t14 w fun t15 _ =>
  bi .lss .i64 t15 (Value.int IntKind.i64 0) w fun t16 _ =>
  gd t16 false (fun k => k t0 w) w fun t18 _ =>
  gd t16 false (fun k => k t5 w) w fun t19 _ =>
  gd t16 false (fun k => ixS 1 t18 t19 w k) w fun t20 _ =>
  gd t16 false (fun k => ld1 t20 w k) w fun t21 _ =>
  gd t16 false (fun k => k t1 w) w fun t22 _ =>
  gd t16 false (fun k => bi .geq .i64 t21 t22 w k) w fun t23 _ =>
  pk t16 (Value.bool true) t23 w fun t24 _ =>
  gd t24 false (fun k => k t5 w) w fun t26 _ =>
  gd t24 false (fun k => bi .gtr .i64 t26 (Value.int IntKind.i64 0) w k) w fun t27 _ =>
  gd t24 false (fun k => k t27 w) w fun t28 _ =>
  gd t28 true (fun k => k t0 w) w fun t29 _ =>
  gd t28 true (fun k => k t5 w) w fun t30 _ =>
  gd t28 true (fun k => ixS 1 t29 t30 w k) w fun t31 _ =>
  gd t28 true (fun k => ld1 t31 w k) w fun t32 _ =>
  gd t28 true (fun k => k t0 w) w fun t33 _ =>
  gd t28 true (fun k => k t5 w) w fun t34 _ =>
  gd t28 true (fun k => bi .sub .i64 t34 (Value.int IntKind.i64 1) w k) w fun t35 _ =>
  gd t28 true (fun k => ixS 1 t33 t35 w k) w fun t36 _ =>
  gd t28 true (fun k => ld1 t36 w k) w fun t37 _ =>
  gd t28 true (fun k => bi .leq .i64 t32 t37 w k) w fun t38 _ =>
  gd t24 false (fun k => pk t28 t38 (Value.bool false) w k) w fun t39 _ =>
  pk t24 (Value.bool true) t39 w fun t40 _ =>
  iff' t40
  (K (Value.bool false) w)
  (bi .add .i64 t5 (Value.int IntKind.i64 1) w fun t11 w =>
  g1 [t11] w))
  (K (Value.bool true) w))
theorem pacelineref08_classes_calls {t0 t1 : Value} {w : World} {K : KV} (h : pacelineref08_classes t0 t1 w K) : Cl prog 167 #[t0, t1] w K :=
  Cl.mk (by kernel_rfl) (calls_of_F (fn := fn167) (nt := 41) (rs := [4]) mixed fnAt167 (by kernel_rfl) (by kernel_rfl) (by kernel_rfl) (Nat.le_of_ble_eq_true (by kernel_rfl)) (by kernel_rfl) (by kernel_rfl) h)

def slices_Index_int_int (t0 t1 : Value) (w : World) (K : KV) : Prop :=
  lnS t0 w fun t7 w =>
  lp [(Value.int IntKind.i64 0)] w (b1 fun t8 w g1 =>
  bi .lss .i64 t8 t7 w fun t9 w =>
  iff' t9
  (ixS 1 t0 t8 w fun t14 w =>
  ld1 t14 w fun t15 w =>
  bi .eql .i64 t1 t15 w fun t16 w =>
  iff' t16
  (K t8 w)
  (bi .add .i64 t8 (Value.int IntKind.i64 1) w fun t18 w =>
  g1 [t18] w))
  (K (Value.int IntKind.i64 (-1)) w))
theorem slices_Index_int_int_calls {t0 t1 : Value} {w : World} {K : KV} (h : slices_Index_int_int t0 t1 w K) : Cl prog 168 #[t0, t1] w K :=
  Cl.mk (by kernel_rfl) (calls_of_F (fn := fn168) (nt := 19) (rs := [4]) mixed fnAt168 (by kernel_rfl) (by kernel_rfl) (by kernel_rfl) (Nat.le_of_ble_eq_true (by kernel_rfl)) (by kernel_rfl) (by kernel_rfl) h)

def table_Check_1 (t0 : Value) (w : World) (K : KV) : Prop :=
  al (Value.cells t0) 87 w fun t1 w =>
  fld 0 t1 w fun t3 w =>
  ld1 t3 w fun t4 w =>
  Cl prog 170 #[t4, (Value.int IntKind.i64 16)] w fun t5 w =>
  bnot t5 w fun t6 w =>
  gd t6 false (fun k => fld 1 t1 w k) w fun t8 w =>
  gd t6 false (fun k => ld1 t8 w k) w fun t9 w =>
  gd t6 false (fun k => Cl prog 170 #[t9, (Value.int IntKind.i64 1048577)] w k) w fun t10 w =>
  gd t6 false (fun k => bnot t10 w k) w fun t11 w =>
  pk t6 (Value.bool true) t11 w fun t12 w =>
  gd t12 false (fun k => fld 2 t1 w k) w fun t14 w =>
  gd t12 false (fun k => ld1 t14 w k) w fun t15 w =>
  gd t12 false (fun k => Cl prog 170 #[t15, (Value.int IntKind.i64 1000)] w k) w fun t16 w =>
  gd t12 false (fun k => bnot t16 w k) w fun t17 w =>
  pk t12 (Value.bool true) t17 w fun t18 w =>
  K t18 w
theorem table_Check_1_calls {t0 : Value} {w : World} {K : KV} (h : table_Check_1 t0 w K) : Cl prog 169 #[t0] w K :=
  Cl.mk (by kernel_rfl) (calls_of_F (fn := fn169) (nt := 19) (rs := [2]) mixed fnAt169 (by kernel_rfl) (by kernel_rfl) (by kernel_rfl) (Nat.le_of_ble_eq_true (by kernel_rfl)) (by kernel_rfl) (by kernel_rfl) h)

def table_below (t0 t1 : Value) (w : World) (K : KV) : Prop :=
  cvI .u64 t0 w fun t6 w =>
  cvI .u64 t1 w fun t8 w =>
  bi .lss .u64 t6 t8 w fun t9 w =>
  K t9 w
theorem table_below_calls {t0 t1 : Value} {w : World} {K : KV} (h : table_below t0 t1 w K) : Cl prog 170 #[t0, t1] w K :=
  Cl.mk (by kernel_rfl) (calls_of_F (fn := fn170) (nt := 10) (rs := [4]) mixed fnAt170 (by kernel_rfl) (by kernel_rfl) (by kernel_rfl) (Nat.le_of_ble_eq_true (by kernel_rfl)) (by kernel_rfl) (by kernel_rfl) h)

def slices_IndexFunc_api_Out_api_Out (t0 t1 : Value) (w : World) (K : KV) : Prop :=
  lnS t0 w fun t7 w =>
  lp [(Value.int IntKind.i64 0)] w (b1 fun t8 w g1 =>
  bi .lss .i64 t8 t7 w fun t9 w =>
  iff' t9
  (ixS 3 t0 t8 w fun t14 w =>
  ldN 3 t14 w fun t15 w =>
  clV prog t1 #[t15] w fun t16 w =>
  iff' t16
  (K t8 w)
  (bi .add .i64 t8 (Value.int IntKind.i64 1) w fun t18 w =>
  g1 [t18] w))
  (K (Value.int IntKind.i64 (-1)) w))
theorem slices_IndexFunc_api_Out_api_Out_calls {t0 t1 : Value} {w : World} {K : KV} (h : slices_IndexFunc_api_Out_api_Out t0 t1 w K) : Cl prog 171 #[t0, t1] w K :=
  Cl.mk (by kernel_rfl) (calls_of_F (fn := fn171) (nt := 19) (rs := [4]) mixed fnAt171 (by kernel_rfl) (by kernel_rfl) (by kernel_rfl) (Nat.le_of_ble_eq_true (by kernel_rfl)) (by kernel_rfl) (by kernel_rfl) h)

def slices_IndexFunc_api_Msg_api_Msg (t0 t1 : Value) (w : World) (K : KV) : Prop :=
  lnS t0 w fun t7 w =>
  lp [(Value.int IntKind.i64 0)] w (b1 fun t8 w g1 =>
  bi .lss .i64 t8 t7 w fun t9 w =>
  iff' t9
  (ixS 6 t0 t8 w fun t14 w =>
  ldN 6 t14 w fun t15 w =>
  clV prog t1 #[t15] w fun t16 w =>
  iff' t16
  (K t8 w)
  (bi .add .i64 t8 (Value.int IntKind.i64 1) w fun t18 w =>
  g1 [t18] w))
  (K (Value.int IntKind.i64 (-1)) w))
theorem slices_IndexFunc_api_Msg_api_Msg_calls {t0 t1 : Value} {w : World} {K : KV} (h : slices_IndexFunc_api_Msg_api_Msg t0 t1 w K) : Cl prog 172 #[t0, t1] w K :=
  Cl.mk (by kernel_rfl) (calls_of_F (fn := fn172) (nt := 19) (rs := [4]) mixed fnAt172 (by kernel_rfl) (by kernel_rfl) (by kernel_rfl) (Nat.le_of_ble_eq_true (by kernel_rfl)) (by kernel_rfl) (by kernel_rfl) h)

def slices_Reverse_past_Entry_past_Entry (t0 : Value) (w : World) (K : KV) : Prop :=
  lnS t0 w fun t5 w =>
  bi .sub .i64 t5 (Value.int IntKind.i64 1) w fun t6 w =>
  lp [(Value.int IntKind.i64 0), t6] w (b2 fun t2 t3 w g1 =>
  bi .lss .i64 t2 t3 w fun t9 w =>
  iff' t9
  (dr w fun w =>
  ixS 10 t0 t3 w fun t20 _ =>
  ldN 10 t20 w fun t21 _ =>
  ixS 10 t0 t2 w fun t24 _ =>
  ldN 10 t24 w fun t25 _ =>
  ixS 10 t0 t2 w fun t26 _ =>
  stN 10 t26 t21 w fun _ w =>
  ixS 10 t0 t3 w fun t27 _ =>
  stN 10 t27 t25 w fun _ w =>
  bi .add .i64 t2 (Value.int IntKind.i64 1) w fun t11 w =>
  bi .sub .i64 t3 (Value.int IntKind.i64 1) w fun t13 w =>
  g1 [t11, t13] w)
  (K (Value.tuple #[]) w))
theorem slices_Reverse_past_Entry_past_Entry_calls {t0 : Value} {w : World} {K : KV} (h : slices_Reverse_past_Entry_past_Entry t0 w K) : Cl prog 173 #[t0] w K :=
  Cl.mk (by kernel_rfl) (calls_of_F (fn := fn173) (nt := 28) (rs := []) mixed fnAt173 (by kernel_rfl) (by kernel_rfl) (by kernel_rfl) (Nat.le_of_ble_eq_true (by kernel_rfl)) (by kernel_rfl) (by kernel_rfl) h)

def gate_Gate_Drop_1 (t0 t1 : Value) (w : World) (K : KV) : Prop :=
  al (Value.cells t0) 177 w fun t2 w =>
  fld 0 t2 w fun t4 w =>
  ldN 3 t4 w fun t5 w =>
  ldN 3 t1 w fun t6 w =>
  Cl prog 117 #[t5, t6] w fun t7 w =>
  bi .geq .i64 t7 (Value.int IntKind.i64 0) w fun t8 w =>
  K t8 w
theorem gate_Gate_Drop_1_calls {t0 t1 : Value} {w : World} {K : KV} (h : gate_Gate_Drop_1 t0 t1 w K) : Cl prog 174 #[t0, t1] w K :=
  Cl.mk (by kernel_rfl) (calls_of_F (fn := fn174) (nt := 9) (rs := [3]) mixed fnAt174 (by kernel_rfl) (by kernel_rfl) (by kernel_rfl) (Nat.le_of_ble_eq_true (by kernel_rfl)) (by kernel_rfl) (by kernel_rfl) h)

def heap_up (t0 t1 : Value) (w : World) (K : KV) : Prop :=
  lp [t1] w (b1 fun t1_1 w g1 =>
  bi .sub .i64 t1_1 (Value.int IntKind.i64 1) w fun t6 w =>
  bi .quo .i64 t6 (Value.int IntKind.i64 2) w fun t7 w =>
  bi .eql .i64 t7 t1_1 w fun t10 w =>
  gd t10 false (fun k => k t0 w) w fun t12 w =>
  gd t10 false (fun k => k t1_1 w) w fun t13 w =>
  gd t10 false (fun k => k t7 w) w fun t14 w =>
  gd t10 false (fun k => clI prog t12 "Less" #[t13, t14] w k) w fun t15 w =>
  gd t10 false (fun k => bnot t15 w k) w fun t16 w =>
  pk t10 (Value.bool true) t16 w fun t17 w =>
  iff' t17
  (K (Value.tuple #[]) w)
  (clI prog t0 "Swap" #[t7, t1_1] w fun _ w =>
  g1 [t7] w))
theorem heap_up_calls {t0 t1 : Value} {w : World} {K : KV} (h : heap_up t0 t1 w K) : Cl prog 175 #[t0, t1] w K :=
  Cl.mk (by kernel_rfl) (calls_of_F (fn := fn175) (nt := 23) (rs := []) mixed fnAt175 (by kernel_rfl) (by kernel_rfl) (by kernel_rfl) (Nat.le_of_ble_eq_true (by kernel_rfl)) (by kernel_rfl) (by kernel_rfl) h)

def slices_IndexFunc_int_int (t0 t1 : Value) (w : World) (K : KV) : Prop :=
  lnS t0 w fun t7 w =>
  lp [(Value.int IntKind.i64 0)] w (b1 fun t8 w g1 =>
  bi .lss .i64 t8 t7 w fun t9 w =>
  iff' t9
  (ixS 1 t0 t8 w fun t14 w =>
  ld1 t14 w fun t15 w =>
  clV prog t1 #[t15] w fun t16 w =>
  iff' t16
  (K t8 w)
  (bi .add .i64 t8 (Value.int IntKind.i64 1) w fun t18 w =>
  g1 [t18] w))
  (K (Value.int IntKind.i64 (-1)) w))
theorem slices_IndexFunc_int_int_calls {t0 t1 : Value} {w : World} {K : KV} (h : slices_IndexFunc_int_int t0 t1 w K) : Cl prog 176 #[t0, t1] w K :=
  Cl.mk (by kernel_rfl) (calls_of_F (fn := fn176) (nt := 19) (rs := [4]) mixed fnAt176 (by kernel_rfl) (by kernel_rfl) (by kernel_rfl) (Nat.le_of_ble_eq_true (by kernel_rfl)) (by kernel_rfl) (by kernel_rfl) h)

def tree_up (t0 t1 : Value) (w : World) (K : KV) : Prop :=
  al (Value.cells t0) 24 w fun t2 w =>
  al (Value.cells t1) 3 w fun t3 w =>
  K (Value.func (Fn.func 192) #[] #[t3, t2]) w
theorem tree_up_calls {t0 t1 : Value} {w : World} {K : KV} (h : tree_up t0 t1 w K) : Cl prog 177 #[t0, t1] w K :=
  Cl.mk (by kernel_rfl) (calls_of_F (fn := fn177) (nt := 6) (rs := [4]) mixed fnAt177 (by kernel_rfl) (by kernel_rfl) (by kernel_rfl) (Nat.le_of_ble_eq_true (by kernel_rfl)) (by kernel_rfl) (by kernel_rfl) h)

def cmp_isNaN_int (t0 : Value) (w : World) (K : KV) : Prop :=
  bi .neq .i64 t0 t0 w fun t5 w =>
  K t5 w
theorem cmp_isNaN_int_calls {t0 : Value} {w : World} {K : KV} (h : cmp_isNaN_int t0 w K) : Cl prog 188 #[t0] w K :=
  Cl.mk (by kernel_rfl) (calls_of_F (fn := fn188) (nt := 6) (rs := [2]) mixed fnAt188 (by kernel_rfl) (by kernel_rfl) (by kernel_rfl) (Nat.le_of_ble_eq_true (by kernel_rfl)) (by kernel_rfl) (by kernel_rfl) h)

def slices_insertionSortCmpFunc_gate_kept (t0 t1 t2 t3 : Value) (w : World) (K : KV) : Prop :=
  bi .add .i64 t1 (Value.int IntKind.i64 1) w fun t11 w =>
  lp [t11] w (b1 fun t8 w g1 =>
  bi .lss .i64 t8 t2 w fun t14 w =>
  iff' t14
  (lp [t8] w (b1 fun t9 w g2 =>
  dr w fun w =>
  bi .gtr .i64 t9 t1 w fun t20 _ =>
  gd t20 true (fun k => k t3 w) w fun t22 _ =>
  gd t20 true (fun k => k t0 w) w fun t23 _ =>
  gd t20 true (fun k => k t9 w) w fun t24 _ =>
  gd t20 true (fun k => ixS 9 t23 t24 w k) w fun t25 _ =>
  gd t20 true (fun k => ldN 9 t25 w k) w fun t26 _ =>
  gd t20 true (fun k => k t0 w) w fun t27 _ =>
  gd t20 true (fun k => k t9 w) w fun t28 _ =>
  gd t20 true (fun k => bi .sub .i64 t28 (Value.int IntKind.i64 1) w k) w fun t29 _ =>
  gd t20 true (fun k => ixS 9 t27 t29 w k) w fun t30 _ =>
  gd t20 true (fun k => ldN 9 t30 w k) w fun t31 _ =>
  gd t20 true (fun k => clV prog t22 #[t26, t31] w k) w fun t32 w =>
  gd t20 true (fun k => bi .lss .i64 t32 (Value.int IntKind.i64 0) w k) w fun t33 _ =>
  pk t20 t33 (Value.bool false) w fun t34 _ =>
  iff' t34
  (dr w fun w =>
  bi .sub .i64 t9 (Value.int IntKind.i64 1) w fun t41 _ =>
  bi .sub .i64 t9 (Value.int IntKind.i64 1) w fun t44 _ =>
  ixS 9 t0 t44 w fun t45 _ =>
  ldN 9 t45 w fun t46 _ =>
  ixS 9 t0 t9 w fun t49 _ =>
  ldN 9 t49 w fun t50 _ =>
  ixS 9 t0 t9 w fun t51 _ =>
  stN 9 t51 t46 w fun _ w =>
  ixS 9 t0 t41 w fun t52 _ =>
  stN 9 t52 t50 w fun _ w =>
  bi .sub .i64 t9 (Value.int IntKind.i64 1) w fun t36 w =>
  g2 [t36] w)
  (bi .add .i64 t8 (Value.int IntKind.i64 1) w fun t16 w =>
  g1 [t16] w)))
  (K (Value.tuple #[]) w))
theorem slices_insertionSortCmpFunc_gate_kept_calls {t0 t1 t2 t3 : Value} {w : World} {K : KV} (h : slices_insertionSortCmpFunc_gate_kept t0 t1 t2 t3 w K) : Cl prog 189 #[t0, t1, t2, t3] w K :=
  Cl.mk (by kernel_rfl) (calls_of_F (fn := fn189) (nt := 53) (rs := []) mixed fnAt189 (by kernel_rfl) (by kernel_rfl) (by kernel_rfl) (Nat.le_of_ble_eq_true (by kernel_rfl)) (by kernel_rfl) (by kernel_rfl) h)

def slices_symMergeCmpFunc_gate_kept (t0 t1 t2 t3 t4 : Value) (w : World) (K : KV) : Prop :=
  bi .sub .i64 t2 t1 w fun t27 w =>
  bi .eql .i64 t27 (Value.int IntKind.i64 1) w fun t28 w =>
  iff' t28
  (lp [t2, t3] w (b2 fun t10 t11 w g1 =>
  bi .lss .i64 t10 t11 w fun t33 w =>
  iff' t33
  (bi .add .i64 t10 t11 w fun t36 w =>
  cvI .u64 t36 w fun t37 w =>
  bO prog .shr 161 (Operand.tmp 37) (Operand.const (Value.int IntKind.u64 1)) t37 (Value.int IntKind.u64 1) w fun t38 w =>
  cvI .i64 t38 w fun t39 w =>
  dr w fun w =>
  ixS 9 t0 t39 w fun t43 _ =>
  ldN 9 t43 w fun t44 _ =>
  ixS 9 t0 t1 w fun t47 _ =>
  ldN 9 t47 w fun t48 _ =>
  clV prog t4 #[t44, t48] w fun t49 w =>
  bi .lss .i64 t49 (Value.int IntKind.i64 0) w fun t50 _ =>
  iff' t50
  (bi .add .i64 t39 (Value.int IntKind.i64 1) w fun t52 w =>
  g1 [t52, t11] w)
  (g1 [t10, t39] w))
  (lp [t1] w (b1 fun t13 w g2 =>
  bi .sub .i64 t10 (Value.int IntKind.i64 1) w fun t57 w =>
  bi .lss .i64 t13 t57 w fun t58 w =>
  iff' t58
  (dr w fun w =>
  bi .add .i64 t13 (Value.int IntKind.i64 1) w fun t65 _ =>
  bi .add .i64 t13 (Value.int IntKind.i64 1) w fun t68 _ =>
  ixS 9 t0 t68 w fun t69 _ =>
  ldN 9 t69 w fun t70 _ =>
  ixS 9 t0 t13 w fun t73 _ =>
  ldN 9 t73 w fun t74 _ =>
  ixS 9 t0 t13 w fun t75 _ =>
  stN 9 t75 t70 w fun _ w =>
  ixS 9 t0 t65 w fun t76 _ =>
  stN 9 t76 t74 w fun _ w =>
  bi .add .i64 t13 (Value.int IntKind.i64 1) w fun t60 w =>
  g2 [t60] w)
  (K (Value.tuple #[]) w)))))
  (bi .sub .i64 t3 t2 w fun t79 w =>
  bi .eql .i64 t79 (Value.int IntKind.i64 1) w fun t80 w =>
  iff' t80
  (lp [t1, t2] w (b2 fun t14 t15 w g3 =>
  bi .lss .i64 t14 t15 w fun t85 w =>
  iff' t85
  (bi .add .i64 t14 t15 w fun t88 w =>
  cvI .u64 t88 w fun t89 w =>
  bO prog .shr 161 (Operand.tmp 89) (Operand.const (Value.int IntKind.u64 1)) t89 (Value.int IntKind.u64 1) w fun t90 w =>
  cvI .i64 t90 w fun t91 w =>
  dr w fun w =>
  ixS 9 t0 t2 w fun t95 _ =>
  ldN 9 t95 w fun t96 _ =>
  ixS 9 t0 t91 w fun t99 _ =>
  ldN 9 t99 w fun t100 _ =>
  clV prog t4 #[t96, t100] w fun t101 w =>
  bi .lss .i64 t101 (Value.int IntKind.i64 0) w fun t102 _ =>
  bnot t102 w fun t103 _ =>
  iff' t103
  (bi .add .i64 t91 (Value.int IntKind.i64 1) w fun t105 w =>
  g3 [t105, t15] w)
  (g3 [t14, t91] w))
  (lp [t2] w (b1 fun t17 w g4 =>
  bi .gtr .i64 t17 t14 w fun t110 w =>
  iff' t110
  (dr w fun w =>
  bi .sub .i64 t17 (Value.int IntKind.i64 1) w fun t117 _ =>
  bi .sub .i64 t17 (Value.int IntKind.i64 1) w fun t120 _ =>
  ixS 9 t0 t120 w fun t121 _ =>
  ldN 9 t121 w fun t122 _ =>
  ixS 9 t0 t17 w fun t125 _ =>
  ldN 9 t125 w fun t126 _ =>
  ixS 9 t0 t17 w fun t127 _ =>
  stN 9 t127 t122 w fun _ w =>
  ixS 9 t0 t117 w fun t128 _ =>
  stN 9 t128 t126 w fun _ w =>
  bi .sub .i64 t17 (Value.int IntKind.i64 1) w fun t112 w =>
  g4 [t112] w)
  (K (Value.tuple #[]) w)))))
  (bi .add .i64 t1 t3 w fun t131 w =>
  cvI .u64 t131 w fun t132 w =>
  bO prog .shr 161 (Operand.tmp 132) (Operand.const (Value.int IntKind.u64 1)) t132 (Value.int IntKind.u64 1) w fun t133 w =>
  cvI .i64 t133 w fun t134 w =>
  bi .add .i64 t134 t2 w fun t137 w =>
  bi .gtr .i64 t2 t134 w fun t140 w =>
  J2 (fun t20 t21 w =>
  bi .sub .i64 t137 (Value.int IntKind.i64 1) w fun t148 w =>
  lp [t20, t21] w (b2 fun t20_1 t21_1 w g6 =>
  bi .lss .i64 t20_1 t21_1 w fun t151 w =>
  iff' t151
  (bi .add .i64 t20_1 t21_1 w fun t154 w =>
  cvI .u64 t154 w fun t155 w =>
  bO prog .shr 161 (Operand.tmp 155) (Operand.const (Value.int IntKind.u64 1)) t155 (Value.int IntKind.u64 1) w fun t156 w =>
  cvI .i64 t156 w fun t157 w =>
  dr w fun w =>
  bi .sub .i64 t148 t157 w fun t162 _ =>
  ixS 9 t0 t162 w fun t163 _ =>
  ldN 9 t163 w fun t164 _ =>
  ixS 9 t0 t157 w fun t167 _ =>
  ldN 9 t167 w fun t168 _ =>
  clV prog t4 #[t164, t168] w fun t169 w =>
  bi .lss .i64 t169 (Value.int IntKind.i64 0) w fun t170 _ =>
  bnot t170 w fun t171 _ =>
  iff' t171
  (bi .add .i64 t157 (Value.int IntKind.i64 1) w fun t173 w =>
  g6 [t173, t21_1] w)
  (g6 [t20_1, t157] w))
  (bi .sub .i64 t137 t20_1 w fun t177 w =>
  bi .lss .i64 t20_1 t2 w fun t180 w =>
  gd t180 true (fun k => k t2 w) w fun t182 w =>
  gd t180 true (fun k => k t177 w) w fun t183 w =>
  gd t180 true (fun k => bi .lss .i64 t182 t183 w k) w fun t184 w =>
  pk t180 t184 (Value.bool false) w fun t185 w =>
  J0 (fun w =>
  bi .lss .i64 t1 t20_1 w fun t194 w =>
  gd t194 true (fun k => k t20_1 w) w fun t196 w =>
  gd t194 true (fun k => k t134 w) w fun t197 w =>
  gd t194 true (fun k => bi .lss .i64 t196 t197 w k) w fun t198 w =>
  pk t194 t198 (Value.bool false) w fun t199 w =>
  J0 (fun w =>
  bi .lss .i64 t134 t177 w fun t208 w =>
  gd t208 true (fun k => k t177 w) w fun t210 w =>
  gd t208 true (fun k => k t3 w) w fun t211 w =>
  gd t208 true (fun k => bi .lss .i64 t210 t211 w k) w fun t212 w =>
  pk t208 t212 (Value.bool false) w fun t213 w =>
  iff' t213
  (Cl prog 190 #[t0, t134, t177, t3, t4] w fun _ w =>
  K (Value.tuple #[]) w)
  (K (Value.tuple #[]) w)) fun k8 =>
  iff' t199
  (Cl prog 190 #[t0, t1, t20_1, t134, t4] w fun _ w =>
  k8 w)
  (k8 w)) fun k7 =>
  iff' t185
  (Cl prog 198 #[t0, t20_1, t2, t177, t4] w fun _ w =>
  k7 w)
  (k7 w)))) fun k5 =>
  iff' t140
  (bi .sub .i64 t137 t3 w fun t143 w =>
  k5 t143 t134 w)
  (k5 t1 t2 w)))
theorem slices_symMergeCmpFunc_gate_kept_calls {t0 t1 t2 t3 t4 : Value} {w : World} {K : KV} (h : slices_symMergeCmpFunc_gate_kept t0 t1 t2 t3 t4 w K) : Cl prog 190 #[t0, t1, t2, t3, t4] w K :=
  Cl.mk (by kernel_rfl) (calls_of_F (fn := fn190) (nt := 220) (rs := []) mixed fnAt190 (by kernel_rfl) (by kernel_rfl) (by kernel_rfl) (Nat.le_of_ble_eq_true (by kernel_rfl)) (by kernel_rfl) (by kernel_rfl) h)

def pacelineref07_fine (t0 : Value) (w : World) (K : KV) : Prop :=
  al (Value.cells t0) 89 w fun t1 w =>
  fld 0 t1 w fun t5 w =>
  ld1 t5 w fun t6 w =>
  Cl prog 199 #[t6, (Value.int IntKind.i64 8)] w fun t7 w =>
  bnot t7 w fun t8 w =>
  gd t8 false (fun k => fld 2 t1 w k) w fun t10 w =>
  gd t8 false (fun k => ld1 t10 w k) w fun t11 w =>
  gd t8 false (fun k => Cl prog 199 #[t11, (Value.int IntKind.i64 8)] w k) w fun t12 w =>
  gd t8 false (fun k => bnot t12 w k) w fun t13 w =>
  pk t8 (Value.bool true) t13 w fun t14 w =>
  gd t14 false (fun k => fld 1 t1 w k) w fun t16 w =>
  gd t14 false (fun k => ld1 t16 w k) w fun t17 w =>
  gd t14 false (fun k => Cl prog 199 #[t17, (Value.int IntKind.i64 16)] w k) w fun t18 w =>
  gd t14 false (fun k => bnot t18 w k) w fun t19 w =>
  pk t14 (Value.bool true) t19 w fun t20 w =>
  gd t20 false (fun k => fld 3 t1 w k) w fun t22 w =>
  gd t20 false (fun k => ld1 t22 w k) w fun t23 w =>
  gd t20 false (fun k => lnS t23 w k) w fun t24 w =>
  gd t20 false (fun k => bi .gtr .i64 t24 (Value.int IntKind.i64 3) w k) w fun t25 w =>
  pk t20 (Value.bool true) t25 w fun t26 w =>
  iff' t26
  (K (Value.bool false) w)
  (lp [(Value.int IntKind.i64 0)] w (b1 fun t3 w g1 =>
  fld 3 t1 w fun t28 w =>
  ld1 t28 w fun t29 w =>
  lnS t29 w fun t30 w =>
  bi .lss .i64 t3 t30 w fun t31 w =>
  iff' t31
  (fld 3 t1 w fun t34 w =>
  ld1 t34 w fun t35 w =>
  ixS 3 t35 t3 w fun t37 w =>
  ldN 3 t37 w fun t38 w =>
  al (zeroD prog 87) 87 w fun t4 w =>
  stN 3 t4 t38 w fun _ w =>
  fld 0 t4 w fun t39 w =>
  ld1 t39 w fun t40 w =>
  Cl prog 199 #[t40, (Value.int IntKind.i64 16)] w fun t41 w =>
  bnot t41 w fun t42 w =>
  gd t42 false (fun k => fld 1 t4 w k) w fun t44 w =>
  gd t42 false (fun k => ld1 t44 w k) w fun t45 w =>
  gd t42 false (fun k => Cl prog 199 #[t45, (Value.int IntKind.i64 1048577)] w k) w fun t46 w =>
  gd t42 false (fun k => bnot t46 w k) w fun t47 w =>
  pk t42 (Value.bool true) t47 w fun t48 w =>
  gd t48 false (fun k => fld 2 t4 w k) w fun t50 w =>
  gd t48 false (fun k => ld1 t50 w k) w fun t51 w =>
  gd t48 false (fun k => Cl prog 199 #[t51, (Value.int IntKind.i64 1000)] w k) w fun t52 w =>
  gd t48 false (fun k => bnot t52 w k) w fun t53 w =>
  pk t48 (Value.bool true) t53 w fun t54 w =>
  iff' t54
  (K (Value.bool false) w)
  (bi .add .i64 t3 (Value.int IntKind.i64 1) w fun t33 w =>
  g1 [t33] w))
  (K (Value.bool true) w)))
theorem pacelineref07_fine_calls {t0 : Value} {w : World} {K : KV} (h : pacelineref07_fine t0 w K) : Cl prog 191 #[t0] w K :=
  Cl.mk (by kernel_rfl) (calls_of_F (fn := fn191) (nt := 55) (rs := [2]) mixed fnAt191 (by kernel_rfl) (by kernel_rfl) (by kernel_rfl) (Nat.le_of_ble_eq_true (by kernel_rfl)) (by kernel_rfl) (by kernel_rfl) h)

def tree_up_1 (t0 t1 t2 : Value) (w : World) (K : KV) : Prop :=
  ld1 t1 w fun t4 w =>
  ld1 t2 w fun t5 w =>
  lnS t5 w fun t6 w =>
  bi .geq .i64 t4 t6 w fun t7 w =>
  gd t7 false (fun k => ld1 t2 w k) w fun t9 w =>
  gd t7 false (fun k => Cl prog 91 #[t9] w k) w fun t10 w =>
  gd t7 false (fun k => bi .neq .i64 t10 (Value.int IntKind.i64 0) w k) w fun t11 w =>
  pk t7 (Value.bool true) t11 w fun t12 w =>
  iff' t12
  (K (Value.tuple #[]) w)
  (lp [] w (b0 fun w g1 =>
  ld1 t1 w fun t13 w =>
  bi .geq .i64 t13 (Value.int IntKind.i64 0) w fun t14 w =>
  iff' t14
  (ld1 t1 w fun t20 w =>
  clV prog t0 #[t20] w fun t21 w =>
  bnot t21 w fun t22 w =>
  iff' t22
  (K (Value.tuple #[]) w)
  (ld1 t2 w fun t15 w =>
  ld1 t1 w fun t16 w =>
  ixS 1 t15 t16 w fun t17 w =>
  ld1 t17 w fun t18 w =>
  stN 1 t1 t18 w fun _ w =>
  g1 [] w))
  (K (Value.tuple #[]) w)))
theorem tree_up_1_calls {t0 t1 t2 : Value} {w : World} {K : KV} (h : tree_up_1 t0 t1 t2 w K) : Cl prog 192 #[t0, t1, t2] w K :=
  Cl.mk (by kernel_rfl) (calls_of_F (fn := fn192) (nt := 23) (rs := []) mixed fnAt192 (by kernel_rfl) (by kernel_rfl) (by kernel_rfl) (Nat.le_of_ble_eq_true (by kernel_rfl)) (by kernel_rfl) (by kernel_rfl) h)

def slices_rotateCmpFunc_gate_kept (t0 t1 t2 t3 t4 : Value) (w : World) (K : KV) : Prop :=
  bi .sub .i64 t2 t1 w fun t14 w =>
  bi .sub .i64 t3 t2 w fun t17 w =>
  lp [t14, t17] w (b2 fun t10 t11 w g1 =>
  bi .neq .i64 t10 t11 w fun t20 w =>
  iff' t20
  (bi .gtr .i64 t10 t11 w fun t23 w =>
  iff' t23
  (bi .sub .i64 t2 t10 w fun t27 w =>
  Cl prog 201 #[t0, t27, t2, t11, t4] w fun _ w =>
  bi .sub .i64 t10 t11 w fun t34 w =>
  g1 [t34, t11] w)
  (bi .sub .i64 t2 t10 w fun t38 w =>
  bi .add .i64 t2 t11 w fun t41 w =>
  bi .sub .i64 t41 t10 w fun t43 w =>
  Cl prog 201 #[t0, t38, t43, t10, t4] w fun _ w =>
  bi .sub .i64 t11 t10 w fun t49 w =>
  g1 [t10, t49] w))
  (bi .sub .i64 t2 t10 w fun t53 w =>
  Cl prog 201 #[t0, t53, t2, t10, t4] w fun _ w =>
  K (Value.tuple #[]) w))
theorem slices_rotateCmpFunc_gate_kept_calls {t0 t1 t2 t3 t4 : Value} {w : World} {K : KV} (h : slices_rotateCmpFunc_gate_kept t0 t1 t2 t3 t4 w K) : Cl prog 198 #[t0, t1, t2, t3, t4] w K :=
  Cl.mk (by kernel_rfl) (calls_of_F (fn := fn198) (nt := 58) (rs := []) mixed fnAt198 (by kernel_rfl) (by kernel_rfl) (by kernel_rfl) (Nat.le_of_ble_eq_true (by kernel_rfl)) (by kernel_rfl) (by kernel_rfl) h)

def pacelineref07_in (t0 t1 : Value) (w : World) (K : KV) : Prop :=
  bi .geq .i64 t0 (Value.int IntKind.i64 0) w fun t6 w =>
  gd t6 true (fun k => k t0 w) w fun t8 w =>
  gd t6 true (fun k => k t1 w) w fun t9 w =>
  gd t6 true (fun k => bi .lss .i64 t8 t9 w k) w fun t10 w =>
  pk t6 t10 (Value.bool false) w fun t11 w =>
  K t11 w
theorem pacelineref07_in_calls {t0 t1 : Value} {w : World} {K : KV} (h : pacelineref07_in t0 t1 w K) : Cl prog 199 #[t0, t1] w K :=
  Cl.mk (by kernel_rfl) (calls_of_F (fn := fn199) (nt := 12) (rs := [4]) mixed fnAt199 (by kernel_rfl) (by kernel_rfl) (by kernel_rfl) (Nat.le_of_ble_eq_true (by kernel_rfl)) (by kernel_rfl) (by kernel_rfl) h)

def slices_swapRangeCmpFunc_gate_kept (t0 t1 t2 t3 t4 : Value) (w : World) (K : KV) : Prop :=
  lp [(Value.int IntKind.i64 0)] w (b1 fun t10 w g1 =>
  bi .lss .i64 t10 t3 w fun t13 w =>
  iff' t13
  (dr w fun w =>
  bi .add .i64 t1 t10 w fun t19 _ =>
  bi .add .i64 t2 t10 w fun t23 _ =>
  bi .add .i64 t2 t10 w fun t27 _ =>
  ixS 9 t0 t27 w fun t28 _ =>
  ldN 9 t28 w fun t29 _ =>
  bi .add .i64 t1 t10 w fun t33 _ =>
  ixS 9 t0 t33 w fun t34 _ =>
  ldN 9 t34 w fun t35 _ =>
  ixS 9 t0 t19 w fun t36 _ =>
  stN 9 t36 t29 w fun _ w =>
  ixS 9 t0 t23 w fun t37 _ =>
  stN 9 t37 t35 w fun _ w =>
  bi .add .i64 t10 (Value.int IntKind.i64 1) w fun t15 w =>
  g1 [t15] w)
  (K (Value.tuple #[]) w))
theorem slices_swapRangeCmpFunc_gate_kept_calls {t0 t1 t2 t3 t4 : Value} {w : World} {K : KV} (h : slices_swapRangeCmpFunc_gate_kept t0 t1 t2 t3 t4 w K) : Cl prog 201 #[t0, t1, t2, t3, t4] w K :=
  Cl.mk (by kernel_rfl) (calls_of_F (fn := fn201) (nt := 38) (rs := []) mixed fnAt201 (by kernel_rfl) (by kernel_rfl) (by kernel_rfl) (Nat.le_of_ble_eq_true (by kernel_rfl)) (by kernel_rfl) (by kernel_rfl) h)

def prio_faced_Len (t0 : Value) (w : World) (K : KV) : Prop :=
  al (Value.cells t0) 172 w fun t1 w =>
  fld 0 t1 w fun t3 w =>
  ld1 t3 w fun t4 w =>
  ncP t4 <|
  fld 1 t4 w fun t6 w =>
  ld1 t6 w fun t7 w =>
  lnS t7 w fun t8 w =>
  K t8 w
theorem prio_faced_Len_calls {t0 : Value} {w : World} {K : KV} (h : prio_faced_Len t0 w K) : Cl prog 224 #[t0] w K :=
  Cl.mk (by kernel_rfl) (calls_of_F (fn := fn224) (nt := 9) (rs := [2]) mixed fnAt224 (by kernel_rfl) (by kernel_rfl) (by kernel_rfl) (Nat.le_of_ble_eq_true (by kernel_rfl)) (by kernel_rfl) (by kernel_rfl) h)

end Go.Proofs.YtbopajpmadlmhaaGreat
end
section
namespace Go.Proofs.YtbopajpmadlmhaaGreat
open Go Go.E
set_option linter.unusedVariables false
set_option maxRecDepth 100000
def prio_faced_Less (t0 t1 t2 : Value) (w : World) (K : KV) : Prop :=
  al (Value.cells t0) 172 w fun t3 w =>
  dr w fun w =>
  fld 0 t3 w fun t7 _ =>
  ld1 t7 w fun t8 _ =>
  ncP t8 <|
  fld 1 t8 w fun t10 _ =>
  ld1 t10 w fun t11 _ =>
  ixS 6 t11 t1 w fun t13 _ =>
  fld 0 t13 w fun t14 _ =>
  ldN 3 t14 w fun t15 _ =>
  fld 0 t3 w fun t16 _ =>
  ld1 t16 w fun t17 _ =>
  ncP t17 <|
  fld 1 t17 w fun t19 _ =>
  ld1 t19 w fun t20 _ =>
  ixS 6 t20 t2 w fun t22 _ =>
  fld 0 t22 w fun t23 _ =>
  ldN 3 t23 w fun t24 _ =>
  Cl prog 117 #[t15, t24] w fun t25 w =>
  bi .lss .i64 t25 (Value.int IntKind.i64 0) w fun t26 _ =>
  K t26 w
theorem prio_faced_Less_calls {t0 t1 t2 : Value} {w : World} {K : KV} (h : prio_faced_Less t0 t1 t2 w K) : Cl prog 225 #[t0, t1, t2] w K :=
  Cl.mk (by kernel_rfl) (calls_of_F (fn := fn225) (nt := 27) (rs := [6]) mixed fnAt225 (by kernel_rfl) (by kernel_rfl) (by kernel_rfl) (Nat.le_of_ble_eq_true (by kernel_rfl)) (by kernel_rfl) (by kernel_rfl) h)

def prio_faced_Pop (t0 : Value) (w : World) (K : KV) : Prop :=
  al (Value.cells t0) 172 w fun t1 w =>
  fld 0 t1 w fun t5 w =>
  ld1 t5 w fun t6 w =>
  ncP t6 <|
  fld 1 t6 w fun t8 w =>
  ld1 t8 w fun t9 w =>
  lnS t9 w fun t10 w =>
  bi .sub .i64 t10 (Value.int IntKind.i64 1) w fun t11 w =>
  fld 0 t1 w fun t12 w =>
  ld1 t12 w fun t13 w =>
  ncP t13 <|
  fld 1 t13 w fun t15 w =>
  ld1 t15 w fun t16 w =>
  ixS 6 t16 t11 w fun t18 w =>
  ldN 6 t18 w fun t19 w =>
  al (zeroD prog 37) 37 w fun t4 w =>
  stN 6 t4 t19 w fun _ w =>
  dr w fun w =>
  fld 0 t1 w fun t20 _ =>
  ld1 t20 w fun t21 _ =>
  fld 0 t1 w fun t22 _ =>
  ld1 t22 w fun t23 _ =>
  ncP t23 <|
  fld 1 t23 w fun t25 _ =>
  ld1 t25 w fun t26 _ =>
  slc 6 t26 none (some t11) w fun t28 _ =>
  ncP t21 <|
  fld 1 t21 w fun t30 _ =>
  stN 1 t30 t28 w fun _ w =>
  dr w fun w =>
  fld 0 t1 w fun t31 _ =>
  ld1 t31 w fun t32 _ =>
  ncP t32 <|
  fld 2 t32 w fun t34 _ =>
  ld1 t34 w fun t35 _ =>
  fld 0 t4 w fun t36 _ =>
  ldN 3 t36 w fun t37 _ =>
  dlM prog #[153, 35] 0 t35 t37 w fun _ w =>
  ldN 6 t4 w fun t38 w =>
  K (Value.iface 37 t38) w
theorem prio_faced_Pop_calls {t0 : Value} {w : World} {K : KV} (h : prio_faced_Pop t0 w K) : Cl prog 226 #[t0] w K :=
  Cl.mk (by kernel_rfl) (calls_of_F (fn := fn226) (nt := 40) (rs := [2]) mixed fnAt226 (by kernel_rfl) (by kernel_rfl) (by kernel_rfl) (Nat.le_of_ble_eq_true (by kernel_rfl)) (by kernel_rfl) (by kernel_rfl) h)

def prio_faced_Push (t0 t1 : Value) (w : World) (K : KV) : Prop :=
  al (Value.cells t0) 172 w fun t2 w =>
  tyA prog t1 20 37 false w fun t6 w =>
  al (zeroD prog 37) 37 w fun t4 w =>
  stN 6 t4 t6 w fun _ w =>
  dr w fun w =>
  fld 0 t2 w fun t7 _ =>
  ld1 t7 w fun t8 _ =>
  ncP t8 <|
  fld 2 t8 w fun t10 _ =>
  ld1 t10 w fun t11 _ =>
  fld 0 t4 w fun t12 _ =>
  ldN 3 t12 w fun t13 _ =>
  fld 0 t2 w fun t14 _ =>
  ld1 t14 w fun t15 _ =>
  ncP t15 <|
  fld 1 t15 w fun t17 _ =>
  ld1 t17 w fun t18 _ =>
  lnS t18 w fun t19 _ =>
  upM prog 153 t11 t13 t19 w fun _ w =>
  dr w fun w =>
  fld 0 t2 w fun t20 _ =>
  ld1 t20 w fun t21 _ =>
  fld 0 t2 w fun t22 _ =>
  ld1 t22 w fun t23 _ =>
  ncP t23 <|
  fld 1 t23 w fun t25 _ =>
  ld1 t25 w fun t26 _ =>
  ldN 6 t4 w fun t27 _ =>
  bsl 37 6 1 (zeroD prog 37) [(0, t27)] w fun t28 w =>
  (ld1 t25 w (fun v' w'' => v' = t26 ∧ w'' = w)) ∧ ((ld1 t22 w (fun v' w'' => v' = t23 ∧ w'' = w)) ∧ ((ld1 t20 w (fun v' w'' => v' = t21 ∧ w'' = w)) ∧ (apS prog #[33, 33] 33 t26 t28 w fun t29 w =>
  (ld1 t20 w (fun v' w'' => v' = t21 ∧ w'' = w)) ∧ (ncP t21 <|
  fld 1 t21 w fun t31 _ =>
  stN 1 t31 t29 w fun _ w =>
  K (Value.tuple #[]) w))))
theorem prio_faced_Push_calls {t0 t1 : Value} {w : World} {K : KV} (h : prio_faced_Push t0 t1 w K) : Cl prog 227 #[t0, t1] w K :=
  Cl.mk (by kernel_rfl) (calls_of_F (fn := fn227) (nt := 32) (rs := []) mixed fnAt227 (by kernel_rfl) (by kernel_rfl) (by kernel_rfl) (Nat.le_of_ble_eq_true (by kernel_rfl)) (by kernel_rfl) (by kernel_rfl) h)

def prio_faced_Swap (t0 t1 t2 : Value) (w : World) (K : KV) : Prop :=
  al (Value.cells t0) 172 w fun t3 w =>
  dr w fun w =>
  fld 0 t3 w fun t6 _ =>
  ld1 t6 w fun t7 _ =>
  ncP t7 <|
  fld 1 t7 w fun t9 _ =>
  ld1 t9 w fun t10 _ =>
  fld 0 t3 w fun t12 _ =>
  ld1 t12 w fun t13 _ =>
  ncP t13 <|
  fld 1 t13 w fun t15 _ =>
  ld1 t15 w fun t16 _ =>
  fld 0 t3 w fun t18 _ =>
  ld1 t18 w fun t19 _ =>
  ncP t19 <|
  fld 1 t19 w fun t21 _ =>
  ld1 t21 w fun t22 _ =>
  ixS 6 t22 t2 w fun t24 _ =>
  ldN 6 t24 w fun t25 _ =>
  fld 0 t3 w fun t26 _ =>
  ld1 t26 w fun t27 _ =>
  ncP t27 <|
  fld 1 t27 w fun t29 _ =>
  ld1 t29 w fun t30 _ =>
  ixS 6 t30 t1 w fun t32 _ =>
  ldN 6 t32 w fun t33 _ =>
  ixS 6 t10 t1 w fun t34 _ =>
  stN 6 t34 t25 w fun _ w =>
  ixS 6 t16 t2 w fun t35 _ =>
  stN 6 t35 t33 w fun _ w =>
  dr w fun w =>
  fld 0 t3 w fun t36 _ =>
  ld1 t36 w fun t37 _ =>
  ncP t37 <|
  fld 2 t37 w fun t39 _ =>
  ld1 t39 w fun t40 _ =>
  fld 0 t3 w fun t41 _ =>
  ld1 t41 w fun t42 _ =>
  ncP t42 <|
  fld 1 t42 w fun t44 _ =>
  ld1 t44 w fun t45 _ =>
  ixS 6 t45 t1 w fun t47 _ =>
  fld 0 t47 w fun t48 _ =>
  ldN 3 t48 w fun t49 _ =>
  fld 0 t3 w fun t50 _ =>
  ld1 t50 w fun t51 _ =>
  ncP t51 <|
  fld 2 t51 w fun t53 _ =>
  ld1 t53 w fun t54 _ =>
  fld 0 t3 w fun t55 _ =>
  ld1 t55 w fun t56 _ =>
  ncP t56 <|
  fld 1 t56 w fun t58 _ =>
  ld1 t58 w fun t59 _ =>
  ixS 6 t59 t2 w fun t61 _ =>
  fld 0 t61 w fun t62 _ =>
  ldN 3 t62 w fun t63 _ =>
  meM prog 153 t40 t49 w fun t66 w =>
  xt 1 t66 w fun t67 _ =>
  esM prog 153 t40 t67 t1 w fun _ w =>
  meM prog 153 t54 t63 w fun t68 w =>
  xt 1 t68 w fun t69 _ =>
  esM prog 153 t54 t69 t2 w fun _ w =>
  K (Value.tuple #[]) w
theorem prio_faced_Swap_calls {t0 t1 t2 : Value} {w : World} {K : KV} (h : prio_faced_Swap t0 t1 t2 w K) : Cl prog 228 #[t0, t1, t2] w K :=
  Cl.mk (by kernel_rfl) (calls_of_F (fn := fn228) (nt := 70) (rs := []) mixed fnAt228 (by kernel_rfl) (by kernel_rfl) (by kernel_rfl) (Nat.le_of_ble_eq_true (by kernel_rfl)) (by kernel_rfl) (by kernel_rfl) h)

def warp_trouble_Unwrap (t0 : Value) (w : World) (K : KV) : Prop :=
  ncP t0 <|
  fld 3 t0 w fun t5 w =>
  ld1 t5 w fun t6 w =>
  K t6 w
theorem warp_trouble_Unwrap_calls {t0 : Value} {w : World} {K : KV} (h : warp_trouble_Unwrap t0 w K) : Cl prog 230 #[t0] w K :=
  Cl.mk (by kernel_rfl) (calls_of_F (fn := fn230) (nt := 7) (rs := [2]) mixed fnAt230 (by kernel_rfl) (by kernel_rfl) (by kernel_rfl) (Nat.le_of_ble_eq_true (by kernel_rfl)) (by kernel_rfl) (by kernel_rfl) h)

end Go.Proofs.YtbopajpmadlmhaaGreat
end
section
namespace Go.Proofs.YtbopajpmadlmhaaGreat
open Go Go.E
set_option maxRecDepth 100000

def Inf : Int := 1125899906842624
def MaxT : Int := 1099511627776
def validT (t : Int) : Bool := decide (t = Inf ∨ (0 ≤ t ∧ t ≤ MaxT))
def clampT (t : Int) : Int := if t < 0 then 0 else if MaxT < t then Inf else t
def addT (t d : Int) : Int := clampT (clampT t + clampT d)
def leastT (l : List Int) : Int := l.foldl (fun n t => min n (clampT t)) Inf
def cmpI (a b : Int) : Int := if a < b then -1 else if b < a then 1 else 0
def cmpK (a b : Key) : Int := if cmpI a.T b.T ≠ 0 then cmpI a.T b.T else if cmpI a.From b.From ≠ 0 then cmpI a.From b.From else cmpI a.Seq b.Seq
def In64 (n : Int) : Prop := -9223372036854775808 ≤ n ∧ n ≤ 9223372036854775807
theorem In64.of_wf {n : Int} (h : (Lit.int .i64 n).wf = true) : In64 n := by
  simp only [Lit.wf, IntKind.min, IntKind.max, IntKind.signed, IntKind.bits] at h
  simp at h
  unfold In64
  omega
theorem wrap_u64 {n : Int} (h : In64 n) : IntKind.u64.wrap n = if 0 ≤ n then n else n + 18446744073709551616 := by
  have e1 : (2 : Int) ^ 64 = 18446744073709551616 := by decide
  simp only [IntKind.wrap, IntKind.bits, IntKind.signed, Bool.false_and, Bool.false_eq_true, if_false, e1]
  unfold In64 at h
  split <;> omega
theorem clampT_le (t : Int) : 0 ≤ clampT t ∧ clampT t ≤ Inf := by unfold clampT Inf MaxT; split <;> (try split) <;> omega

variable {e w : World} {R : List HP} {K : KV}
theorem vtime_Valid_s {t : Int} (ht : In64 t) (hk : K (.bool (validT t)) w) : Cl prog 47 #[.int .i64 t] w K := by
  refine vtime_Valid_calls ?_
  unfold vtime_Valid
  have h64 := ht
  unfold In64 at h64
  refine eq_c (fun c => ?_) (fun c => ?_)
  · refine gd_tf (gd_tf (gd_tf (pk_t ?_)))
    rw [show validT t = true from by simp [validT, Inf, c]] at hk
    exact hk
  · refine gd_ff (gd_ff (cv_s (gd_ff ?_)))
    rw [wrap_u64 ht]
    by_cases h : 0 ≤ t ∧ t ≤ MaxT
    · rw [if_pos h.1]
      refine le_t (by unfold MaxT at h; omega) (pk_f ?_)
      rw [show validT t = true from by simp [validT, h]] at hk
      exact hk
    · refine le_f (by unfold MaxT at h; split <;> omega) (pk_f ?_)
      rw [show validT t = false from by simp only [validT, decide_eq_false_iff_not]; unfold Inf; omega] at hk
      exact hk
theorem ref01_Valid_s {t : Int} (hk : K (.bool (validT t)) w) : Cl prog 74 #[.int .i64 t] w K := by
  refine pacelineref01_Valid_calls ?_
  unfold pacelineref01_Valid
  have hv : validT t = (decide (t = Inf ∨ (0 ≤ t ∧ t ≤ MaxT))) := rfl
  unfold Inf MaxT at hv
  refine ge_c (fun c => gd_tt (gd_tt (le_c (fun c2 => pk_t (gd_tf (gd_tf (pk_t ?_)))) (fun c2 => pk_t (gd_ff (gd_ff (eq_c (fun c3 => pk_f ?_) (fun c3 => pk_f ?_)))))))) (fun c => gd_ft (gd_ft (pk_f (gd_ff (gd_ff (eq_c (fun c3 => pk_f ?_) (fun c3 => pk_f ?_)))))))
  all_goals first
    | (rw [show validT t = true from by rw [hv, decide_eq_true]; omega] at hk; exact hk)
    | (rw [show validT t = false from by rw [hv, decide_eq_false]; omega] at hk; exact hk)
theorem vtime_clamp_s {t : Int} (hk : K (.int .i64 (clampT t)) w) : Cl prog 125 #[.int .i64 t] w K := by
  refine vtime_clamp_calls ?_
  unfold vtime_clamp
  unfold clampT Inf MaxT at hk
  refine lt_c (fun c => iff_t ?_) (fun c => iff_f ?_)
  · rw [if_pos c] at hk; exact hk
  · rw [if_neg c] at hk
    refine gt_c (fun c => iff_t ?_) (fun c => iff_f ?_)
    · rw [if_pos c] at hk; exact hk
    · rw [if_neg c] at hk; exact hk
theorem ref01_time_s {t : Int} (hk : K (.int .i64 (clampT t)) w) : Cl prog 134 #[.int .i64 t] w K := by
  refine pacelineref01_time_calls ?_
  unfold pacelineref01_time
  unfold clampT Inf MaxT at hk
  refine lt_c (fun c => iff_t ?_) (fun c => iff_f ?_)
  · rw [if_pos c] at hk; exact hk
  · rw [if_neg c] at hk
    refine gt_c (fun c => iff_t ?_) (fun c => iff_f ?_)
    · rw [if_pos c] at hk; exact hk
    · rw [if_neg c] at hk; exact hk
theorem vtime_Add_s {t d : Int} (hk : K (.int .i64 (addT t d)) w) : Cl prog 68 #[.int .i64 t, .int .i64 d] w K := by
  refine vtime_Add_calls ?_
  unfold vtime_Add
  have h1 := clampT_le t
  have h2 := clampT_le d
  unfold Inf at h1 h2
  exact vtime_clamp_s (vtime_clamp_s (add_s (by omega) (by omega) (vtime_clamp_s hk)))
theorem ref01_Add_s {t d : Int} (hk : K (.int .i64 (addT t d)) w) : Cl prog 87 #[.int .i64 t, .int .i64 d] w K := by
  refine pacelineref01_Add_calls ?_
  unfold pacelineref01_Add
  have h1 := clampT_le t
  have h2 := clampT_le d
  unfold Inf at h1 h2
  have key : ∀ a b : Int, 0 ≤ a → 0 ≤ b → (a = 1125899906842624 ∨ b = 1125899906842624) → clampT (a + b) = 1125899906842624 := by
    intro a b ha hb h
    unfold clampT MaxT Inf
    rw [if_neg (by omega), if_pos (by omega)]
  refine ref01_time_s (ref01_time_s ?_)
  refine eq_c (fun c => gd_tf (gd_tf (pk_t (iff_t ?_)))) (fun c => gd_ff (gd_ff (eq_c (fun c2 => pk_f (iff_t ?_)) (fun c2 => pk_f (iff_f ?_)))))
  · unfold addT at hk; rw [key _ _ h1.1 h2.1 (.inl c)] at hk; exact hk
  · unfold addT at hk; rw [key _ _ h1.1 h2.1 (.inr c2)] at hk; exact hk
  · exact add_s (by omega) (by omega) (ref01_time_s hk)

theorem leastT_snoc (l : List Int) (t : Int) : leastT (l ++ [t]) = min (leastT l) (clampT t) := by simp [leastT]
theorem vtime_Least_s {v : Value} {l : List Int} {S : HP} (hS : Sat e w (S :: R)) (hr : ∀ g, S g → rdS 1 (intsK .i64) v l g) (hl : l.length ≤ 1000000) (hk : ∀ w', Sat e w' (S :: R) → K (.int .i64 (leastT l)) w') : Cl prog 64 #[v] w K := by
  refine vtime_Least_calls ?_
  unfold vtime_Least
  refine lnS_rd hS 0 rfl hr ?_
  refine lp2 (fun t3 t8 w => ∃ j : Nat, j ≤ l.length ∧ t8 = .int .i64 j ∧ t3 = .int .i64 (leastT (l.take j)) ∧ Sat e w (S :: R)) (fun _ t8 _ => l.length - nOf t8) ⟨0, Nat.zero_le _, rfl, rfl, hS⟩ ?_
  rintro _ _ w g ⟨j, hj, rfl, rfl, h1⟩ hg
  refine lt_c (fun c => iff_t ?_) (fun c => iff_f ?_)
  · obtain ⟨x, hx⟩ := get_of_lt (l := l) (j := j) (by omega)
    refine ixS_rd h1 0 rfl hr (fun _ => rfl) hx fun a ha => ?_
    refine ld1_of h1 0 rfl ha (by rfl) ?_
    refine vtime_clamp_s (min_s (inc_s (by omega) ?_))
    exact hg _ _ _ ⟨j + 1, by omega, rfl, by rw [take_snoc hx, leastT_snoc], h1⟩ (by simp [nOf]; omega)
  · obtain rfl : j = l.length := by omega
    rw [List.take_length]
    exact hk _ h1
theorem ref01_Least_s {v : Value} {l : List Int} {S : HP} (hS : Sat e w (S :: R)) (hr : ∀ g, S g → rdS 1 (intsK .i64) v l g) (hl : l.length ≤ 1000000) (hk : ∀ w', Sat e w' (S :: R) → K (.int .i64 (leastT l)) w') : Cl prog 86 #[v] w K := by
  refine pacelineref01_Least_calls ?_
  unfold pacelineref01_Least
  refine lp2 (fun t3 t8 w => ∃ j : Nat, j ≤ l.length ∧ t8 = .int .i64 j ∧ t3 = .int .i64 (leastT (l.take j)) ∧ Sat e w (S :: R)) (fun _ t8 _ => l.length - nOf t8) ⟨0, Nat.zero_le _, rfl, rfl, hS⟩ ?_
  rintro _ _ w g ⟨j, hj, rfl, rfl, h1⟩ hg
  refine lnS_rd h1 0 rfl hr ?_
  refine lt_c (fun c => iff_t ?_) (fun c => iff_f ?_)
  · obtain ⟨x, hx⟩ := get_of_lt (l := l) (j := j) (by omega)
    refine ixS_rd h1 0 rfl hr (fun _ => rfl) hx fun a ha => ?_
    refine ld1_of h1 0 rfl ha (by rfl) ?_
    refine ref01_time_s (min_s (inc_s (by omega) ?_))
    exact hg _ _ _ ⟨j + 1, by omega, rfl, by rw [take_snoc hx, leastT_snoc], h1⟩ (by simp [nOf]; omega)
  · obtain rfl : j = l.length := by omega
    rw [List.take_length]
    exact hk _ h1

theorem isNaN_s {a : Int} (hk : K (.bool false) w) : Cl prog 188 #[.int .i64 a] w K := by
  refine cmp_isNaN_int_calls ?_
  unfold cmp_isNaN_int
  exact ne_f rfl hk
theorem compare_s {a b : Int} (hk : K (.int .i64 (cmpI a b)) w) : Cl prog 162 #[.int .i64 a, .int .i64 b] w K := by
  refine cmp_Compare_int_calls ?_
  unfold cmp_Compare_int
  unfold cmpI at hk
  refine isNaN_s (isNaN_s (iff_f (iff_f (lt_c (fun c => iff_t ?_) (fun c => iff_f (gt_c (fun c2 => iff_t ?_) (fun c2 => iff_f ?_)))))))
  · rw [if_pos c] at hk; exact hk
  · rw [if_neg c, if_pos c2] at hk; exact hk
  · rw [if_neg c, if_neg c2] at hk; exact hk
theorem or_s {v : Value} {l : List Int} {S : HP} (hS : Sat e w (S :: R)) (hr : ∀ g, S g → rdS 1 (intsK .i64) v l g) (hl : l.length ≤ 1000000) (hk : ∀ w', Sat e w' (S :: R) → K (.int .i64 ((l.find? (fun n => decide (n ≠ 0))).getD 0)) w') : Cl prog 161 #[v] w K := by
  refine cmp_Or_int_calls ?_
  unfold cmp_Or_int
  refine lnS_rd hS 0 rfl hr ?_
  refine lp1 (fun t8 w => ∃ j : Nat, j ≤ l.length ∧ t8 = .int .i64 j ∧ (l.take j).find? (fun n => decide (n ≠ 0)) = none ∧ Sat e w (S :: R)) (fun t8 _ => l.length - nOf t8) ⟨0, Nat.zero_le _, rfl, rfl, hS⟩ ?_
  rintro _ w g ⟨j, hj, rfl, hn, h1⟩ hg
  refine lt_c (fun c => iff_t ?_) (fun c => iff_f ?_)
  · obtain ⟨x, hx⟩ := get_of_lt (l := l) (j := j) (by omega)
    refine ixS_rd h1 0 rfl hr (fun _ => rfl) hx fun a ha => ?_
    refine ld1_of h1 0 rfl ha (by rfl) ?_
    refine ne_c (fun c => iff_t ?_) (fun c => iff_f ?_)
    · have h2 := hk _ h1
      have : l.find? (fun n => decide (n ≠ 0)) = some x := by
        rw [← List.take_append_drop j l, List.find?_append, hn, Option.none_or]
        have hd : l.drop j = x :: l.drop (j + 1) := by
          obtain ⟨hlt, e⟩ := List.getElem?_eq_some_iff.1 hx
          rw [List.drop_eq_getElem_cons hlt, e]
        rw [hd, List.find?_cons_of_pos (by simpa using c)]
      rw [this] at h2
      exact h2
    · refine inc_s (by omega) ?_
      exact hg _ _ ⟨j + 1, by omega, rfl, by rw [take_snoc hx, List.find?_append, hn]; simp [c], h1⟩ (by simp [nOf]; omega)
  · obtain rfl : j = l.length := by omega
    rw [List.take_length] at hn
    have h2 := hk _ h1
    rw [hn] at h2
    exact h2
theorem vtime_Cmp_s {a b : Key} (hS : Sat e w R) (hk : ∀ w', Sat e w' R → K (.int .i64 (cmpK a b)) w') : Cl prog 117 #[.agg a.cs.toArray, .agg b.cs.toArray] w K := by
  refine vtime_Cmp_calls ?_
  unfold vtime_Cmp
  rw [zero_3]
  refine al_s (cs := a.cs) hS rfl fun b2 w1 h1 => ?_
  refine al_s (cs := b.cs) h1 rfl fun b3 w2 h2 => ?_
  refine dr_s h2 fun w3 h3 => ?_
  refine fld_at (ld1_at h3 1 rfl rfl (fld_at (ld1_at h3 0 rfl rfl ?_)))
  refine fld_at (ld1_at h3 1 rfl rfl (fld_at (ld1_at h3 0 rfl rfl ?_)))
  refine fld_at (ld1_at h3 1 rfl rfl (fld_at (ld1_at h3 0 rfl rfl ?_)))
  refine compare_s ⟨ld1_at h3 0 rfl rfl ⟨rfl, rfl⟩, ld1_at h3 1 rfl rfl ⟨rfl, rfl⟩, ld1_at h3 0 rfl rfl ⟨rfl, rfl⟩, ld1_at h3 1 rfl rfl ⟨rfl, rfl⟩, ?_⟩
  refine compare_s ⟨ld1_at h3 0 rfl rfl ⟨rfl, rfl⟩, ld1_at h3 1 rfl rfl ⟨rfl, rfl⟩, ?_⟩
  refine compare_s ?_
  refine bsl_s (ints [cmpI a.T b.T, cmpI a.From b.From, cmpI a.Seq b.Seq]) h3 (by kernel_rfl) fun b20 w4 h4 => ?_
  refine or_s h4 (l := [cmpI a.T b.T, cmpI a.From b.From, cmpI a.Seq b.Seq]) (blk_rdn (f := intsK .i64) [cmpI a.T b.T, cmpI a.From b.From, cmpI a.Seq b.Seq] rfl (Nat.le_refl _)) (by simp) fun w5 h5 => ?_
  have h6 := hk w5 (h5.drop.drop.drop)
  have e1 : ([cmpI a.T b.T, cmpI a.From b.From, cmpI a.Seq b.Seq].find? (fun n => decide (n ≠ 0))).getD 0 = cmpK a b := by
    unfold cmpK
    by_cases h1 : cmpI a.T b.T = 0
    · by_cases h2 : cmpI a.From b.From = 0
      · by_cases h3 : cmpI a.Seq b.Seq = 0 <;> simp [h1, h2, h3]
      · simp [h1, h2]
    · simp [h1]
  rw [e1]
  exact h6
end Go.Proofs.YtbopajpmadlmhaaGreat
end
section
namespace Go.E
open Go.RowKit

theorem nc_p {x : Addr} {w : World} {K : KV} (h : K (.pointer (some x)) w) : nc (.pointer (some x)) w K := ⟨rfl, h⟩
section
variable {e w : World} {L R l : List HP} {K : KV} {P Q : HP}
end

section
variable {α : Type} {e w : World} {L : List HP} {K : KV} {size : Nat} {f : α → List Value} {v : Value} {l : List α} {t : TypeId}
theorem Sat.own_open (h : Sat e w L) (i : Nat) (hi : L[i]? = some (ownS t size f v l)) (hl : 0 < l.length) :
    ∃ b c cs, v = .slice (some ⟨b, 0, none⟩) l.length c ∧ cs.length = c * size ∧ l.length ≤ c ∧ cs.take (l.length * size) = l.flatMap f ∧ Sat e w (L.set i (blk b t cs)) := by
  have h1 := h.pick i hi
  obtain ⟨k1, k2, d, s1, s2, q, rr⟩ := h1.mem
  rcases q with ⟨_, rfl⟩ | ⟨b, c, cs, hv, hb, hc, hn, hx⟩
  · simp at hl
  · refine ⟨b, c, cs, hv, hc, hn, hx, ?_⟩
    have h2 : Sat e w (blk b t cs :: L.eraseIdx i) := ⟨h1.os, h1.tape, h1.output, h1.drawn, h1.size, k1, k2, d, s1, s2, hb, rr⟩
    exact h2.perm (set_perm L i _ _ hi)
theorem ixS_sl {b off n c j : Nat} {k : IntKind} (hj : j < n) (hk : K (.pointer (some ⟨b, off + j * size, none⟩)) w) : ixS size (.slice (some ⟨b, off, none⟩) n c) (.int k (j : Int)) w K := by
  refine ⟨_, _, _, _, _, rfl, rfl, by omega, by omega, ?_⟩
  have e1 : ((⟨b, off, none⟩ : Addr).add ((j : Int).toNat * size)) = ⟨b, off + j * size, none⟩ := by
    unfold Addr.add
    split
    · rename_i h0
      have h1 : j * size = 0 := by simpa using h0
      rw [h1]; rfl
    · simp
  rw [e1]
  exact hk
theorem flatMap_set (hf : ∀ x, (f x).length = size) : ∀ (l : List α) (j : Nat) (x : α) (rest : List Value), j < l.length → wrL (l.flatMap f ++ rest) (j * size) (f x) = (l.set j x).flatMap f ++ rest
  | [], j, x, rest, h => by simp at h
  | y :: l, 0, x, rest, h => by
    simp only [wrL, Nat.zero_mul, List.take_zero, List.nil_append, Nat.zero_add, List.flatMap_cons, List.append_assoc, List.set_cons_zero]
    rw [hf x, ← hf y, List.drop_left]
  | y :: l, j + 1, x, rest, h => by
    have ih := flatMap_set hf l j x rest (by simpa using h)
    simp only [List.flatMap_cons, List.set_cons_succ, List.append_assoc]
    rw [← ih]
    simp only [wrL]
    rw [show (j + 1) * size = (f y).length + j * size from by rw [hf, Nat.add_mul]; omega, List.take_append, List.take_of_length_le (by omega), Nat.add_sub_cancel_left, show (f y).length + j * size + (f x).length = (f y).length + (j * size + (f x).length) from by omega, ← List.drop_drop, List.drop_left]
    simp
theorem own_set {b c j : Nat} {cs cs' : List Value} {x : α} {g : Hp} (hf : ∀ x, (f x).length = size) (hc : cs.length = c * size) (hn : l.length ≤ c) (hx : cs.take (l.length * size) = l.flatMap f) (hj : j < l.length) (hw : wrL cs (j * size) (f x) = cs') (h : blk b t cs' g) :
    ownS t size f (.slice (some ⟨b, 0, none⟩) l.length c) (l.set j x) g := by
  have e1 : cs = l.flatMap f ++ cs.drop (l.length * size) := by rw [← hx, List.take_append_drop]
  have e2 : cs' = (l.set j x).flatMap f ++ cs.drop (l.length * size) := by rw [← hw, e1, flatMap_set hf l j x _ hj, ← e1]
  have e3 : ((l.set j x).flatMap f).length = l.length * size := by rw [flatMap_length hf, List.length_set]
  have e4 : l.length * size ≤ c * size := Nat.mul_le_mul_right _ hn
  refine .inr ⟨b, c, cs', by rw [List.length_set], h, ?_, by simpa using hn, ?_⟩
  · rw [e2, List.length_append, e3, List.length_drop, hc]; omega
  · rw [e2, List.length_set, ← e3, List.take_left]

end

section
variable {P : Program} {w : World} {K : KV}
end
end Go.E
end
