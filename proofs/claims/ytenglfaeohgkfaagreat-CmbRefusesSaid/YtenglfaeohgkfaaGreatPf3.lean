/- Printed by prt.py: the Go functions of this seat as shallow predicate transformers. Conditions: none. -/
import Derived.Test.YtenglfaeohgkfaaGreatEngO
import Derived.Test.YtenglfaeohgkfaaGreatEngZ
import Derived.Test.YtenglfaeohgkfaaGreatPfHead
import Derived.KernelRfl
namespace Go.Proofs.YtenglfaeohgkfaaGreat
open Go Go.E
set_option linter.unusedVariables false
set_option maxRecDepth 100000
/-- paceline/tree.up$1 -/
def tree_up_1 (t0 t1 t2 : Value) (w : World) (K : KV) : Prop :=
  ld1 t1 w fun t4 w =>
  ld1 t2 w fun t5 w =>
  lnS t5 w fun t6 w =>
  bi .geq .i64 t4 t6 w fun t7 w =>
  gd t7 false (fun k => ld1 t2 w k) w fun t9 w =>
  gd t7 false (fun k => Cl prog 58 #[t9] w k) w fun t10 w =>
  gd t7 false (fun k => bi .neq .i64 t10 (Value.int IntKind.i64 0) w k) w fun t11 w =>
  pk t7 (Value.bool true) t11 w fun t12 w =>
  iff' t12
  (K (Value.tuple #[]) w)
  (lp [] w (b0 fun w g1 =>
  ld1 t1 w fun t13 w =>
  bi .geq .i64 t13 (Value.int IntKind.i64 0) w fun t14 w =>
  iff' t14
  (ld1 t1 w fun t20 w =>
  clV prog t0 #[t20] w fun t21 w =>
  bnot t21 w fun t22 w =>
  iff' t22
  (K (Value.tuple #[]) w)
  (ld1 t2 w fun t15 w =>
  ld1 t1 w fun t16 w =>
  ixS 1 t15 t16 w fun t17 w =>
  ld1 t17 w fun t18 w =>
  stN 1 t1 t18 w fun _ w =>
  g1 [] w))
  (K (Value.tuple #[]) w)))
theorem tree_up_1_eq (t0 t1 t2 : Value) (w : World) (K : KV) : tree_up_1 t0 t1 t2 w K = fnW prog 23 [] (match fn136.body with | some c => c | none => .skip) #[t0, t1, t2] w K := by kernel_rfl
theorem tree_up_1_ok : fnOk prog 23 [] (match fn136.body with | some c => c | none => .skip) = true := by kernel_rfl
theorem tree_up_1_calls {t0 t1 t2 : Value} {w : World} {K : KV} (h : tree_up_1 t0 t1 t2 w K) : Cl prog 136 #[t0, t1, t2] w K :=
  Cl.mk (by kernel_rfl) (calls_of_F (fn := fn136) (nt := 23) (rs := []) mixed fnAt136 (by kernel_rfl) (by kernel_rfl) (by kernel_rfl) (Nat.le_of_ble_eq_true (by kernel_rfl)) tree_up_1_ok (tree_up_1_eq t0 t1 t2 w K) h)

/-- (*paceline/prio.Queue).Len -/
def prio_Queue_Len (t0 : Value) (w : World) (K : KV) : Prop :=
  ncP t0 <|
  fld 1 t0 w fun t5 w =>
  ld1 t5 w fun t6 w =>
  lnS t6 w fun t7 w =>
  K t7 w
theorem prio_Queue_Len_eq (t0 : Value) (w : World) (K : KV) : prio_Queue_Len t0 w K = fnW prog 8 [2] (match fn160.body with | some c => c | none => .skip) #[t0] w K := by kernel_rfl
theorem prio_Queue_Len_ok : fnOk prog 8 [2] (match fn160.body with | some c => c | none => .skip) = true := by kernel_rfl
theorem prio_Queue_Len_calls {t0 : Value} {w : World} {K : KV} (h : prio_Queue_Len t0 w K) : Cl prog 160 #[t0] w K :=
  Cl.mk (by kernel_rfl) (calls_of_F (fn := fn160) (nt := 8) (rs := [2]) mixed fnAt160 (by kernel_rfl) (by kernel_rfl) (by kernel_rfl) (Nat.le_of_ble_eq_true (by kernel_rfl)) prio_Queue_Len_ok (prio_Queue_Len_eq t0 w K) h)

/-- (*paceline/pacelineref03.Queue).Len -/
def pacelineref03_Queue_Len (t0 : Value) (w : World) (K : KV) : Prop :=
  ncP t0 <|
  fld 1 t0 w fun t5 w =>
  ld1 t5 w fun t6 w =>
  lnS t6 w fun t7 w =>
  K t7 w
theorem pacelineref03_Queue_Len_eq (t0 : Value) (w : World) (K : KV) : pacelineref03_Queue_Len t0 w K = fnW prog 8 [2] (match fn161.body with | some c => c | none => .skip) #[t0] w K := by kernel_rfl
theorem pacelineref03_Queue_Len_ok : fnOk prog 8 [2] (match fn161.body with | some c => c | none => .skip) = true := by kernel_rfl
theorem pacelineref03_Queue_Len_calls {t0 : Value} {w : World} {K : KV} (h : pacelineref03_Queue_Len t0 w K) : Cl prog 161 #[t0] w K :=
  Cl.mk (by kernel_rfl) (calls_of_F (fn := fn161) (nt := 8) (rs := [2]) mixed fnAt161 (by kernel_rfl) (by kernel_rfl) (by kernel_rfl) (Nat.le_of_ble_eq_true (by kernel_rfl)) pacelineref03_Queue_Len_ok (pacelineref03_Queue_Len_eq t0 w K) h)

/-- (paceline/prio.faced).Len -/
def prio_faced_Len (t0 : Value) (w : World) (K : KV) : Prop :=
  al (Value.cells t0) 123 w fun t1 w =>
  fld 0 t1 w fun t3 w =>
  ld1 t3 w fun t4 w =>
  ncP t4 <|
  fld 1 t4 w fun t6 w =>
  ld1 t6 w fun t7 w =>
  lnS t7 w fun t8 w =>
  K t8 w
theorem prio_faced_Len_eq (t0 : Value) (w : World) (K : KV) : prio_faced_Len t0 w K = fnW prog 9 [2] (match fn162.body with | some c => c | none => .skip) #[t0] w K := by kernel_rfl
theorem prio_faced_Len_ok : fnOk prog 9 [2] (match fn162.body with | some c => c | none => .skip) = true := by kernel_rfl
theorem prio_faced_Len_calls {t0 : Value} {w : World} {K : KV} (h : prio_faced_Len t0 w K) : Cl prog 162 #[t0] w K :=
  Cl.mk (by kernel_rfl) (calls_of_F (fn := fn162) (nt := 9) (rs := [2]) mixed fnAt162 (by kernel_rfl) (by kernel_rfl) (by kernel_rfl) (Nat.le_of_ble_eq_true (by kernel_rfl)) prio_faced_Len_ok (prio_faced_Len_eq t0 w K) h)

/-- (paceline/prio.faced).Less -/
def prio_faced_Less (t0 t1 t2 : Value) (w : World) (K : KV) : Prop :=
  al (Value.cells t0) 123 w fun t3 w =>
  dr w fun w =>
  fld 0 t3 w fun t7 _ =>
  ld1 t7 w fun t8 _ =>
  ncP t8 <|
  fld 1 t8 w fun t10 _ =>
  ld1 t10 w fun t11 _ =>
  ixS 6 t11 t1 w fun t13 _ =>
  fld 0 t13 w fun t14 _ =>
  ldN 3 t14 w fun t15 _ =>
  fld 0 t3 w fun t16 _ =>
  ld1 t16 w fun t17 _ =>
  ncP t17 <|
  fld 1 t17 w fun t19 _ =>
  ld1 t19 w fun t20 _ =>
  ixS 6 t20 t2 w fun t22 _ =>
  fld 0 t22 w fun t23 _ =>
  ldN 3 t23 w fun t24 _ =>
  Cl prog 84 #[t15, t24] w fun t25 w =>
  bi .lss .i64 t25 (Value.int IntKind.i64 0) w fun t26 _ =>
  K t26 w
theorem prio_faced_Less_eq (t0 t1 t2 : Value) (w : World) (K : KV) : prio_faced_Less t0 t1 t2 w K = fnW prog 27 [6] (match fn163.body with | some c => c | none => .skip) #[t0, t1, t2] w K := by kernel_rfl
theorem prio_faced_Less_ok : fnOk prog 27 [6] (match fn163.body with | some c => c | none => .skip) = true := by kernel_rfl
theorem prio_faced_Less_calls {t0 t1 t2 : Value} {w : World} {K : KV} (h : prio_faced_Less t0 t1 t2 w K) : Cl prog 163 #[t0, t1, t2] w K :=
  Cl.mk (by kernel_rfl) (calls_of_F (fn := fn163) (nt := 27) (rs := [6]) mixed fnAt163 (by kernel_rfl) (by kernel_rfl) (by kernel_rfl) (Nat.le_of_ble_eq_true (by kernel_rfl)) prio_faced_Less_ok (prio_faced_Less_eq t0 t1 t2 w K) h)

/-- (paceline/prio.faced).Pop -/
def prio_faced_Pop (t0 : Value) (w : World) (K : KV) : Prop :=
  al (Value.cells t0) 123 w fun t1 w =>
  fld 0 t1 w fun t5 w =>
  ld1 t5 w fun t6 w =>
  ncP t6 <|
  fld 1 t6 w fun t8 w =>
  ld1 t8 w fun t9 w =>
  lnS t9 w fun t10 w =>
  bi .sub .i64 t10 (Value.int IntKind.i64 1) w fun t11 w =>
  fld 0 t1 w fun t12 w =>
  ld1 t12 w fun t13 w =>
  ncP t13 <|
  fld 1 t13 w fun t15 w =>
  ld1 t15 w fun t16 w =>
  ixS 6 t16 t11 w fun t18 w =>
  ldN 6 t18 w fun t19 w =>
  al (zeroD prog 26) 26 w fun t4 w =>
  stN 6 t4 t19 w fun _ w =>
  dr w fun w =>
  fld 0 t1 w fun t20 _ =>
  ld1 t20 w fun t21 _ =>
  fld 0 t1 w fun t22 _ =>
  ld1 t22 w fun t23 _ =>
  ncP t23 <|
  fld 1 t23 w fun t25 _ =>
  ld1 t25 w fun t26 _ =>
  slc 6 t26 none (some t11) w fun t28 _ =>
  ncP t21 <|
  fld 1 t21 w fun t30 _ =>
  stN 1 t30 t28 w fun _ w =>
  dr w fun w =>
  fld 0 t1 w fun t31 _ =>
  ld1 t31 w fun t32 _ =>
  ncP t32 <|
  fld 2 t32 w fun t34 _ =>
  ld1 t34 w fun t35 _ =>
  fld 0 t4 w fun t36 _ =>
  ldN 3 t36 w fun t37 _ =>
  dlM prog #[108, 24] 0 t35 t37 w fun _ w =>
  ldN 6 t4 w fun t38 w =>
  K (Value.iface 26 t38) w
theorem prio_faced_Pop_eq (t0 : Value) (w : World) (K : KV) : prio_faced_Pop t0 w K = fnW prog 40 [2] (match fn164.body with | some c => c | none => .skip) #[t0] w K := by kernel_rfl
theorem prio_faced_Pop_ok : fnOk prog 40 [2] (match fn164.body with | some c => c | none => .skip) = true := by kernel_rfl
theorem prio_faced_Pop_calls {t0 : Value} {w : World} {K : KV} (h : prio_faced_Pop t0 w K) : Cl prog 164 #[t0] w K :=
  Cl.mk (by kernel_rfl) (calls_of_F (fn := fn164) (nt := 40) (rs := [2]) mixed fnAt164 (by kernel_rfl) (by kernel_rfl) (by kernel_rfl) (Nat.le_of_ble_eq_true (by kernel_rfl)) prio_faced_Pop_ok (prio_faced_Pop_eq t0 w K) h)

/-- (paceline/prio.faced).Push -/
def prio_faced_Push (t0 t1 : Value) (w : World) (K : KV) : Prop :=
  al (Value.cells t0) 123 w fun t2 w =>
  tyA prog t1 20 26 false w fun t6 w =>
  al (zeroD prog 26) 26 w fun t4 w =>
  stN 6 t4 t6 w fun _ w =>
  dr w fun w =>
  fld 0 t2 w fun t7 _ =>
  ld1 t7 w fun t8 _ =>
  ncP t8 <|
  fld 2 t8 w fun t10 _ =>
  ld1 t10 w fun t11 _ =>
  fld 0 t4 w fun t12 _ =>
  ldN 3 t12 w fun t13 _ =>
  fld 0 t2 w fun t14 _ =>
  ld1 t14 w fun t15 _ =>
  ncP t15 <|
  fld 1 t15 w fun t17 _ =>
  ld1 t17 w fun t18 _ =>
  lnS t18 w fun t19 _ =>
  upM prog 108 t11 t13 t19 w fun _ w =>
  dr w fun w =>
  fld 0 t2 w fun t20 _ =>
  ld1 t20 w fun t21 _ =>
  fld 0 t2 w fun t22 _ =>
  ld1 t22 w fun t23 _ =>
  ncP t23 <|
  fld 1 t23 w fun t25 _ =>
  ld1 t25 w fun t26 _ =>
  ldN 6 t4 w fun t27 _ =>
  bsl 26 6 1 (zeroD prog 26) [(0, t27)] w fun t28 w =>
  (ld1 t25 w (fun v' w'' => v' = t26 ∧ w'' = w)) ∧ ((ld1 t22 w (fun v' w'' => v' = t23 ∧ w'' = w)) ∧ ((ld1 t20 w (fun v' w'' => v' = t21 ∧ w'' = w)) ∧ (apS prog #[47, 47] 47 t26 t28 w fun t29 w =>
  (ld1 t20 w (fun v' w'' => v' = t21 ∧ w'' = w)) ∧ (ncP t21 <|
  fld 1 t21 w fun t31 _ =>
  stN 1 t31 t29 w fun _ w =>
  K (Value.tuple #[]) w))))
theorem prio_faced_Push_eq (t0 t1 : Value) (w : World) (K : KV) : prio_faced_Push t0 t1 w K = fnW prog 32 [] (match fn165.body with | some c => c | none => .skip) #[t0, t1] w K := by kernel_rfl
theorem prio_faced_Push_ok : fnOk prog 32 [] (match fn165.body with | some c => c | none => .skip) = true := by kernel_rfl
theorem prio_faced_Push_calls {t0 t1 : Value} {w : World} {K : KV} (h : prio_faced_Push t0 t1 w K) : Cl prog 165 #[t0, t1] w K :=
  Cl.mk (by kernel_rfl) (calls_of_F (fn := fn165) (nt := 32) (rs := []) mixed fnAt165 (by kernel_rfl) (by kernel_rfl) (by kernel_rfl) (Nat.le_of_ble_eq_true (by kernel_rfl)) prio_faced_Push_ok (prio_faced_Push_eq t0 t1 w K) h)

/-- (paceline/prio.faced).Swap -/
def prio_faced_Swap (t0 t1 t2 : Value) (w : World) (K : KV) : Prop :=
  al (Value.cells t0) 123 w fun t3 w =>
  dr w fun w =>
  fld 0 t3 w fun t6 _ =>
  ld1 t6 w fun t7 _ =>
  ncP t7 <|
  fld 1 t7 w fun t9 _ =>
  ld1 t9 w fun t10 _ =>
  fld 0 t3 w fun t12 _ =>
  ld1 t12 w fun t13 _ =>
  ncP t13 <|
  fld 1 t13 w fun t15 _ =>
  ld1 t15 w fun t16 _ =>
  fld 0 t3 w fun t18 _ =>
  ld1 t18 w fun t19 _ =>
  ncP t19 <|
  fld 1 t19 w fun t21 _ =>
  ld1 t21 w fun t22 _ =>
  ixS 6 t22 t2 w fun t24 _ =>
  ldN 6 t24 w fun t25 _ =>
  fld 0 t3 w fun t26 _ =>
  ld1 t26 w fun t27 _ =>
  ncP t27 <|
  fld 1 t27 w fun t29 _ =>
  ld1 t29 w fun t30 _ =>
  ixS 6 t30 t1 w fun t32 _ =>
  ldN 6 t32 w fun t33 _ =>
  ixS 6 t10 t1 w fun t34 _ =>
  stN 6 t34 t25 w fun _ w =>
  ixS 6 t16 t2 w fun t35 _ =>
  stN 6 t35 t33 w fun _ w =>
  dr w fun w =>
  fld 0 t3 w fun t36 _ =>
  ld1 t36 w fun t37 _ =>
  ncP t37 <|
  fld 2 t37 w fun t39 _ =>
  ld1 t39 w fun t40 _ =>
  fld 0 t3 w fun t41 _ =>
  ld1 t41 w fun t42 _ =>
  ncP t42 <|
  fld 1 t42 w fun t44 _ =>
  ld1 t44 w fun t45 _ =>
  ixS 6 t45 t1 w fun t47 _ =>
  fld 0 t47 w fun t48 _ =>
  ldN 3 t48 w fun t49 _ =>
  fld 0 t3 w fun t50 _ =>
  ld1 t50 w fun t51 _ =>
  ncP t51 <|
  fld 2 t51 w fun t53 _ =>
  ld1 t53 w fun t54 _ =>
  fld 0 t3 w fun t55 _ =>
  ld1 t55 w fun t56 _ =>
  ncP t56 <|
  fld 1 t56 w fun t58 _ =>
  ld1 t58 w fun t59 _ =>
  ixS 6 t59 t2 w fun t61 _ =>
  fld 0 t61 w fun t62 _ =>
  ldN 3 t62 w fun t63 _ =>
  meM prog 108 t40 t49 w fun t66 w =>
  xt 1 t66 w fun t67 _ =>
  esM prog 108 t40 t67 t1 w fun _ w =>
  meM prog 108 t54 t63 w fun t68 w =>
  xt 1 t68 w fun t69 _ =>
  esM prog 108 t54 t69 t2 w fun _ w =>
  K (Value.tuple #[]) w
theorem prio_faced_Swap_eq (t0 t1 t2 : Value) (w : World) (K : KV) : prio_faced_Swap t0 t1 t2 w K = fnW prog 70 [] (match fn166.body with | some c => c | none => .skip) #[t0, t1, t2] w K := by kernel_rfl
theorem prio_faced_Swap_ok : fnOk prog 70 [] (match fn166.body with | some c => c | none => .skip) = true := by kernel_rfl
theorem prio_faced_Swap_calls {t0 t1 t2 : Value} {w : World} {K : KV} (h : prio_faced_Swap t0 t1 t2 w K) : Cl prog 166 #[t0, t1, t2] w K :=
  Cl.mk (by kernel_rfl) (calls_of_F (fn := fn166) (nt := 70) (rs := []) mixed fnAt166 (by kernel_rfl) (by kernel_rfl) (by kernel_rfl) (Nat.le_of_ble_eq_true (by kernel_rfl)) prio_faced_Swap_ok (prio_faced_Swap_eq t0 t1 t2 w K) h)

end Go.Proofs.YtenglfaeohgkfaaGreat
