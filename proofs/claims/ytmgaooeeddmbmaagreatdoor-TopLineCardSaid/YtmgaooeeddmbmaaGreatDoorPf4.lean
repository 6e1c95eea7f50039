/- Printed by prt.py: the Go functions of this seat as shallow predicate transformers. Conditions: none. -/
import Derived.Test.YtmgaooeeddmbmaaGreatDoorEngO
import Derived.Test.YtmgaooeeddmbmaaGreatDoorPfHead
import Derived.KernelRfl
namespace Go.Proofs.YtmgaooeeddmbmaaGreatDoor
open Go Go.E
set_option linter.unusedVariables false
set_option maxRecDepth 100000
/-- (paceline/prio.faced).Push -/
def prio_faced_Push (t0 t1 : Value) (w : World) (K : KV) : Prop :=
  al (Value.cells t0) 106 w fun t2 w =>
  tyA prog t1 20 42 false w fun t6 w =>
  al (zeroD prog 42) 42 w fun t4 w =>
  stN 6 t4 t6 w fun _ w =>
  dr w fun w =>
  fld 0 t2 w fun t7 _ =>
  ld1 t7 w fun t8 _ =>
  ncP t8 <|
  fld 2 t8 w fun t10 _ =>
  ld1 t10 w fun t11 _ =>
  fld 0 t4 w fun t12 _ =>
  ldN 3 t12 w fun t13 _ =>
  fld 0 t2 w fun t14 _ =>
  ld1 t14 w fun t15 _ =>
  ncP t15 <|
  fld 1 t15 w fun t17 _ =>
  ld1 t17 w fun t18 _ =>
  lnS t18 w fun t19 _ =>
  upM prog 84 t11 t13 t19 w fun _ w =>
  dr w fun w =>
  fld 0 t2 w fun t20 _ =>
  ld1 t20 w fun t21 _ =>
  fld 0 t2 w fun t22 _ =>
  ld1 t22 w fun t23 _ =>
  ncP t23 <|
  fld 1 t23 w fun t25 _ =>
  ld1 t25 w fun t26 _ =>
  ldN 6 t4 w fun t27 _ =>
  bsl 42 6 1 (zeroD prog 42) [(0, t27)] w fun t28 w =>
  (ld1 t25 w (fun v' w'' => v' = t26 ∧ w'' = w)) ∧ ((ld1 t22 w (fun v' w'' => v' = t23 ∧ w'' = w)) ∧ ((ld1 t20 w (fun v' w'' => v' = t21 ∧ w'' = w)) ∧ (apS prog #[34, 34] 34 t26 t28 w fun t29 w =>
  (ld1 t20 w (fun v' w'' => v' = t21 ∧ w'' = w)) ∧ (ncP t21 <|
  fld 1 t21 w fun t31 _ =>
  stN 1 t31 t29 w fun _ w =>
  K (Value.tuple #[]) w))))
theorem prio_faced_Push_eq (t0 t1 : Value) (w : World) (K : KV) : prio_faced_Push t0 t1 w K = fnW prog 32 [] (match fn115.body with | some c => c | none => .skip) #[t0, t1] w K := by kernel_rfl
theorem prio_faced_Push_ok : fnOk prog 32 [] (match fn115.body with | some c => c | none => .skip) = true := by kernel_rfl
theorem prio_faced_Push_calls {t0 t1 : Value} {w : World} {K : KV} (h : prio_faced_Push t0 t1 w K) : Cl prog 115 #[t0, t1] w K :=
  Cl.mk (by kernel_rfl) (calls_of_F (fn := fn115) (nt := 32) (rs := []) mixed fnAt115 (by kernel_rfl) (by kernel_rfl) (by kernel_rfl) (Nat.le_of_ble_eq_true (by kernel_rfl)) prio_faced_Push_ok (prio_faced_Push_eq t0 t1 w K) h)

/-- (paceline/prio.faced).Swap -/
def prio_faced_Swap (t0 t1 t2 : Value) (w : World) (K : KV) : Prop :=
  al (Value.cells t0) 106 w fun t3 w =>
  dr w fun w =>
  fld 0 t3 w fun t6 _ =>
  ld1 t6 w fun t7 _ =>
  ncP t7 <|
  fld 1 t7 w fun t9 _ =>
  ld1 t9 w fun t10 _ =>
  fld 0 t3 w fun t12 _ =>
  ld1 t12 w fun t13 _ =>
  ncP t13 <|
  fld 1 t13 w fun t15 _ =>
  ld1 t15 w fun t16 _ =>
  fld 0 t3 w fun t18 _ =>
  ld1 t18 w fun t19 _ =>
  ncP t19 <|
  fld 1 t19 w fun t21 _ =>
  ld1 t21 w fun t22 _ =>
  ixS 6 t22 t2 w fun t24 _ =>
  ldN 6 t24 w fun t25 _ =>
  fld 0 t3 w fun t26 _ =>
  ld1 t26 w fun t27 _ =>
  ncP t27 <|
  fld 1 t27 w fun t29 _ =>
  ld1 t29 w fun t30 _ =>
  ixS 6 t30 t1 w fun t32 _ =>
  ldN 6 t32 w fun t33 _ =>
  ixS 6 t10 t1 w fun t34 _ =>
  stN 6 t34 t25 w fun _ w =>
  ixS 6 t16 t2 w fun t35 _ =>
  stN 6 t35 t33 w fun _ w =>
  dr w fun w =>
  fld 0 t3 w fun t36 _ =>
  ld1 t36 w fun t37 _ =>
  ncP t37 <|
  fld 2 t37 w fun t39 _ =>
  ld1 t39 w fun t40 _ =>
  fld 0 t3 w fun t41 _ =>
  ld1 t41 w fun t42 _ =>
  ncP t42 <|
  fld 1 t42 w fun t44 _ =>
  ld1 t44 w fun t45 _ =>
  ixS 6 t45 t1 w fun t47 _ =>
  fld 0 t47 w fun t48 _ =>
  ldN 3 t48 w fun t49 _ =>
  fld 0 t3 w fun t50 _ =>
  ld1 t50 w fun t51 _ =>
  ncP t51 <|
  fld 2 t51 w fun t53 _ =>
  ld1 t53 w fun t54 _ =>
  fld 0 t3 w fun t55 _ =>
  ld1 t55 w fun t56 _ =>
  ncP t56 <|
  fld 1 t56 w fun t58 _ =>
  ld1 t58 w fun t59 _ =>
  ixS 6 t59 t2 w fun t61 _ =>
  fld 0 t61 w fun t62 _ =>
  ldN 3 t62 w fun t63 _ =>
  meM prog 84 t40 t49 w fun t66 w =>
  xt 1 t66 w fun t67 _ =>
  esM prog 84 t40 t67 t1 w fun _ w =>
  meM prog 84 t54 t63 w fun t68 w =>
  xt 1 t68 w fun t69 _ =>
  esM prog 84 t54 t69 t2 w fun _ w =>
  K (Value.tuple #[]) w
theorem prio_faced_Swap_eq (t0 t1 t2 : Value) (w : World) (K : KV) : prio_faced_Swap t0 t1 t2 w K = fnW prog 70 [] (match fn116.body with | some c => c | none => .skip) #[t0, t1, t2] w K := by kernel_rfl
theorem prio_faced_Swap_ok : fnOk prog 70 [] (match fn116.body with | some c => c | none => .skip) = true := by kernel_rfl
theorem prio_faced_Swap_calls {t0 t1 t2 : Value} {w : World} {K : KV} (h : prio_faced_Swap t0 t1 t2 w K) : Cl prog 116 #[t0, t1, t2] w K :=
  Cl.mk (by kernel_rfl) (calls_of_F (fn := fn116) (nt := 70) (rs := []) mixed fnAt116 (by kernel_rfl) (by kernel_rfl) (by kernel_rfl) (Nat.le_of_ble_eq_true (by kernel_rfl)) prio_faced_Swap_ok (prio_faced_Swap_eq t0 t1 t2 w K) h)

end Go.Proofs.YtmgaooeeddmbmaaGreatDoor
