/- Printed by prt.py: the Go functions of this seat as shallow predicate transformers. Conditions: none. -/
import Derived.Test.YtdiglafiimnfoaaEngO
import Derived.Test.YtdiglafiimnfoaaPfHead
import Derived.KernelRfl
namespace Go.Proofs.Ytdiglafiimnfoaa
open Go Go.E
set_option linter.unusedVariables false
set_option maxRecDepth 100000
/-- (*paceline/pacelineref10.Net).Carried -/
def pacelineref10_Net_Carried (t0 t1 : Value) (w : World) (K : KV) : Prop :=
  lp [(Value.int IntKind.i64 0), (Value.int IntKind.i64 0)] w (b2 fun t5 t6 w g1 =>
  ncP t0 <|
  fld 2 t0 w fun t11 w =>
  ld1 t11 w fun t12 w =>
  lnS t12 w fun t13 w =>
  bi .lss .i64 t6 t13 w fun t14 w =>
  iff' t14
  (lp [t5, (Value.int IntKind.i64 0)] w (b2 fun t5_1 t7 w g2 =>
  ncP t0 <|
  fld 2 t0 w fun t20 w =>
  ld1 t20 w fun t21 w =>
  ixS 1 t21 t6 w fun t23 w =>
  ld1 t23 w fun t24 w =>
  lnS t24 w fun t25 w =>
  bi .lss .i64 t7 t25 w fun t26 w =>
  iff' t26
  (J1 (fun t5_2 w =>
  bi .add .i64 t7 (Value.int IntKind.i64 1) w fun t28 w =>
  g2 [t5_2, t28] w) fun k3 =>
  ncP t0 <|
  fld 2 t0 w fun t31 w =>
  ld1 t31 w fun t32 w =>
  ixS 1 t32 t6 w fun t34 w =>
  ld1 t34 w fun t35 w =>
  ixS 8 t35 t7 w fun t37 w =>
  fld 0 t37 w fun t38 w =>
  ld1 t38 w fun t39 w =>
  bi .neq .i64 t39 (Value.int IntKind.i64 2) w fun t40 w =>
  gd t40 true (fun k => k t0 w) w fun t42 w =>
  gd t40 true (fun k => nc t42 w k) w fun t43 w =>
  gd t40 true (fun k => fld 2 t43 w k) w fun t44 w =>
  gd t40 true (fun k => ld1 t44 w k) w fun t45 w =>
  gd t40 true (fun k => k t6 w) w fun t46 w =>
  gd t40 true (fun k => ixS 1 t45 t46 w k) w fun t47 w =>
  gd t40 true (fun k => ld1 t47 w k) w fun t48 w =>
  gd t40 true (fun k => k t7 w) w fun t49 w =>
  gd t40 true (fun k => ixS 8 t48 t49 w k) w fun t50 w =>
  gd t40 true (fun k => fld 7 t50 w k) w fun t51 w =>
  gd t40 true (fun k => ld1 t51 w k) w fun t52 w =>
  gd t40 true (fun k => k t1 w) w fun t53 w =>
  gd t40 true (fun k => bi .eql .i64 t52 t53 w k) w fun t54 w =>
  pk t40 t54 (Value.bool false) w fun t55 w =>
  iff' t55
  (bi .add .i64 t5_1 (Value.int IntKind.i64 1) w fun t57 w =>
  k3 t57 w)
  (k3 t5_1 w))
  (bi .add .i64 t6 (Value.int IntKind.i64 1) w fun t16 w =>
  g1 [t5_1, t16] w)))
  (K t5 w))
theorem pacelineref10_Net_Carried_eq (t0 t1 : Value) (w : World) (K : KV) : pacelineref10_Net_Carried t0 t1 w K = fnW prog 59 [4] (match fn48.body with | some c => c | none => .skip) #[t0, t1] w K := by kernel_rfl
theorem pacelineref10_Net_Carried_ok : fnOk prog 59 [4] (match fn48.body with | some c => c | none => .skip) = true := by kernel_rfl
theorem pacelineref10_Net_Carried_calls {t0 t1 : Value} {w : World} {K : KV} (h : pacelineref10_Net_Carried t0 t1 w K) : Cl prog 48 #[t0, t1] w K :=
  ⟨by kernel_rfl, calls_of_F (fn := fn48) (nt := 59) (rs := [4]) mixed fnAt48 (by kernel_rfl) (by kernel_rfl) (by kernel_rfl) (Nat.le_of_ble_eq_true (by kernel_rfl)) pacelineref10_Net_Carried_ok (pacelineref10_Net_Carried_eq t0 t1 w K) h⟩

/-- (*paceline/pacelineref10.Net).Least -/
def pacelineref10_Net_Least (t0 : Value) (w : World) (K : KV) : Prop :=
  bsl 3 1 0 #[] [] w fun t6 w =>
  lp [t6, (Value.int IntKind.i64 0)] w (b2 fun t3 t4 w g1 =>
  ncP t0 <|
  fld 2 t0 w fun t10 w =>
  ld1 t10 w fun t11 w =>
  lnS t11 w fun t12 w =>
  bi .lss .i64 t4 t12 w fun t13 w =>
  iff' t13
  (lp [t3, (Value.int IntKind.i64 0)] w (b2 fun t3_1 t5 w g2 =>
  ncP t0 <|
  fld 2 t0 w fun t19 w =>
  ld1 t19 w fun t20 w =>
  ixS 1 t20 t4 w fun t22 w =>
  ld1 t22 w fun t23 w =>
  lnS t23 w fun t24 w =>
  bi .lss .i64 t5 t24 w fun t25 w =>
  iff' t25
  (J1 (fun t3_2 w =>
  bi .add .i64 t5 (Value.int IntKind.i64 1) w fun t27 w =>
  g2 [t3_2, t27] w) fun k3 =>
  ncP t0 <|
  fld 2 t0 w fun t30 w =>
  ld1 t30 w fun t31 w =>
  ixS 1 t31 t4 w fun t33 w =>
  ld1 t33 w fun t34 w =>
  ixS 8 t34 t5 w fun t36 w =>
  fld 0 t36 w fun t37 w =>
  ld1 t37 w fun t38 w =>
  bi .neq .i64 t38 (Value.int IntKind.i64 2) w fun t39 w =>
  iff' t39
  (ncP t0 <|
  fld 2 t0 w fun t43 w =>
  ld1 t43 w fun t44 w =>
  ixS 1 t44 t4 w fun t46 w =>
  ld1 t46 w fun t47 w =>
  ixS 8 t47 t5 w fun t49 w =>
  fld 1 t49 w fun t50 w =>
  fld 0 t50 w fun t51 w =>
  fld 0 t51 w fun t52 w =>
  ld1 t52 w fun t53 w =>
  bsl 3 1 1 (zeroD prog 3) [(0, t53)] w fun t54 w =>
  apS prog #[38, 38] 38 t3_1 t54 w fun t55 w =>
  k3 t55 w)
  (k3 t3_1 w))
  (bi .add .i64 t4 (Value.int IntKind.i64 1) w fun t15 w =>
  g1 [t3_1, t15] w)))
  (Cl prog 87 #[t3] w fun t57 w =>
  K t57 w))
theorem pacelineref10_Net_Least_eq (t0 : Value) (w : World) (K : KV) : pacelineref10_Net_Least t0 w K = fnW prog 58 [2] (match fn49.body with | some c => c | none => .skip) #[t0] w K := by kernel_rfl
theorem pacelineref10_Net_Least_ok : fnOk prog 58 [2] (match fn49.body with | some c => c | none => .skip) = true := by kernel_rfl
theorem pacelineref10_Net_Least_calls {t0 : Value} {w : World} {K : KV} (h : pacelineref10_Net_Least t0 w K) : Cl prog 49 #[t0] w K :=
  ⟨by kernel_rfl, calls_of_F (fn := fn49) (nt := 58) (rs := [2]) mixed fnAt49 (by kernel_rfl) (by kernel_rfl) (by kernel_rfl) (Nat.le_of_ble_eq_true (by kernel_rfl)) pacelineref10_Net_Least_ok (pacelineref10_Net_Least_eq t0 w K) h⟩

/-- paceline/prio.New -/
def prio_New (t0 : Value) (w : World) (K : KV) : Prop :=
  mnI .i64 t0 (Value.int IntKind.i64 64) w fun t4 w =>
  mxI .i64 (Value.int IntKind.i64 0) t4 w fun t5 w =>
  mkMap w fun t6 w =>
  bld (zeroD prog 142) #[(0, 1), (1, 1), (2, 1)] [(0, t5), (2, t6)] w fun t7 w =>
  al (Value.cells t7) 142 w fun t8 w =>
  K t8 w
theorem prio_New_eq (t0 : Value) (w : World) (K : KV) : prio_New t0 w K = fnW prog 9 [2] (match fn50.body with | some c => c | none => .skip) #[t0] w K := by kernel_rfl
theorem prio_New_ok : fnOk prog 9 [2] (match fn50.body with | some c => c | none => .skip) = true := by kernel_rfl
theorem prio_New_calls {t0 : Value} {w : World} {K : KV} (h : prio_New t0 w K) : Cl prog 50 #[t0] w K :=
  ⟨by kernel_rfl, calls_of_F (fn := fn50) (nt := 9) (rs := [2]) mixed fnAt50 (by kernel_rfl) (by kernel_rfl) (by kernel_rfl) (Nat.le_of_ble_eq_true (by kernel_rfl)) prio_New_ok (prio_New_eq t0 w K) h⟩

/-- paceline/pacelineref03.New -/
def pacelineref03_New (t0 : Value) (w : World) (K : KV) : Prop :=
  mnI .i64 t0 (Value.int IntKind.i64 64) w fun t4 w =>
  mxI .i64 (Value.int IntKind.i64 0) t4 w fun t5 w =>
  bld (zeroD prog 144) #[(0, 1), (1, 1)] [(0, t5)] w fun t6 w =>
  al (Value.cells t6) 144 w fun t7 w =>
  K t7 w
theorem pacelineref03_New_eq (t0 : Value) (w : World) (K : KV) : pacelineref03_New t0 w K = fnW prog 8 [2] (match fn51.body with | some c => c | none => .skip) #[t0] w K := by kernel_rfl
theorem pacelineref03_New_ok : fnOk prog 8 [2] (match fn51.body with | some c => c | none => .skip) = true := by kernel_rfl
theorem pacelineref03_New_calls {t0 : Value} {w : World} {K : KV} (h : pacelineref03_New t0 w K) : Cl prog 51 #[t0] w K :=
  ⟨by kernel_rfl, calls_of_F (fn := fn51) (nt := 8) (rs := [2]) mixed fnAt51 (by kernel_rfl) (by kernel_rfl) (by kernel_rfl) (Nat.le_of_ble_eq_true (by kernel_rfl)) pacelineref03_New_ok (pacelineref03_New_eq t0 w K) h⟩

/-- (*paceline/prio.Queue).Push -/
def prio_Queue_Push (t0 t1 : Value) (w : World) (K : KV) : Prop :=
  al (Value.cells t1) 63 w fun t3 w =>
  dr w fun w =>
  ncP t0 <|
  fld 2 t0 w fun t10 _ =>
  ld1 t10 w fun t11 _ =>
  fld 0 t3 w fun t12 _ =>
  ldN 3 t12 w fun t13 _ =>
  lkM prog 140 t11 t13 true w fun t14 w =>
  xt 0 t14 w fun _ _ =>
  xt 1 t14 w fun t16 _ =>
  iff' t16
  (K (Value.int IntKind.i64 3) w)
  (dr w fun w =>
  ncP t0 <|
  fld 1 t0 w fun t20 _ =>
  ld1 t20 w fun t21 _ =>
  lnS t21 w fun t22 _ =>
  ncP t0 <|
  fld 0 t0 w fun t25 _ =>
  ld1 t25 w fun t26 _ =>
  bi .geq .i64 t22 t26 w fun t27 _ =>
  iff' t27
  (K (Value.int IntKind.i64 2) w)
  (bld (zeroD prog 148) #[(0, 1)] [(0, t0)] w fun t29 w =>
  ldN 6 t3 w fun t31 w =>
  Cl prog 88 #[(Value.iface 148 t29), (Value.iface 63 t31)] w fun _ w =>
  K (Value.int IntKind.i64 0) w))
theorem prio_Queue_Push_eq (t0 t1 : Value) (w : World) (K : KV) : prio_Queue_Push t0 t1 w K = fnW prog 34 [4] (match fn52.body with | some c => c | none => .skip) #[t0, t1] w K := by kernel_rfl
theorem prio_Queue_Push_ok : fnOk prog 34 [4] (match fn52.body with | some c => c | none => .skip) = true := by kernel_rfl
theorem prio_Queue_Push_calls {t0 t1 : Value} {w : World} {K : KV} (h : prio_Queue_Push t0 t1 w K) : Cl prog 52 #[t0, t1] w K :=
  ⟨by kernel_rfl, calls_of_F (fn := fn52) (nt := 34) (rs := [4]) mixed fnAt52 (by kernel_rfl) (by kernel_rfl) (by kernel_rfl) (Nat.le_of_ble_eq_true (by kernel_rfl)) prio_Queue_Push_ok (prio_Queue_Push_eq t0 t1 w K) h⟩

/-- (*paceline/pacelineref03.Queue).Push -/
def pacelineref03_Queue_Push (t0 t1 : Value) (w : World) (K : KV) : Prop :=
  al (Value.cells t1) 63 w fun t3 w =>
  fld 0 t3 w fun t6 w =>
  ldN 3 t6 w fun t7 w =>
  Cl prog 89 #[t0, t7] w fun t8 w =>
  bi .geq .i64 t8 (Value.int IntKind.i64 0) w fun t9 w =>
  iff' t9
  (K (Value.int IntKind.i64 3) w)
  (dr w fun w =>
  ncP t0 <|
  fld 1 t0 w fun t12 _ =>
  ld1 t12 w fun t13 _ =>
  lnS t13 w fun t14 _ =>
  ncP t0 <|
  fld 0 t0 w fun t17 _ =>
  ld1 t17 w fun t18 _ =>
  bi .geq .i64 t14 t18 w fun t19 _ =>
  iff' t19
  (K (Value.int IntKind.i64 2) w)
  (dr w fun w =>
  ncP t0 <|
  fld 1 t0 w fun t23 _ =>
  ld1 t23 w fun t24 _ =>
  ldN 6 t3 w fun t25 _ =>
  Cl prog 90 #[t24, t25] w fun t26 w =>
  ncP t0 <|
  fld 1 t0 w fun t28 _ =>
  stN 1 t28 t26 w fun _ w =>
  K (Value.int IntKind.i64 0) w))
theorem pacelineref03_Queue_Push_eq (t0 t1 : Value) (w : World) (K : KV) : pacelineref03_Queue_Push t0 t1 w K = fnW prog 29 [4] (match fn53.body with | some c => c | none => .skip) #[t0, t1] w K := by kernel_rfl
theorem pacelineref03_Queue_Push_ok : fnOk prog 29 [4] (match fn53.body with | some c => c | none => .skip) = true := by kernel_rfl
theorem pacelineref03_Queue_Push_calls {t0 t1 : Value} {w : World} {K : KV} (h : pacelineref03_Queue_Push t0 t1 w K) : Cl prog 53 #[t0, t1] w K :=
  ⟨by kernel_rfl, calls_of_F (fn := fn53) (nt := 29) (rs := [4]) mixed fnAt53 (by kernel_rfl) (by kernel_rfl) (by kernel_rfl) (Nat.le_of_ble_eq_true (by kernel_rfl)) pacelineref03_Queue_Push_ok (pacelineref03_Queue_Push_eq t0 t1 w K) h⟩

end Go.Proofs.Ytdiglafiimnfoaa
