/- Printed by prt.py: the Go functions of this seat as shallow predicate transformers. Conditions: none. -/
import Derived.Test.YtcocbmbadigjbaaEngO
import Derived.Test.YtcocbmbadigjbaaEngY
import Derived.Test.YtcocbmbadigjbaaPfHead
import Derived.KernelRfl
namespace Go.Proofs.Ytcocbmbadigjbaa
open Go Go.E
set_option linter.unusedVariables false
set_option maxRecDepth 100000
/-- (*paceline/pacelineref10.Net).All -/
def pacelineref10_Net_All (t0 : Value) (w : World) (K : KV) : Prop :=
  lp [(Value.int IntKind.i64 0), (Value.int IntKind.i64 0)] w (b2 fun t3 t4 w g1 =>
  ncP t0 <|
  fld 2 t0 w fun t8 w =>
  ld1 t8 w fun t9 w =>
  lnS t9 w fun t10 w =>
  bi .lss .i64 t4 t10 w fun t11 w =>
  iff' t11
  (ncP t0 <|
  fld 2 t0 w fun t17 w =>
  ld1 t17 w fun t18 w =>
  ixS 1 t18 t4 w fun t20 w =>
  ld1 t20 w fun t21 w =>
  lnS t21 w fun t22 w =>
  bi .add .i64 t3 t22 w fun t23 w =>
  bi .add .i64 t4 (Value.int IntKind.i64 1) w fun t13 w =>
  g1 [t23, t13] w)
  (K t3 w))
theorem pacelineref10_Net_All_eq (t0 : Value) (w : World) (K : KV) : pacelineref10_Net_All t0 w K = fnW prog 25 [2] (match fn21.body with | some c => c | none => .skip) #[t0] w K := by kernel_rfl
theorem pacelineref10_Net_All_ok : fnOk prog 25 [2] (match fn21.body with | some c => c | none => .skip) = true := by kernel_rfl
theorem pacelineref10_Net_All_calls {t0 : Value} {w : World} {K : KV} (h : pacelineref10_Net_All t0 w K) : Cl prog 21 #[t0] w K :=
  Cl.mk (by kernel_rfl) (calls_of_F (fn := fn21) (nt := 25) (rs := [2]) mixed fnAt21 (by kernel_rfl) (by kernel_rfl) (by kernel_rfl) (Nat.le_of_ble_eq_true (by kernel_rfl)) pacelineref10_Net_All_ok (pacelineref10_Net_All_eq t0 w K) h)

/-- (*paceline/pacelineref10.Net).Carried -/
def pacelineref10_Net_Carried (t0 t1 : Value) (w : World) (K : KV) : Prop :=
  lp [(Value.int IntKind.i64 0), (Value.int IntKind.i64 0)] w (b2 fun t5 t6 w g1 =>
  ncP t0 <|
  fld 2 t0 w fun t11 w =>
  ld1 t11 w fun t12 w =>
  lnS t12 w fun t13 w =>
  bi .lss .i64 t6 t13 w fun t14 w =>
  iff' t14
  (lp [t5, (Value.int IntKind.i64 0)] w (b2 fun t5_1 t7 w g2 =>
  ncP t0 <|
  fld 2 t0 w fun t20 w =>
  ld1 t20 w fun t21 w =>
  ixS 1 t21 t6 w fun t23 w =>
  ld1 t23 w fun t24 w =>
  lnS t24 w fun t25 w =>
  bi .lss .i64 t7 t25 w fun t26 w =>
  iff' t26
  (J1 (fun t5_2 w =>
  bi .add .i64 t7 (Value.int IntKind.i64 1) w fun t28 w =>
  g2 [t5_2, t28] w) fun k3 =>
  ncP t0 <|
  fld 2 t0 w fun t31 w =>
  ld1 t31 w fun t32 w =>
  ixS 1 t32 t6 w fun t34 w =>
  ld1 t34 w fun t35 w =>
  ixS 8 t35 t7 w fun t37 w =>
  fld 0 t37 w fun t38 w =>
  ld1 t38 w fun t39 w =>
  bi .neq .i64 t39 (Value.int IntKind.i64 2) w fun t40 w =>
  gd t40 true (fun k => k t0 w) w fun t42 w =>
  gd t40 true (fun k => nc t42 w k) w fun t43 w =>
  gd t40 true (fun k => fld 2 t43 w k) w fun t44 w =>
  gd t40 true (fun k => ld1 t44 w k) w fun t45 w =>
  gd t40 true (fun k => k t6 w) w fun t46 w =>
  gd t40 true (fun k => ixS 1 t45 t46 w k) w fun t47 w =>
  gd t40 true (fun k => ld1 t47 w k) w fun t48 w =>
  gd t40 true (fun k => k t7 w) w fun t49 w =>
  gd t40 true (fun k => ixS 8 t48 t49 w k) w fun t50 w =>
  gd t40 true (fun k => fld 7 t50 w k) w fun t51 w =>
  gd t40 true (fun k => ld1 t51 w k) w fun t52 w =>
  gd t40 true (fun k => k t1 w) w fun t53 w =>
  gd t40 true (fun k => bi .eql .i64 t52 t53 w k) w fun t54 w =>
  pk t40 t54 (Value.bool false) w fun t55 w =>
  iff' t55
  (bi .add .i64 t5_1 (Value.int IntKind.i64 1) w fun t57 w =>
  k3 t57 w)
  (k3 t5_1 w))
  (bi .add .i64 t6 (Value.int IntKind.i64 1) w fun t16 w =>
  g1 [t5_1, t16] w)))
  (K t5 w))
theorem pacelineref10_Net_Carried_eq (t0 t1 : Value) (w : World) (K : KV) : pacelineref10_Net_Carried t0 t1 w K = fnW prog 59 [4] (match fn22.body with | some c => c | none => .skip) #[t0, t1] w K := by kernel_rfl
theorem pacelineref10_Net_Carried_ok : fnOk prog 59 [4] (match fn22.body with | some c => c | none => .skip) = true := by kernel_rfl
theorem pacelineref10_Net_Carried_calls {t0 t1 : Value} {w : World} {K : KV} (h : pacelineref10_Net_Carried t0 t1 w K) : Cl prog 22 #[t0, t1] w K :=
  Cl.mk (by kernel_rfl) (calls_of_F (fn := fn22) (nt := 59) (rs := [4]) mixed fnAt22 (by kernel_rfl) (by kernel_rfl) (by kernel_rfl) (Nat.le_of_ble_eq_true (by kernel_rfl)) pacelineref10_Net_Carried_ok (pacelineref10_Net_Carried_eq t0 t1 w K) h)

/-- (*paceline/pacelineref10.Net).Least -/
def pacelineref10_Net_Least (t0 : Value) (w : World) (K : KV) : Prop :=
  bsl 3 1 0 #[] [] w fun t6 w =>
  lp [t6, (Value.int IntKind.i64 0)] w (b2 fun t3 t4 w g1 =>
  ncP t0 <|
  fld 2 t0 w fun t10 w =>
  ld1 t10 w fun t11 w =>
  lnS t11 w fun t12 w =>
  bi .lss .i64 t4 t12 w fun t13 w =>
  iff' t13
  (lp [t3, (Value.int IntKind.i64 0)] w (b2 fun t3_1 t5 w g2 =>
  ncP t0 <|
  fld 2 t0 w fun t19 w =>
  ld1 t19 w fun t20 w =>
  ixS 1 t20 t4 w fun t22 w =>
  ld1 t22 w fun t23 w =>
  lnS t23 w fun t24 w =>
  bi .lss .i64 t5 t24 w fun t25 w =>
  iff' t25
  (J1 (fun t3_2 w =>
  bi .add .i64 t5 (Value.int IntKind.i64 1) w fun t27 w =>
  g2 [t3_2, t27] w) fun k3 =>
  ncP t0 <|
  fld 2 t0 w fun t30 w =>
  ld1 t30 w fun t31 w =>
  ixS 1 t31 t4 w fun t33 w =>
  ld1 t33 w fun t34 w =>
  ixS 8 t34 t5 w fun t36 w =>
  fld 0 t36 w fun t37 w =>
  ld1 t37 w fun t38 w =>
  bi .neq .i64 t38 (Value.int IntKind.i64 2) w fun t39 w =>
  iff' t39
  (ncP t0 <|
  fld 2 t0 w fun t43 w =>
  ld1 t43 w fun t44 w =>
  ixS 1 t44 t4 w fun t46 w =>
  ld1 t46 w fun t47 w =>
  ixS 8 t47 t5 w fun t49 w =>
  fld 1 t49 w fun t50 w =>
  fld 0 t50 w fun t51 w =>
  fld 0 t51 w fun t52 w =>
  ld1 t52 w fun t53 w =>
  bsl 3 1 1 (zeroD prog 3) [(0, t53)] w fun t54 w =>
  apS prog #[61, 61] 61 t3_1 t54 w fun t55 w =>
  k3 t55 w)
  (k3 t3_1 w))
  (bi .add .i64 t4 (Value.int IntKind.i64 1) w fun t15 w =>
  g1 [t3_1, t15] w)))
  (Cl prog 28 #[t3] w fun t57 w =>
  K t57 w))
theorem pacelineref10_Net_Least_eq (t0 : Value) (w : World) (K : KV) : pacelineref10_Net_Least t0 w K = fnW prog 58 [2] (match fn23.body with | some c => c | none => .skip) #[t0] w K := by kernel_rfl
theorem pacelineref10_Net_Least_ok : fnOk prog 58 [2] (match fn23.body with | some c => c | none => .skip) = true := by kernel_rfl
theorem pacelineref10_Net_Least_calls {t0 : Value} {w : World} {K : KV} (h : pacelineref10_Net_Least t0 w K) : Cl prog 23 #[t0] w K :=
  Cl.mk (by kernel_rfl) (calls_of_F (fn := fn23) (nt := 58) (rs := [2]) mixed fnAt23 (by kernel_rfl) (by kernel_rfl) (by kernel_rfl) (Nat.le_of_ble_eq_true (by kernel_rfl)) pacelineref10_Net_Least_ok (pacelineref10_Net_Least_eq t0 w K) h)

/-- (*paceline/link.Net).of -/
def link_Net_of (t0 t1 t2 : Value) (w : World) (K : KV) : Prop :=
  bi .lss .i64 t1 (Value.int IntKind.i64 0) w fun t8 w =>
  gd t8 false (fun k => k t2 w) w fun t10 w =>
  gd t8 false (fun k => bi .lss .i64 t10 (Value.int IntKind.i64 0) w k) w fun t11 w =>
  pk t8 (Value.bool true) t11 w fun t12 w =>
  gd t12 false (fun k => k t1 w) w fun t14 w =>
  gd t12 false (fun k => k t0 w) w fun t15 w =>
  gd t12 false (fun k => nc t15 w k) w fun t16 w =>
  gd t12 false (fun k => fld 0 t16 w k) w fun t17 w =>
  gd t12 false (fun k => ld1 t17 w k) w fun t18 w =>
  gd t12 false (fun k => bi .geq .i64 t14 t18 w k) w fun t19 w =>
  pk t12 (Value.bool true) t19 w fun t20 w =>
  gd t20 false (fun k => k t2 w) w fun t22 w =>
  gd t20 false (fun k => k t0 w) w fun t23 w =>
  gd t20 false (fun k => nc t23 w k) w fun t24 w =>
  gd t20 false (fun k => fld 0 t24 w k) w fun t25 w =>
  gd t20 false (fun k => ld1 t25 w k) w fun t26 w =>
  gd t20 false (fun k => bi .geq .i64 t22 t26 w k) w fun t27 w =>
  pk t20 (Value.bool true) t27 w fun t28 w =>
  gd t28 false (fun k => k t1 w) w fun t30 w =>
  gd t28 false (fun k => k t2 w) w fun t31 w =>
  gd t28 false (fun k => bi .eql .i64 t30 t31 w k) w fun t32 w =>
  pk t28 (Value.bool true) t32 w fun t33 w =>
  iff' t33
  (K (Value.pointer none) w)
  (ncP t0 <|
  fld 2 t0 w fun t38 w =>
  ixA 8 1040 t38 t1 w fun t39 w =>
  ixA 8 130 t39 t2 w fun t40 w =>
  K t40 w)
theorem link_Net_of_eq (t0 t1 t2 : Value) (w : World) (K : KV) : link_Net_of t0 t1 t2 w K = fnW prog 41 [6] (match fn24.body with | some c => c | none => .skip) #[t0, t1, t2] w K := by kernel_rfl
theorem link_Net_of_ok : fnOk prog 41 [6] (match fn24.body with | some c => c | none => .skip) = true := by kernel_rfl
theorem link_Net_of_calls {t0 t1 t2 : Value} {w : World} {K : KV} (h : link_Net_of t0 t1 t2 w K) : Cl prog 24 #[t0, t1, t2] w K :=
  Cl.mk (by kernel_rfl) (calls_of_F (fn := fn24) (nt := 41) (rs := [6]) mixed fnAt24 (by kernel_rfl) (by kernel_rfl) (by kernel_rfl) (Nat.le_of_ble_eq_true (by kernel_rfl)) link_Net_of_ok (link_Net_of_eq t0 t1 t2 w K) h)

/-- (*paceline/link.Net).items -/
def link_Net_items (t0 : Value) (w : World) (K : KV) : Prop :=
  al (Value.cells t0) 23 w fun t1 w =>
  K (Value.func (Fn.func 29) #[] #[t1]) w
theorem link_Net_items_eq (t0 : Value) (w : World) (K : KV) : link_Net_items t0 w K = fnW prog 4 [2] (match fn25.body with | some c => c | none => .skip) #[t0] w K := by kernel_rfl
theorem link_Net_items_ok : fnOk prog 4 [2] (match fn25.body with | some c => c | none => .skip) = true := by kernel_rfl
theorem link_Net_items_calls {t0 : Value} {w : World} {K : KV} (h : link_Net_items t0 w K) : Cl prog 25 #[t0] w K :=
  Cl.mk (by kernel_rfl) (calls_of_F (fn := fn25) (nt := 4) (rs := [2]) mixed fnAt25 (by kernel_rfl) (by kernel_rfl) (by kernel_rfl) (Nat.le_of_ble_eq_true (by kernel_rfl)) link_Net_items_ok (link_Net_items_eq t0 w K) h)

/-- paceline/vtime.Least -/
def vtime_Least (t0 : Value) (w : World) (K : KV) : Prop :=
  lnS t0 w fun t7 w =>
  lp [(Value.int IntKind.i64 1125899906842624), (Value.int IntKind.i64 0)] w (b2 fun t3 t8 w g1 =>
  bi .lss .i64 t8 t7 w fun t9 w =>
  iff' t9
  (ixS 1 t0 t8 w fun t10 w =>
  ld1 t10 w fun t11 w =>
  Cl prog 30 #[t11] w fun t14 w =>
  mnI .i64 t3 t14 w fun t15 w =>
  bi .add .i64 t8 (Value.int IntKind.i64 1) w fun t16 w =>
  g1 [t15, t16] w)
  (K t3 w))
theorem vtime_Least_eq (t0 : Value) (w : World) (K : KV) : vtime_Least t0 w K = fnW prog 18 [2] (match fn26.body with | some c => c | none => .skip) #[t0] w K := by kernel_rfl
theorem vtime_Least_ok : fnOk prog 18 [2] (match fn26.body with | some c => c | none => .skip) = true := by kernel_rfl
theorem vtime_Least_calls {t0 : Value} {w : World} {K : KV} (h : vtime_Least t0 w K) : Cl prog 26 #[t0] w K :=
  Cl.mk (by kernel_rfl) (calls_of_F (fn := fn26) (nt := 18) (rs := [2]) mixed fnAt26 (by kernel_rfl) (by kernel_rfl) (by kernel_rfl) (Nat.le_of_ble_eq_true (by kernel_rfl)) vtime_Least_ok (vtime_Least_eq t0 w K) h)

end Go.Proofs.Ytcocbmbadigjbaa
