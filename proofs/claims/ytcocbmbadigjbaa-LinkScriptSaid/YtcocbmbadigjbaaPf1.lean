/- Printed by prt.py: the Go functions of this seat as shallow predicate transformers. Conditions: none. -/
import Derived.Test.YtcocbmbadigjbaaEngO
import Derived.Test.YtcocbmbadigjbaaEngY
import Derived.Test.YtcocbmbadigjbaaPfHead
import Derived.KernelRfl
namespace Go.Proofs.Ytcocbmbadigjbaa
open Go Go.E
set_option linter.unusedVariables false
set_option maxRecDepth 100000
/-- (*paceline/link.Net).Carried -/
def link_Net_Carried (t0 t1 : Value) (w : World) (K : KV) : Prop :=
  al (Value.cells t1) 3 w fun t3 w =>
  al (zeroD prog 3) 3 w fun t5 w =>
  stN 1 t5 (Value.int IntKind.i64 0) w fun _ w =>
  Cl prog 25 #[t0] w fun t9 w =>
  rfW prog t9 2 (fun l a w k =>
  al (zeroD prog 33) 33 w fun t7 w =>
  stN 8 t7 (a 1) w fun _ w =>
  bgn l w fun w =>
  fld 0 t7 w fun t12 w =>
  ld1 t12 w fun t13 w =>
  bi .neq .i64 t13 (Value.int IntKind.i64 2) w fun t14 w =>
  gd t14 true (fun k => fld 7 t7 w k) w fun t16 w =>
  gd t14 true (fun k => ld1 t16 w k) w fun t17 w =>
  gd t14 true (fun k => ld1 t3 w k) w fun t18 w =>
  gd t14 true (fun k => bi .eql .i64 t17 t18 w k) w fun t19 w =>
  pk t14 t19 (Value.bool false) w fun t20 w =>
  iff' t20
  (ld1 t5 w fun t21 w =>
  bi .add .i64 t21 (Value.int IntKind.i64 1) w fun t22 w =>
  stN 1 t5 t22 w fun _ w =>
  edn l w k)
  (edn l w k)) w fun D w =>
  ld1 t5 w fun t23 w =>
  rdef D w fun w =>
  K t23 w
theorem link_Net_Carried_eq (t0 t1 : Value) (w : World) (K : KV) : link_Net_Carried t0 t1 w K = fnRFb prog 24 [4] fn9.body #[t0, t1] w K := by kernel_rfl
theorem link_Net_Carried_ok : fnOkRFb prog 24 [4] fn9.body = true := by kernel_rfl
theorem link_Net_Carried_calls {t0 t1 : Value} {w : World} {K : KV} (h : link_Net_Carried t0 t1 w K) : Cl prog 9 #[t0, t1] w K :=
  Cl.mk (by kernel_rfl) (calls_of_fnRFb (fn := fn9) (nt := 24) (rs := [4]) mixed fnAt9 (by kernel_rfl) (by kernel_rfl) (Nat.le_of_ble_eq_true (by kernel_rfl)) link_Net_Carried_ok (link_Net_Carried_eq t0 t1 w K) h)

/-- (*paceline/link.Net).All -/
def link_Net_All (t0 : Value) (w : World) (K : KV) : Prop :=
  al (zeroD prog 3) 3 w fun t3 w =>
  stN 1 t3 (Value.int IntKind.i64 0) w fun _ w =>
  Cl prog 25 #[t0] w fun t6 w =>
  rfW prog t6 2 (fun l a w k =>
  bgn l w fun w =>
  bi .add .i64 (a 0) (Value.int IntKind.i64 1) w fun t10 w =>
  stN 1 t3 t10 w fun _ w =>
  edn l w k) w fun D w =>
  ld1 t3 w fun t11 w =>
  rdef D w fun w =>
  K t11 w
theorem link_Net_All_eq (t0 : Value) (w : World) (K : KV) : link_Net_All t0 w K = fnRFb prog 12 [2] fn10.body #[t0] w K := by kernel_rfl
theorem link_Net_All_ok : fnOkRFb prog 12 [2] fn10.body = true := by kernel_rfl
theorem link_Net_All_calls {t0 : Value} {w : World} {K : KV} (h : link_Net_All t0 w K) : Cl prog 10 #[t0] w K :=
  Cl.mk (by kernel_rfl) (calls_of_fnRFb (fn := fn10) (nt := 12) (rs := [2]) mixed fnAt10 (by kernel_rfl) (by kernel_rfl) (Nat.le_of_ble_eq_true (by kernel_rfl)) link_Net_All_ok (link_Net_All_eq t0 w K) h)

/-- (*paceline/link.Net).Least -/
def link_Net_Least (t0 : Value) (w : World) (K : KV) : Prop :=
  al (zeroD prog 61) 61 w fun t3 w =>
  Cl prog 25 #[t0] w fun t7 w =>
  rfW prog t7 2 (fun l a w k =>
  al (zeroD prog 33) 33 w fun t5 w =>
  stN 8 t5 (a 1) w fun _ w =>
  bgn l w fun w =>
  fld 0 t5 w fun t10 w =>
  ld1 t10 w fun t11 w =>
  bi .neq .i64 t11 (Value.int IntKind.i64 2) w fun t12 w =>
  iff' t12
  (ld1 t3 w fun t13 w =>
  fld 1 t5 w fun t14 w =>
  fld 0 t14 w fun t15 w =>
  fld 0 t15 w fun t16 w =>
  ld1 t16 w fun t17 w =>
  bsl 3 1 1 (zeroD prog 3) [(0, t17)] w fun t18 w =>
  apS prog #[61, 61] 61 t13 t18 w fun t19 w =>
  stN 1 t3 t19 w fun _ w =>
  edn l w k)
  (edn l w k)) w fun D w =>
  ld1 t3 w fun t20 w =>
  Cl prog 26 #[t20] w fun t21 w =>
  rdef D w fun w =>
  K t21 w
theorem link_Net_Least_eq (t0 : Value) (w : World) (K : KV) : link_Net_Least t0 w K = fnRFb prog 22 [2] fn11.body #[t0] w K := by kernel_rfl
theorem link_Net_Least_ok : fnOkRFb prog 22 [2] fn11.body = true := by kernel_rfl
theorem link_Net_Least_calls {t0 : Value} {w : World} {K : KV} (h : link_Net_Least t0 w K) : Cl prog 11 #[t0] w K :=
  Cl.mk (by kernel_rfl) (calls_of_fnRFb (fn := fn11) (nt := 22) (rs := [2]) mixed fnAt11 (by kernel_rfl) (by kernel_rfl) (Nat.le_of_ble_eq_true (by kernel_rfl)) link_Net_Least_ok (link_Net_Least_eq t0 w K) h)

/-- (*paceline/link.Net).Room -/
def link_Net_Room (t0 t1 t2 : Value) (w : World) (K : KV) : Prop :=
  Cl prog 24 #[t0, t1, t2] w fun t11 w =>
  bn .neq t11 w fun t13 w =>
  iff' t13
  (dr w fun w =>
  ncP t0 <|
  fld 1 t0 w fun t16 _ =>
  ld1 t16 w fun t17 _ =>
  ncP t11 <|
  fld 129 t11 w fun t20 _ =>
  ld1 t20 w fun t21 _ =>
  bi .sub .i64 t17 t21 w fun t22 _ =>
  K t22 w)
  (K (Value.int IntKind.i64 0) w)
theorem link_Net_Room_eq (t0 t1 t2 : Value) (w : World) (K : KV) : link_Net_Room t0 t1 t2 w K = fnW prog 23 [6] (match fn12.body with | some c => c | none => .skip) #[t0, t1, t2] w K := by kernel_rfl
theorem link_Net_Room_ok : fnOk prog 23 [6] (match fn12.body with | some c => c | none => .skip) = true := by kernel_rfl
theorem link_Net_Room_calls {t0 t1 t2 : Value} {w : World} {K : KV} (h : link_Net_Room t0 t1 t2 w K) : Cl prog 12 #[t0, t1, t2] w K :=
  Cl.mk (by kernel_rfl) (calls_of_F (fn := fn12) (nt := 23) (rs := [6]) mixed fnAt12 (by kernel_rfl) (by kernel_rfl) (by kernel_rfl) (Nat.le_of_ble_eq_true (by kernel_rfl)) link_Net_Room_ok (link_Net_Room_eq t0 t1 t2 w K) h)

/-- paceline/pacelineref10.New -/
def pacelineref10_New (t0 t1 : Value) (w : World) (K : KV) : Prop :=
  bi .lss .i64 t0 (Value.int IntKind.i64 1) w fun t7 w =>
  gd t7 false (fun k => k t0 w) w fun t9 w =>
  gd t7 false (fun k => bi .gtr .i64 t9 (Value.int IntKind.i64 8) w k) w fun t10 w =>
  pk t7 (Value.bool true) t10 w fun t11 w =>
  gd t11 false (fun k => k t1 w) w fun t13 w =>
  gd t11 false (fun k => bi .lss .i64 t13 (Value.int IntKind.i64 1) w k) w fun t14 w =>
  pk t11 (Value.bool true) t14 w fun t15 w =>
  gd t15 false (fun k => k t1 w) w fun t17 w =>
  gd t15 false (fun k => bi .gtr .i64 t17 (Value.int IntKind.i64 16) w k) w fun t18 w =>
  pk t15 (Value.bool true) t18 w fun t19 w =>
  iff' t19
  (K (Value.tuple #[(Value.pointer none), (Value.int IntKind.i64 1)]) w)
  (bi .mul .i64 t0 t0 w fun t24 w =>
  mkS prog 63 t24 t24 w fun t25 w =>
  bld (zeroD prog 65) #[(0, 1), (1, 1), (2, 1)] [(0, t0), (1, t1), (2, t25)] w fun t26 w =>
  al (Value.cells t26) 65 w fun t27 w =>
  K (Value.tuple #[t27, (Value.int IntKind.i64 0)]) w)
theorem pacelineref10_New_eq (t0 t1 : Value) (w : World) (K : KV) : pacelineref10_New t0 t1 w K = fnW prog 28 [4, 5] (match fn13.body with | some c => c | none => .skip) #[t0, t1] w K := by kernel_rfl
theorem pacelineref10_New_ok : fnOk prog 28 [4, 5] (match fn13.body with | some c => c | none => .skip) = true := by kernel_rfl
theorem pacelineref10_New_calls {t0 t1 : Value} {w : World} {K : KV} (h : pacelineref10_New t0 t1 w K) : Cl prog 13 #[t0, t1] w K :=
  Cl.mk (by kernel_rfl) (calls_of_F (fn := fn13) (nt := 28) (rs := [4, 5]) mixed fnAt13 (by kernel_rfl) (by kernel_rfl) (by kernel_rfl) (Nat.le_of_ble_eq_true (by kernel_rfl)) pacelineref10_New_ok (pacelineref10_New_eq t0 t1 w K) h)

/-- (*paceline/pacelineref10.Net).Send -/
def pacelineref10_Net_Send (t0 t1 t2 t3 : Value) (w : World) (K : KV) : Prop :=
  al (Value.cells t3) 33 w fun t7 w =>
  Cl prog 27 #[t0, t1, t2] w fun t13 w =>
  bnot t13 w fun t14 w =>
  gd t14 false (fun k => fld 0 t7 w k) w fun t16 w =>
  gd t14 false (fun k => ld1 t16 w k) w fun t17 w =>
  gd t14 false (fun k => bi .lss .i64 t17 (Value.int IntKind.i64 0) w k) w fun t18 w =>
  pk t14 (Value.bool true) t18 w fun t19 w =>
  gd t19 false (fun k => fld 0 t7 w k) w fun t21 w =>
  gd t19 false (fun k => ld1 t21 w k) w fun t22 w =>
  gd t19 false (fun k => bi .gtr .i64 t22 (Value.int IntKind.i64 2) w k) w fun t23 w =>
  pk t19 (Value.bool true) t23 w fun t24 w =>
  gd t24 false (fun k => fld 7 t7 w k) w fun t26 w =>
  gd t24 false (fun k => ld1 t26 w k) w fun t27 w =>
  gd t24 false (fun k => bi .lss .i64 t27 (Value.int IntKind.i64 0) w k) w fun t28 w =>
  pk t24 (Value.bool true) t28 w fun t29 w =>
  gd t29 false (fun k => fld 7 t7 w k) w fun t31 w =>
  gd t29 false (fun k => ld1 t31 w k) w fun t32 w =>
  gd t29 false (fun k => bi .gtr .i64 t32 (Value.int IntKind.i64 1) w k) w fun t33 w =>
  pk t29 (Value.bool true) t33 w fun t34 w =>
  iff' t34
  (K (Value.int IntKind.i64 1) w)
  (Cl prog 20 #[t0, t1, t2] w fun t38 w =>
  bi .eql .i64 t38 (Value.int IntKind.i64 0) w fun t39 w =>
  iff' t39
  (K (Value.int IntKind.i64 2) w)
  (bsl 33 8 0 #[] [] w fun t40 w =>
  dr w fun w =>
  ncP t0 <|
  fld 2 t0 w fun t44 _ =>
  ld1 t44 w fun t45 _ =>
  ncP t0 <|
  fld 0 t0 w fun t49 _ =>
  ld1 t49 w fun t50 _ =>
  bi .mul .i64 t1 t50 w fun t51 _ =>
  bi .add .i64 t51 t2 w fun t53 _ =>
  ixS 1 t45 t53 w fun t54 _ =>
  ld1 t54 w fun t55 _ =>
  apS prog #[27, 27] 27 t40 t55 w fun t56 w =>
  dr w fun w =>
  ncP t0 <|
  fld 2 t0 w fun t59 _ =>
  ld1 t59 w fun t60 _ =>
  ncP t0 <|
  fld 0 t0 w fun t64 _ =>
  ld1 t64 w fun t65 _ =>
  bi .mul .i64 t1 t65 w fun t66 _ =>
  bi .add .i64 t66 t2 w fun t68 _ =>
  ldN 8 t7 w fun t70 _ =>
  bsl 33 8 1 (zeroD prog 33) [(0, t70)] w fun t71 w =>
  (ld1 t64 w (fun v' w'' => v' = t65 ∧ w'' = w)) ∧ ((ld1 t59 w (fun v' w'' => v' = t60 ∧ w'' = w)) ∧ (apS prog #[27, 27] 27 t56 t71 w fun t72 w =>
  (ld1 t64 w (fun v' w'' => v' = t65 ∧ w'' = w)) ∧ ((ld1 t59 w (fun v' w'' => v' = t60 ∧ w'' = w)) ∧ (ixS 1 t60 t68 w fun t73 _ =>
  stN 1 t73 t72 w fun _ w =>
  K (Value.int IntKind.i64 0) w))))))
theorem pacelineref10_Net_Send_eq (t0 t1 t2 t3 : Value) (w : World) (K : KV) : pacelineref10_Net_Send t0 t1 t2 t3 w K = fnW prog 74 [8] (match fn14.body with | some c => c | none => .skip) #[t0, t1, t2, t3] w K := by kernel_rfl
theorem pacelineref10_Net_Send_ok : fnOk prog 74 [8] (match fn14.body with | some c => c | none => .skip) = true := by kernel_rfl
theorem pacelineref10_Net_Send_calls {t0 t1 t2 t3 : Value} {w : World} {K : KV} (h : pacelineref10_Net_Send t0 t1 t2 t3 w K) : Cl prog 14 #[t0, t1, t2, t3] w K :=
  Cl.mk (by kernel_rfl) (calls_of_F (fn := fn14) (nt := 74) (rs := [8]) mixed fnAt14 (by kernel_rfl) (by kernel_rfl) (by kernel_rfl) (Nat.le_of_ble_eq_true (by kernel_rfl)) pacelineref10_Net_Send_ok (pacelineref10_Net_Send_eq t0 t1 t2 t3 w K) h)

end Go.Proofs.Ytcocbmbadigjbaa
