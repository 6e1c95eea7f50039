/- Printed by prt.py: the Go functions of this seat as shallow predicate transformers. Conditions: none. -/
import Derived.Test.YtdiglafiimnfoaaEngO
import Derived.Test.YtdiglafiimnfoaaPfHead
import Derived.KernelRfl
namespace Go.Proofs.Ytdiglafiimnfoaa
open Go Go.E
set_option linter.unusedVariables false
set_option maxRecDepth 100000
/-- (*paceline/cut.Cut).Got -/
def cut_Cut_Got (t0 t1 t2 : Value) (w : World) (K : KV) : Prop :=
  Cl prog 75 #[t0, t1] w fun t9 w =>
  bnot t9 w fun t10 w =>
  gd t10 false (fun k => k t2 w) w fun t12 w =>
  gd t10 false (fun k => bO prog .shr 3 (Operand.tmp 12) (Operand.const (Value.int IntKind.u64 1)) t12 (Value.int IntKind.u64 1) w k) w fun t13 w =>
  gd t10 false (fun k => bi .neq .i64 t13 (Value.int IntKind.i64 0) w k) w fun t14 w =>
  pk t10 (Value.bool true) t14 w fun t15 w =>
  gd t15 false (fun k => k t0 w) w fun t17 w =>
  gd t15 false (fun k => k t2 w) w fun t18 w =>
  gd t15 false (fun k => nc t17 w k) w fun t19 w =>
  gd t15 false (fun k => fld 19 t19 w k) w fun t20 w =>
  gd t15 false (fun k => ixA 2 1 t20 t18 w k) w fun t21 w =>
  gd t15 false (fun k => ld1 t21 w k) w fun t22 w =>
  gd t15 false (fun k => bi .eql .i64 t22 (Value.int IntKind.i64 0) w k) w fun t23 w =>
  pk t15 (Value.bool true) t23 w fun t24 w =>
  iff' t24
  (K (Value.int IntKind.i64 1) w)
  (dr w fun w =>
  ncP t0 <|
  fld 19 t0 w fun t28 _ =>
  ixA 2 1 t28 t2 w fun t29 _ =>
  ld1 t29 w fun t30 _ =>
  bi .sub .i64 t30 (Value.int IntKind.i64 1) w fun t31 _ =>
  ncP t0 <|
  fld 19 t0 w fun t33 _ =>
  ixA 2 1 t33 t2 w fun t34 _ =>
  stN 1 t34 t31 w fun _ w =>
  K (Value.int IntKind.i64 0) w)
theorem cut_Cut_Got_eq (t0 t1 t2 : Value) (w : World) (K : KV) : cut_Cut_Got t0 t1 t2 w K = fnW prog 35 [6] (match fn21.body with | some c => c | none => .skip) #[t0, t1, t2] w K := by kernel_rfl
theorem cut_Cut_Got_ok : fnOk prog 35 [6] (match fn21.body with | some c => c | none => .skip) = true := by kernel_rfl
theorem cut_Cut_Got_calls {t0 t1 t2 : Value} {w : World} {K : KV} (h : cut_Cut_Got t0 t1 t2 w K) : Cl prog 21 #[t0, t1, t2] w K :=
  ⟨by kernel_rfl, calls_of_F (fn := fn21) (nt := 35) (rs := [6]) mixed fnAt21 (by kernel_rfl) (by kernel_rfl) (by kernel_rfl) (Nat.le_of_ble_eq_true (by kernel_rfl)) cut_Cut_Got_ok (cut_Cut_Got_eq t0 t1 t2 w K) h⟩

/-- (*paceline/pacelineref16.Cut).Got -/
def pacelineref16_Cut_Got (t0 t1 t2 : Value) (w : World) (K : KV) : Prop :=
  Cl prog 78 #[t0, t1] w fun t9 w =>
  bnot t9 w fun t10 w =>
  gd t10 false (fun k => k t2 w) w fun t12 w =>
  gd t10 false (fun k => bi .lss .i64 t12 (Value.int IntKind.i64 0) w k) w fun t13 w =>
  pk t10 (Value.bool true) t13 w fun t14 w =>
  gd t14 false (fun k => k t2 w) w fun t16 w =>
  gd t14 false (fun k => bi .gtr .i64 t16 (Value.int IntKind.i64 1) w k) w fun t17 w =>
  pk t14 (Value.bool true) t17 w fun t18 w =>
  gd t18 false (fun k => k t0 w) w fun t20 w =>
  gd t18 false (fun k => k t2 w) w fun t21 w =>
  gd t18 false (fun k => nc t20 w k) w fun t22 w =>
  gd t18 false (fun k => fld 3 t22 w k) w fun t23 w =>
  gd t18 false (fun k => ixA 2 1 t23 t21 w k) w fun t24 w =>
  gd t18 false (fun k => ld1 t24 w k) w fun t25 w =>
  gd t18 false (fun k => bi .eql .i64 t25 (Value.int IntKind.i64 0) w k) w fun t26 w =>
  pk t18 (Value.bool true) t26 w fun t27 w =>
  iff' t27
  (K (Value.int IntKind.i64 1) w)
  (dr w fun w =>
  ncP t0 <|
  fld 3 t0 w fun t33 _ =>
  ixA 2 1 t33 t2 w fun t34 _ =>
  ld1 t34 w fun t35 _ =>
  bi .sub .i64 t35 (Value.int IntKind.i64 1) w fun t36 _ =>
  ncP t0 <|
  fld 3 t0 w fun t38 _ =>
  ixA 2 1 t38 t2 w fun t39 _ =>
  stN 1 t39 t36 w fun _ w =>
  K (Value.int IntKind.i64 0) w)
theorem pacelineref16_Cut_Got_eq (t0 t1 t2 : Value) (w : World) (K : KV) : pacelineref16_Cut_Got t0 t1 t2 w K = fnW prog 40 [6] (match fn22.body with | some c => c | none => .skip) #[t0, t1, t2] w K := by kernel_rfl
theorem pacelineref16_Cut_Got_ok : fnOk prog 40 [6] (match fn22.body with | some c => c | none => .skip) = true := by kernel_rfl
theorem pacelineref16_Cut_Got_calls {t0 t1 t2 : Value} {w : World} {K : KV} (h : pacelineref16_Cut_Got t0 t1 t2 w K) : Cl prog 22 #[t0, t1, t2] w K :=
  ⟨by kernel_rfl, calls_of_F (fn := fn22) (nt := 40) (rs := [6]) mixed fnAt22 (by kernel_rfl) (by kernel_rfl) (by kernel_rfl) (Nat.le_of_ble_eq_true (by kernel_rfl)) pacelineref16_Cut_Got_ok (pacelineref16_Cut_Got_eq t0 t1 t2 w K) h⟩

/-- (*paceline/cut.Cut).Turn -/
def cut_Cut_Turn (t0 t1 : Value) (w : World) (K : KV) : Prop :=
  Cl prog 75 #[t0, t1] w fun t8 w =>
  bnot t8 w fun t9 w =>
  iff' t9
  (K (Value.int IntKind.i64 1) w)
  (dr w fun w =>
  Cl prog 29 #[t0] w fun t12 w =>
  bnot t12 w fun t13 _ =>
  gd t13 false (fun k => k t0 w) w fun t15 _ =>
  gd t13 false (fun k => k t1 w) w fun t16 _ =>
  gd t13 false (fun k => nc t15 w k) w fun t17 _ =>
  gd t13 false (fun k => fld 3 t17 w k) w fun t18 _ =>
  gd t13 false (fun k => ixA 8 2 t18 t16 w k) w fun t19 _ =>
  gd t13 false (fun k => ldN 2 t19 w k) w fun t20 _ =>
  gd t13 false (fun k => k t0 w) w fun t21 _ =>
  gd t13 false (fun k => nc t21 w k) w fun t22 _ =>
  gd t13 false (fun k => fld 1 t22 w k) w fun t23 _ =>
  gd t13 false (fun k => ld1 t23 w k) w fun t24 _ =>
  gd t13 false (fun k => Cl prog 77 #[t20, t24] w k) w fun t25 w =>
  pk t13 (Value.bool true) t25 w fun t26 _ =>
  iff' t26
  (K (Value.int IntKind.i64 130) w)
  (dr w fun w =>
  ncP t0 <|
  fld 1 t0 w fun t31 _ =>
  ld1 t31 w fun t32 _ =>
  ncP t0 <|
  fld 3 t0 w fun t34 _ =>
  ixA 8 2 t34 t1 w fun t35 _ =>
  fld 0 t35 w fun t36 _ =>
  stN 1 t36 t32 w fun _ w =>
  K (Value.int IntKind.i64 0) w))
theorem cut_Cut_Turn_eq (t0 t1 : Value) (w : World) (K : KV) : cut_Cut_Turn t0 t1 w K = fnW prog 37 [4] (match fn23.body with | some c => c | none => .skip) #[t0, t1] w K := by kernel_rfl
theorem cut_Cut_Turn_ok : fnOk prog 37 [4] (match fn23.body with | some c => c | none => .skip) = true := by kernel_rfl
theorem cut_Cut_Turn_calls {t0 t1 : Value} {w : World} {K : KV} (h : cut_Cut_Turn t0 t1 w K) : Cl prog 23 #[t0, t1] w K :=
  ⟨by kernel_rfl, calls_of_F (fn := fn23) (nt := 37) (rs := [4]) mixed fnAt23 (by kernel_rfl) (by kernel_rfl) (by kernel_rfl) (Nat.le_of_ble_eq_true (by kernel_rfl)) cut_Cut_Turn_ok (cut_Cut_Turn_eq t0 t1 w K) h⟩

/-- (*paceline/pacelineref16.Cut).Turn -/
def pacelineref16_Cut_Turn (t0 t1 : Value) (w : World) (K : KV) : Prop :=
  Cl prog 78 #[t0, t1] w fun t7 w =>
  bnot t7 w fun t8 w =>
  iff' t8
  (K (Value.int IntKind.i64 1) w)
  (ncP t0 <|
  fld 5 t0 w fun t11 w =>
  ld1 t11 w fun t12 w =>
  bnot t12 w fun t13 w =>
  gd t13 false (fun k => k t0 w) w fun t15 w =>
  gd t13 false (fun k => nc t15 w k) w fun t16 w =>
  gd t13 false (fun k => fld 1 t16 w k) w fun t17 w =>
  gd t13 false (fun k => ld1 t17 w k) w fun t18 w =>
  gd t13 false (fun k => k t1 w) w fun t19 w =>
  gd t13 false (fun k => ixS 1 t18 t19 w k) w fun t20 w =>
  gd t13 false (fun k => ld1 t20 w k) w fun t21 w =>
  pk t13 (Value.bool true) t21 w fun t22 w =>
  iff' t22
  (K (Value.int IntKind.i64 130) w)
  (ncP t0 <|
  fld 1 t0 w fun t25 w =>
  ld1 t25 w fun t26 w =>
  ixS 1 t26 t1 w fun t28 w =>
  stN 1 t28 (Value.bool true) w fun _ w =>
  dr w fun w =>
  ncP t0 <|
  fld 0 t0 w fun t31 _ =>
  ld1 t31 w fun t32 _ =>
  ncP t0 <|
  fld 6 t0 w fun t36 _ =>
  ld1 t36 w fun t37 _ =>
  bi .sub .i64 (Value.int IntKind.i64 1) t37 w fun t38 _ =>
  ixS 1 t32 t1 w fun t39 _ =>
  stN 1 t39 t38 w fun _ w =>
  K (Value.int IntKind.i64 0) w))
theorem pacelineref16_Cut_Turn_eq (t0 t1 : Value) (w : World) (K : KV) : pacelineref16_Cut_Turn t0 t1 w K = fnW prog 40 [4] (match fn24.body with | some c => c | none => .skip) #[t0, t1] w K := by kernel_rfl
theorem pacelineref16_Cut_Turn_ok : fnOk prog 40 [4] (match fn24.body with | some c => c | none => .skip) = true := by kernel_rfl
theorem pacelineref16_Cut_Turn_calls {t0 t1 : Value} {w : World} {K : KV} (h : pacelineref16_Cut_Turn t0 t1 w K) : Cl prog 24 #[t0, t1] w K :=
  ⟨by kernel_rfl, calls_of_F (fn := fn24) (nt := 40) (rs := [4]) mixed fnAt24 (by kernel_rfl) (by kernel_rfl) (by kernel_rfl) (Nat.le_of_ble_eq_true (by kernel_rfl)) pacelineref16_Cut_Turn_ok (pacelineref16_Cut_Turn_eq t0 t1 w K) h⟩

/-- (*paceline/cut.Cut).Report -/
def cut_Cut_Report (t0 t1 t2 : Value) (w : World) (K : KV) : Prop :=
  Cl prog 75 #[t0, t1] w fun t10 w =>
  bnot t10 w fun t11 w =>
  gd t11 false (fun k => k t2 w) w fun t13 w =>
  gd t11 false (fun k => Cl prog 76 #[t13] w k) w fun t14 w =>
  gd t11 false (fun k => bnot t14 w k) w fun t15 w =>
  pk t11 (Value.bool true) t15 w fun t16 w =>
  iff' t16
  (K (Value.int IntKind.i64 1) w)
  (dr w fun w =>
  Cl prog 29 #[t0] w fun t19 w =>
  bnot t19 w fun t20 _ =>
  gd t20 false (fun k => k t0 w) w fun t22 _ =>
  gd t20 false (fun k => Cl prog 80 #[t22, (Value.func (.func 77) #[] #[])] w k) w fun t23 w =>
  gd t20 false (fun k => bnot t23 w k) w fun t24 _ =>
  pk t20 (Value.bool true) t24 w fun t25 _ =>
  gd t25 false (fun k => k t0 w) w fun t27 _ =>
  gd t25 false (fun k => k t1 w) w fun t28 _ =>
  gd t25 false (fun k => nc t27 w k) w fun t29 _ =>
  gd t25 false (fun k => fld 3 t29 w k) w fun t30 _ =>
  gd t25 false (fun k => ixA 8 2 t30 t28 w k) w fun t31 _ =>
  gd t25 false (fun k => ldN 2 t31 w k) w fun t32 _ =>
  gd t25 false (fun k => k t0 w) w fun t33 _ =>
  gd t25 false (fun k => nc t33 w k) w fun t34 _ =>
  gd t25 false (fun k => fld 1 t34 w k) w fun t35 _ =>
  gd t25 false (fun k => ld1 t35 w k) w fun t36 _ =>
  gd t25 false (fun k => Cl prog 81 #[t32, t36] w k) w fun t37 w =>
  pk t25 (Value.bool true) t37 w fun t38 _ =>
  iff' t38
  (K (Value.int IntKind.i64 130) w)
  (dr w fun w =>
  ncP t0 <|
  fld 2 t0 w fun t43 _ =>
  ld1 t43 w fun t44 _ =>
  ncP t0 <|
  fld 19 t0 w fun t47 _ =>
  bO prog .and 3 (Operand.tmp 44) (Operand.const (Value.int IntKind.i64 1)) t44 (Value.int IntKind.i64 1) w fun t45 w =>
  ixA 2 1 t47 t45 w fun t48 _ =>
  ld1 t48 w fun t49 _ =>
  bi .gtr .i64 t49 (Value.int IntKind.i64 0) w fun t50 _ =>
  iff' t50
  (K (Value.int IntKind.i64 150) w)
  (dr w fun w =>
  ncP t0 <|
  fld 1 t0 w fun t55 _ =>
  ld1 t55 w fun t56 _ =>
  ncP t0 <|
  fld 3 t0 w fun t58 _ =>
  ixA 8 2 t58 t1 w fun t59 _ =>
  fld 1 t59 w fun t60 _ =>
  stN 1 t60 t56 w fun _ w =>
  ncP t0 <|
  fld 21 t0 w fun t64 w =>
  ld1 t64 w fun t65 w =>
  mnI .i64 t65 t2 w fun t67 w =>
  ncP t0 <|
  fld 21 t0 w fun t69 w =>
  stN 1 t69 t67 w fun _ w =>
  Cl prog 80 #[t0, (Value.func (.func 81) #[] #[])] w fun t71 w =>
  J0 (fun w =>
  K (Value.int IntKind.i64 0) w) fun k1 =>
  iff' t71
  (ncP t0 <|
  fld 1 t0 w fun t75 w =>
  ld1 t75 w fun t76 w =>
  ncP t0 <|
  fld 2 t0 w fun t78 w =>
  stN 1 t78 t76 w fun _ w =>
  dr w fun w =>
  ncP t0 <|
  fld 22 t0 w fun t82 _ =>
  ld1 t82 w fun t83 _ =>
  ncP t0 <|
  fld 21 t0 w fun t86 _ =>
  ld1 t86 w fun t87 _ =>
  mxI .i64 t83 t87 w fun t88 w =>
  ncP t0 <|
  fld 22 t0 w fun t90 _ =>
  stN 1 t90 t88 w fun _ w =>
  k1 w)
  (k1 w))))
theorem cut_Cut_Report_eq (t0 t1 t2 : Value) (w : World) (K : KV) : cut_Cut_Report t0 t1 t2 w K = fnW prog 91 [6] (match fn25.body with | some c => c | none => .skip) #[t0, t1, t2] w K := by kernel_rfl
theorem cut_Cut_Report_ok : fnOk prog 91 [6] (match fn25.body with | some c => c | none => .skip) = true := by kernel_rfl
theorem cut_Cut_Report_calls {t0 t1 t2 : Value} {w : World} {K : KV} (h : cut_Cut_Report t0 t1 t2 w K) : Cl prog 25 #[t0, t1, t2] w K :=
  ⟨by kernel_rfl, calls_of_F (fn := fn25) (nt := 91) (rs := [6]) mixed fnAt25 (by kernel_rfl) (by kernel_rfl) (by kernel_rfl) (Nat.le_of_ble_eq_true (by kernel_rfl)) cut_Cut_Report_ok (cut_Cut_Report_eq t0 t1 t2 w K) h⟩

/-- (*paceline/pacelineref16.Cut).Report -/
def pacelineref16_Cut_Report (t0 t1 t2 : Value) (w : World) (K : KV) : Prop :=
  Cl prog 78 #[t0, t1] w fun t9 w =>
  bnot t9 w fun t10 w =>
  gd t10 false (fun k => k t2 w) w fun t12 w =>
  gd t10 false (fun k => Cl prog 79 #[t12] w k) w fun t13 w =>
  gd t10 false (fun k => bnot t13 w k) w fun t14 w =>
  pk t10 (Value.bool true) t14 w fun t15 w =>
  iff' t15
  (K (Value.int IntKind.i64 1) w)
  (ncP t0 <|
  fld 5 t0 w fun t18 w =>
  ld1 t18 w fun t19 w =>
  bnot t19 w fun t20 w =>
  gd t20 false (fun k => k t0 w) w fun t22 w =>
  gd t20 false (fun k => nc t22 w k) w fun t23 w =>
  gd t20 false (fun k => fld 1 t23 w k) w fun t24 w =>
  gd t20 false (fun k => ld1 t24 w k) w fun t25 w =>
  gd t20 false (fun k => Cl prog 82 #[t25] w k) w fun t26 w =>
  gd t20 false (fun k => bnot t26 w k) w fun t27 w =>
  pk t20 (Value.bool true) t27 w fun t28 w =>
  gd t28 false (fun k => k t0 w) w fun t30 w =>
  gd t28 false (fun k => nc t30 w k) w fun t31 w =>
  gd t28 false (fun k => fld 2 t31 w k) w fun t32 w =>
  gd t28 false (fun k => ld1 t32 w k) w fun t33 w =>
  gd t28 false (fun k => k t1 w) w fun t34 w =>
  gd t28 false (fun k => ixS 1 t33 t34 w k) w fun t35 w =>
  gd t28 false (fun k => ld1 t35 w k) w fun t36 w =>
  pk t28 (Value.bool true) t36 w fun t37 w =>
  iff' t37
  (K (Value.int IntKind.i64 130) w)
  (dr w fun w =>
  ncP t0 <|
  fld 6 t0 w fun t41 _ =>
  ld1 t41 w fun t42 _ =>
  ncP t0 <|
  fld 3 t0 w fun t44 _ =>
  ixA 2 1 t44 t42 w fun t45 _ =>
  ld1 t45 w fun t46 _ =>
  bi .gtr .i64 t46 (Value.int IntKind.i64 0) w fun t47 _ =>
  iff' t47
  (K (Value.int IntKind.i64 150) w)
  (ncP t0 <|
  fld 2 t0 w fun t50 w =>
  ld1 t50 w fun t51 w =>
  ixS 1 t51 t1 w fun t53 w =>
  stN 1 t53 (Value.bool true) w fun _ w =>
  ncP t0 <|
  fld 7 t0 w fun t57 w =>
  ld1 t57 w fun t58 w =>
  mnI .i64 t58 t2 w fun t60 w =>
  ncP t0 <|
  fld 7 t0 w fun t62 w =>
  stN 1 t62 t60 w fun _ w =>
  ncP t0 <|
  fld 2 t0 w fun t65 w =>
  ld1 t65 w fun t66 w =>
  Cl prog 82 #[t66] w fun t67 w =>
  J0 (fun w =>
  K (Value.int IntKind.i64 0) w) fun k1 =>
  iff' t67
  (ncP t0 <|
  fld 5 t0 w fun t70 w =>
  stN 1 t70 (Value.bool false) w fun _ w =>
  dr w fun w =>
  ncP t0 <|
  fld 8 t0 w fun t74 _ =>
  ld1 t74 w fun t75 _ =>
  ncP t0 <|
  fld 7 t0 w fun t78 _ =>
  ld1 t78 w fun t79 _ =>
  mxI .i64 t75 t79 w fun t80 w =>
  ncP t0 <|
  fld 8 t0 w fun t82 _ =>
  stN 1 t82 t80 w fun _ w =>
  ncP t0 <|
  fld 9 t0 w fun t86 w =>
  ld1 t86 w fun t87 w =>
  bi .add .i64 t87 (Value.int IntKind.i64 1) w fun t88 w =>
  ncP t0 <|
  fld 9 t0 w fun t90 w =>
  stN 1 t90 t88 w fun _ w =>
  k1 w)
  (k1 w))))
theorem pacelineref16_Cut_Report_eq (t0 t1 t2 : Value) (w : World) (K : KV) : pacelineref16_Cut_Report t0 t1 t2 w K = fnW prog 91 [6] (match fn26.body with | some c => c | none => .skip) #[t0, t1, t2] w K := by kernel_rfl
theorem pacelineref16_Cut_Report_ok : fnOk prog 91 [6] (match fn26.body with | some c => c | none => .skip) = true := by kernel_rfl
theorem pacelineref16_Cut_Report_calls {t0 t1 t2 : Value} {w : World} {K : KV} (h : pacelineref16_Cut_Report t0 t1 t2 w K) : Cl prog 26 #[t0, t1, t2] w K :=
  ⟨by kernel_rfl, calls_of_F (fn := fn26) (nt := 91) (rs := [6]) mixed fnAt26 (by kernel_rfl) (by kernel_rfl) (by kernel_rfl) (Nat.le_of_ble_eq_true (by kernel_rfl)) pacelineref16_Cut_Report_ok (pacelineref16_Cut_Report_eq t0 t1 t2 w K) h⟩

end Go.Proofs.Ytdiglafiimnfoaa
