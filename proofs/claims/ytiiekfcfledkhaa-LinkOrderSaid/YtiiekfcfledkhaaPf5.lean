/- Printed by prt.py: the Go functions of this seat as shallow predicate transformers. Conditions: none. -/
import Derived.Test.YtiiekfcfledkhaaEngO
import Derived.Test.YtiiekfcfledkhaaPfHead
import Derived.KernelRfl
namespace Go.Proofs.Ytiiekfcfledkhaa
open Go Go.E
/-- (*paceline/cut.Cut).Turn -/
def cut_Cut_Turn (t0 t1 : Value) (w : World) (K : KV) : Prop :=
  Cl prog 59 #[t0, t1] w fun t8 w =>
  bnot t8 w fun t9 w =>
  iff' t9
  (K (Value.int IntKind.i64 1) w)
  (dr w fun w =>
  Cl prog 37 #[t0] w fun t12 w =>
  bnot t12 w fun t13 _ =>
  gd t13 false (fun k => k t0 w) w fun t15 _ =>
  gd t13 false (fun k => k t1 w) w fun t16 _ =>
  gd t13 false (fun k => nc t15 w k) w fun t17 _ =>
  gd t13 false (fun k => fld 3 t17 w k) w fun t18 _ =>
  gd t13 false (fun k => ixA 8 2 t18 t16 w k) w fun t19 _ =>
  gd t13 false (fun k => ldN 2 t19 w k) w fun t20 _ =>
  gd t13 false (fun k => k t0 w) w fun t21 _ =>
  gd t13 false (fun k => nc t21 w k) w fun t22 _ =>
  gd t13 false (fun k => fld 1 t22 w k) w fun t23 _ =>
  gd t13 false (fun k => ld1 t23 w k) w fun t24 _ =>
  gd t13 false (fun k => Cl prog 60 #[t20, t24] w k) w fun t25 w =>
  pk t13 (Value.bool true) t25 w fun t26 _ =>
  iff' t26
  (K (Value.int IntKind.i64 130) w)
  (dr w fun w =>
  ncP t0 <|
  fld 1 t0 w fun t31 _ =>
  ld1 t31 w fun t32 _ =>
  ncP t0 <|
  fld 3 t0 w fun t34 _ =>
  ixA 8 2 t34 t1 w fun t35 _ =>
  fld 0 t35 w fun t36 _ =>
  stN 1 t36 t32 w fun _ w =>
  K (Value.int IntKind.i64 0) w))
theorem cut_Cut_Turn_eq (t0 t1 : Value) (w : World) (K : KV) : cut_Cut_Turn t0 t1 w K = fnW prog 37 [4] (match fn33.body with | some c => c | none => .skip) #[t0, t1] w K := by kernel_rfl
theorem cut_Cut_Turn_ok : fnOk prog 37 [4] (match fn33.body with | some c => c | none => .skip) = true := by kernel_rfl
theorem cut_Cut_Turn_calls {t0 t1 : Value} {w : World} {K : KV} (h : cut_Cut_Turn t0 t1 w K) : Cl prog 33 #[t0, t1] w K :=
  ⟨by kernel_rfl, calls_of_F (fn := fn33) (nt := 37) (rs := [4]) mixed fnAt33 (by kernel_rfl) (by kernel_rfl) (by kernel_rfl) (Nat.le_of_ble_eq_true (by kernel_rfl)) cut_Cut_Turn_ok (cut_Cut_Turn_eq t0 t1 w K) h⟩

/-- (*paceline/cut.Cut).Colour -/
def cut_Cut_Colour (t0 t1 : Value) (w : World) (K : KV) : Prop :=
  Cl prog 59 #[t0, t1] w fun t7 w =>
  bnot t7 w fun t8 w =>
  iff' t8
  (K (Value.int IntKind.i64 (-1)) w)
  (ncP t0 <|
  fld 3 t0 w fun t12 w =>
  ixA 8 2 t12 t1 w fun t13 w =>
  fld 0 t13 w fun t14 w =>
  ld1 t14 w fun t15 w =>
  bO prog .and 3 (Operand.tmp 15) (Operand.const (Value.int IntKind.i64 1)) t15 (Value.int IntKind.i64 1) w fun t16 w =>
  K t16 w)
theorem cut_Cut_Colour_eq (t0 t1 : Value) (w : World) (K : KV) : cut_Cut_Colour t0 t1 w K = fnW prog 17 [4] (match fn34.body with | some c => c | none => .skip) #[t0, t1] w K := by kernel_rfl
theorem cut_Cut_Colour_ok : fnOk prog 17 [4] (match fn34.body with | some c => c | none => .skip) = true := by kernel_rfl
theorem cut_Cut_Colour_calls {t0 t1 : Value} {w : World} {K : KV} (h : cut_Cut_Colour t0 t1 w K) : Cl prog 34 #[t0, t1] w K :=
  ⟨by kernel_rfl, calls_of_F (fn := fn34) (nt := 17) (rs := [4]) mixed fnAt34 (by kernel_rfl) (by kernel_rfl) (by kernel_rfl) (Nat.le_of_ble_eq_true (by kernel_rfl)) cut_Cut_Colour_ok (cut_Cut_Colour_eq t0 t1 w K) h⟩

/-- (*paceline/cut.Cut).Report -/
def cut_Cut_Report (t0 t1 t2 : Value) (w : World) (K : KV) : Prop :=
  Cl prog 59 #[t0, t1] w fun t10 w =>
  bnot t10 w fun t11 w =>
  gd t11 false (fun k => k t2 w) w fun t13 w =>
  gd t11 false (fun k => Cl prog 53 #[t13] w k) w fun t14 w =>
  gd t11 false (fun k => bnot t14 w k) w fun t15 w =>
  pk t11 (Value.bool true) t15 w fun t16 w =>
  iff' t16
  (K (Value.int IntKind.i64 1) w)
  (dr w fun w =>
  Cl prog 37 #[t0] w fun t19 w =>
  bnot t19 w fun t20 _ =>
  gd t20 false (fun k => k t0 w) w fun t22 _ =>
  gd t20 false (fun k => Cl prog 61 #[t22, (Value.func (.func 60) #[] #[])] w k) w fun t23 w =>
  gd t20 false (fun k => bnot t23 w k) w fun t24 _ =>
  pk t20 (Value.bool true) t24 w fun t25 _ =>
  gd t25 false (fun k => k t0 w) w fun t27 _ =>
  gd t25 false (fun k => k t1 w) w fun t28 _ =>
  gd t25 false (fun k => nc t27 w k) w fun t29 _ =>
  gd t25 false (fun k => fld 3 t29 w k) w fun t30 _ =>
  gd t25 false (fun k => ixA 8 2 t30 t28 w k) w fun t31 _ =>
  gd t25 false (fun k => ldN 2 t31 w k) w fun t32 _ =>
  gd t25 false (fun k => k t0 w) w fun t33 _ =>
  gd t25 false (fun k => nc t33 w k) w fun t34 _ =>
  gd t25 false (fun k => fld 1 t34 w k) w fun t35 _ =>
  gd t25 false (fun k => ld1 t35 w k) w fun t36 _ =>
  gd t25 false (fun k => Cl prog 62 #[t32, t36] w k) w fun t37 w =>
  pk t25 (Value.bool true) t37 w fun t38 _ =>
  iff' t38
  (K (Value.int IntKind.i64 130) w)
  (dr w fun w =>
  ncP t0 <|
  fld 2 t0 w fun t43 _ =>
  ld1 t43 w fun t44 _ =>
  ncP t0 <|
  fld 19 t0 w fun t47 _ =>
  bO prog .and 3 (Operand.tmp 44) (Operand.const (Value.int IntKind.i64 1)) t44 (Value.int IntKind.i64 1) w fun t45 w =>
  ixA 2 1 t47 t45 w fun t48 _ =>
  ld1 t48 w fun t49 _ =>
  bi .gtr .i64 t49 (Value.int IntKind.i64 0) w fun t50 _ =>
  iff' t50
  (K (Value.int IntKind.i64 150) w)
  (dr w fun w =>
  ncP t0 <|
  fld 1 t0 w fun t55 _ =>
  ld1 t55 w fun t56 _ =>
  ncP t0 <|
  fld 3 t0 w fun t58 _ =>
  ixA 8 2 t58 t1 w fun t59 _ =>
  fld 1 t59 w fun t60 _ =>
  stN 1 t60 t56 w fun _ w =>
  ncP t0 <|
  fld 21 t0 w fun t64 w =>
  ld1 t64 w fun t65 w =>
  mnI .i64 t65 t2 w fun t67 w =>
  ncP t0 <|
  fld 21 t0 w fun t69 w =>
  stN 1 t69 t67 w fun _ w =>
  Cl prog 61 #[t0, (Value.func (.func 62) #[] #[])] w fun t71 w =>
  J0 (fun w =>
  K (Value.int IntKind.i64 0) w) fun k1 =>
  iff' t71
  (ncP t0 <|
  fld 1 t0 w fun t75 w =>
  ld1 t75 w fun t76 w =>
  ncP t0 <|
  fld 2 t0 w fun t78 w =>
  stN 1 t78 t76 w fun _ w =>
  dr w fun w =>
  ncP t0 <|
  fld 22 t0 w fun t82 _ =>
  ld1 t82 w fun t83 _ =>
  ncP t0 <|
  fld 21 t0 w fun t86 _ =>
  ld1 t86 w fun t87 _ =>
  mxI .i64 t83 t87 w fun t88 w =>
  ncP t0 <|
  fld 22 t0 w fun t90 _ =>
  stN 1 t90 t88 w fun _ w =>
  k1 w)
  (k1 w))))
theorem cut_Cut_Report_eq (t0 t1 t2 : Value) (w : World) (K : KV) : cut_Cut_Report t0 t1 t2 w K = fnW prog 91 [6] (match fn35.body with | some c => c | none => .skip) #[t0, t1, t2] w K := by kernel_rfl
theorem cut_Cut_Report_ok : fnOk prog 91 [6] (match fn35.body with | some c => c | none => .skip) = true := by kernel_rfl
theorem cut_Cut_Report_calls {t0 t1 t2 : Value} {w : World} {K : KV} (h : cut_Cut_Report t0 t1 t2 w K) : Cl prog 35 #[t0, t1, t2] w K :=
  ⟨by kernel_rfl, calls_of_F (fn := fn35) (nt := 91) (rs := [6]) mixed fnAt35 (by kernel_rfl) (by kernel_rfl) (by kernel_rfl) (Nat.le_of_ble_eq_true (by kernel_rfl)) cut_Cut_Report_ok (cut_Cut_Report_eq t0 t1 t2 w K) h⟩

/-- (*paceline/cut.Cut).Value -/
def cut_Cut_Value (t0 : Value) (w : World) (K : KV) : Prop :=
  ncP t0 <|
  fld 22 t0 w fun t5 w =>
  ld1 t5 w fun t6 w =>
  K t6 w
theorem cut_Cut_Value_eq (t0 : Value) (w : World) (K : KV) : cut_Cut_Value t0 w K = fnW prog 7 [2] (match fn36.body with | some c => c | none => .skip) #[t0] w K := by kernel_rfl
theorem cut_Cut_Value_ok : fnOk prog 7 [2] (match fn36.body with | some c => c | none => .skip) = true := by kernel_rfl
theorem cut_Cut_Value_calls {t0 : Value} {w : World} {K : KV} (h : cut_Cut_Value t0 w K) : Cl prog 36 #[t0] w K :=
  ⟨by kernel_rfl, calls_of_F (fn := fn36) (nt := 7) (rs := [2]) mixed fnAt36 (by kernel_rfl) (by kernel_rfl) (by kernel_rfl) (Nat.le_of_ble_eq_true (by kernel_rfl)) cut_Cut_Value_ok (cut_Cut_Value_eq t0 w K) h⟩

/-- (*paceline/cut.Cut).Under -/
def cut_Cut_Under (t0 : Value) (w : World) (K : KV) : Prop :=
  dr w fun w =>
  ncP t0 <|
  fld 1 t0 w fun t5 _ =>
  ld1 t5 w fun t6 _ =>
  ncP t0 <|
  fld 2 t0 w fun t9 _ =>
  ld1 t9 w fun t10 _ =>
  bi .gtr .i64 t6 t10 w fun t11 _ =>
  K t11 w
theorem cut_Cut_Under_eq (t0 : Value) (w : World) (K : KV) : cut_Cut_Under t0 w K = fnW prog 12 [2] (match fn37.body with | some c => c | none => .skip) #[t0] w K := by kernel_rfl
theorem cut_Cut_Under_ok : fnOk prog 12 [2] (match fn37.body with | some c => c | none => .skip) = true := by kernel_rfl
theorem cut_Cut_Under_calls {t0 : Value} {w : World} {K : KV} (h : cut_Cut_Under t0 w K) : Cl prog 37 #[t0] w K :=
  ⟨by kernel_rfl, calls_of_F (fn := fn37) (nt := 12) (rs := [2]) mixed fnAt37 (by kernel_rfl) (by kernel_rfl) (by kernel_rfl) (Nat.le_of_ble_eq_true (by kernel_rfl)) cut_Cut_Under_ok (cut_Cut_Under_eq t0 w K) h⟩

/-- (*paceline/cut.Cut).Rounds -/
def cut_Cut_Rounds (t0 : Value) (w : World) (K : KV) : Prop :=
  ncP t0 <|
  fld 2 t0 w fun t5 w =>
  ld1 t5 w fun t6 w =>
  K t6 w
theorem cut_Cut_Rounds_eq (t0 : Value) (w : World) (K : KV) : cut_Cut_Rounds t0 w K = fnW prog 7 [2] (match fn38.body with | some c => c | none => .skip) #[t0] w K := by kernel_rfl
theorem cut_Cut_Rounds_ok : fnOk prog 7 [2] (match fn38.body with | some c => c | none => .skip) = true := by kernel_rfl
theorem cut_Cut_Rounds_calls {t0 : Value} {w : World} {K : KV} (h : cut_Cut_Rounds t0 w K) : Cl prog 38 #[t0] w K :=
  ⟨by kernel_rfl, calls_of_F (fn := fn38) (nt := 7) (rs := [2]) mixed fnAt38 (by kernel_rfl) (by kernel_rfl) (by kernel_rfl) (Nat.le_of_ble_eq_true (by kernel_rfl)) cut_Cut_Rounds_ok (cut_Cut_Rounds_eq t0 w K) h⟩

end Go.Proofs.Ytiiekfcfledkhaa
