/- Printed by prt.py: the Go functions of this seat as shallow predicate transformers. Conditions: none. -/
import Derived.Test.YtdiglafiimnfoaaEngO
import Derived.Test.YtdiglafiimnfoaaPfHead
import Derived.KernelRfl
namespace Go.Proofs.Ytdiglafiimnfoaa
open Go Go.E
set_option linter.unusedVariables false
set_option maxRecDepth 100000
/-- paceline/cut.New -/
def cut_New (t0 : Value) (w : World) (K : KV) : Prop :=
  bi .lss .i64 t0 (Value.int IntKind.i64 1) w fun t5 w =>
  gd t5 false (fun k => k t0 w) w fun t7 w =>
  gd t5 false (fun k => bi .gtr .i64 t7 (Value.int IntKind.i64 8) w k) w fun t8 w =>
  pk t5 (Value.bool true) t8 w fun t9 w =>
  iff' t9
  (K (Value.tuple #[(Value.pointer none), (Value.int IntKind.i64 1)]) w)
  (bld (zeroD prog 117) #[(0, 1), (1, 1), (2, 1), (3, 16), (19, 2), (21, 1), (22, 1)] [(0, t0)] w fun t11 w =>
  al (Value.cells t11) 117 w fun t12 w =>
  K (Value.tuple #[t12, (Value.int IntKind.i64 0)]) w)
theorem cut_New_eq (t0 : Value) (w : World) (K : KV) : cut_New t0 w K = fnW prog 13 [2, 3] (match fn15.body with | some c => c | none => .skip) #[t0] w K := by kernel_rfl
theorem cut_New_ok : fnOk prog 13 [2, 3] (match fn15.body with | some c => c | none => .skip) = true := by kernel_rfl
theorem cut_New_calls {t0 : Value} {w : World} {K : KV} (h : cut_New t0 w K) : Cl prog 15 #[t0] w K :=
  ⟨by kernel_rfl, calls_of_F (fn := fn15) (nt := 13) (rs := [2, 3]) mixed fnAt15 (by kernel_rfl) (by kernel_rfl) (by kernel_rfl) (Nat.le_of_ble_eq_true (by kernel_rfl)) cut_New_ok (cut_New_eq t0 w K) h⟩

/-- paceline/pacelineref16.New -/
def pacelineref16_New (t0 : Value) (w : World) (K : KV) : Prop :=
  bi .lss .i64 t0 (Value.int IntKind.i64 1) w fun t5 w =>
  gd t5 false (fun k => k t0 w) w fun t7 w =>
  gd t5 false (fun k => bi .gtr .i64 t7 (Value.int IntKind.i64 8) w k) w fun t8 w =>
  pk t5 (Value.bool true) t8 w fun t9 w =>
  iff' t9
  (K (Value.tuple #[(Value.pointer none), (Value.int IntKind.i64 1)]) w)
  (dr w fun w =>
  (mkS prog 38 t0 t0 w fun t11 w =>
  (mkS prog 39 t0 t0 w fun t13 w =>
  mkS prog 39 t0 t0 w fun t15 w =>
  bld (zeroD prog 42) #[(0, 1), (1, 1), (2, 1), (3, 2), (5, 1), (6, 1), (7, 1), (8, 1), (9, 1)] [(0, t11), (1, t13), (2, t15)] w fun t16 w =>
  al (Value.cells t16) 42 w fun t17 w =>
  K (Value.tuple #[t17, (Value.int IntKind.i64 0)]) w) ∧ (mkS prog 39 t0 t0 w fun t15_1 w =>
  mkS prog 39 t0 t0 w fun t13_1 w =>
  bld (zeroD prog 42) #[(0, 1), (1, 1), (2, 1), (3, 2), (5, 1), (6, 1), (7, 1), (8, 1), (9, 1)] [(0, t11), (1, t13_1), (2, t15_1)] w fun t16_1 w =>
  al (Value.cells t16_1) 42 w fun t17_1 w =>
  K (Value.tuple #[t17_1, (Value.int IntKind.i64 0)]) w)) ∧ ((mkS prog 39 t0 t0 w fun t13_2 w =>
  (mkS prog 38 t0 t0 w fun t11_1 w =>
  mkS prog 39 t0 t0 w fun t15_2 w =>
  bld (zeroD prog 42) #[(0, 1), (1, 1), (2, 1), (3, 2), (5, 1), (6, 1), (7, 1), (8, 1), (9, 1)] [(0, t11_1), (1, t13_2), (2, t15_2)] w fun t16_2 w =>
  al (Value.cells t16_2) 42 w fun t17_2 w =>
  K (Value.tuple #[t17_2, (Value.int IntKind.i64 0)]) w) ∧ (mkS prog 39 t0 t0 w fun t15_3 w =>
  mkS prog 38 t0 t0 w fun t11_2 w =>
  bld (zeroD prog 42) #[(0, 1), (1, 1), (2, 1), (3, 2), (5, 1), (6, 1), (7, 1), (8, 1), (9, 1)] [(0, t11_2), (1, t13_2), (2, t15_3)] w fun t16_3 w =>
  al (Value.cells t16_3) 42 w fun t17_3 w =>
  K (Value.tuple #[t17_3, (Value.int IntKind.i64 0)]) w)) ∧ (mkS prog 39 t0 t0 w fun t15_4 w =>
  (mkS prog 38 t0 t0 w fun t11_3 w =>
  mkS prog 39 t0 t0 w fun t13_3 w =>
  bld (zeroD prog 42) #[(0, 1), (1, 1), (2, 1), (3, 2), (5, 1), (6, 1), (7, 1), (8, 1), (9, 1)] [(0, t11_3), (1, t13_3), (2, t15_4)] w fun t16_4 w =>
  al (Value.cells t16_4) 42 w fun t17_4 w =>
  K (Value.tuple #[t17_4, (Value.int IntKind.i64 0)]) w) ∧ (mkS prog 39 t0 t0 w fun t13_4 w =>
  mkS prog 38 t0 t0 w fun t11_4 w =>
  bld (zeroD prog 42) #[(0, 1), (1, 1), (2, 1), (3, 2), (5, 1), (6, 1), (7, 1), (8, 1), (9, 1)] [(0, t11_4), (1, t13_4), (2, t15_4)] w fun t16_5 w =>
  al (Value.cells t16_5) 42 w fun t17_5 w =>
  K (Value.tuple #[t17_5, (Value.int IntKind.i64 0)]) w))))
theorem pacelineref16_New_eq (t0 : Value) (w : World) (K : KV) : pacelineref16_New t0 w K = fnW prog 18 [2, 3] (match fn16.body with | some c => c | none => .skip) #[t0] w K := by kernel_rfl
theorem pacelineref16_New_ok : fnOk prog 18 [2, 3] (match fn16.body with | some c => c | none => .skip) = true := by kernel_rfl
theorem pacelineref16_New_calls {t0 : Value} {w : World} {K : KV} (h : pacelineref16_New t0 w K) : Cl prog 16 #[t0] w K :=
  ⟨by kernel_rfl, calls_of_F (fn := fn16) (nt := 18) (rs := [2, 3]) mixed fnAt16 (by kernel_rfl) (by kernel_rfl) (by kernel_rfl) (Nat.le_of_ble_eq_true (by kernel_rfl)) pacelineref16_New_ok (pacelineref16_New_eq t0 w K) h⟩

/-- (*paceline/cut.Cut).Begin -/
def cut_Cut_Begin (t0 : Value) (w : World) (K : KV) : Prop :=
  Cl prog 29 #[t0] w fun t4 w =>
  iff' t4
  (K (Value.int IntKind.i64 130) w)
  (ncP t0 <|
  fld 1 t0 w fun t7 w =>
  ld1 t7 w fun t8 w =>
  bi .add .i64 t8 (Value.int IntKind.i64 1) w fun t9 w =>
  ncP t0 <|
  fld 1 t0 w fun t11 w =>
  stN 1 t11 t9 w fun _ w =>
  ncP t0 <|
  fld 21 t0 w fun t14 w =>
  stN 1 t14 (Value.int IntKind.i64 1125899906842624) w fun _ w =>
  K (Value.int IntKind.i64 0) w)
theorem cut_Cut_Begin_eq (t0 : Value) (w : World) (K : KV) : cut_Cut_Begin t0 w K = fnW prog 15 [2] (match fn17.body with | some c => c | none => .skip) #[t0] w K := by kernel_rfl
theorem cut_Cut_Begin_ok : fnOk prog 15 [2] (match fn17.body with | some c => c | none => .skip) = true := by kernel_rfl
theorem cut_Cut_Begin_calls {t0 : Value} {w : World} {K : KV} (h : cut_Cut_Begin t0 w K) : Cl prog 17 #[t0] w K :=
  ⟨by kernel_rfl, calls_of_F (fn := fn17) (nt := 15) (rs := [2]) mixed fnAt17 (by kernel_rfl) (by kernel_rfl) (by kernel_rfl) (Nat.le_of_ble_eq_true (by kernel_rfl)) cut_Cut_Begin_ok (cut_Cut_Begin_eq t0 w K) h⟩

/-- (*paceline/pacelineref16.Cut).Begin -/
def pacelineref16_Cut_Begin (t0 : Value) (w : World) (K : KV) : Prop :=
  ncP t0 <|
  fld 5 t0 w fun t5 w =>
  ld1 t5 w fun t6 w =>
  iff' t6
  (K (Value.int IntKind.i64 130) w)
  (ncP t0 <|
  fld 5 t0 w fun t9 w =>
  stN 1 t9 (Value.bool true) w fun _ w =>
  ncP t0 <|
  fld 0 t0 w fun t13 w =>
  ld1 t13 w fun t14 w =>
  ixS 1 t14 (Value.int IntKind.i64 0) w fun t15 w =>
  ld1 t15 w fun t16 w =>
  ncP t0 <|
  fld 6 t0 w fun t18 w =>
  stN 1 t18 t16 w fun _ w =>
  ncP t0 <|
  fld 7 t0 w fun t21 w =>
  stN 1 t21 (Value.int IntKind.i64 1125899906842624) w fun _ w =>
  ncP t0 <|
  fld 0 t0 w fun t25 w =>
  ld1 t25 w fun t26 w =>
  lnS t26 w fun t27 w =>
  mkS prog 39 t27 t27 w fun t28 w =>
  ncP t0 <|
  fld 1 t0 w fun t30 w =>
  stN 1 t30 t28 w fun _ w =>
  ncP t0 <|
  fld 0 t0 w fun t34 w =>
  ld1 t34 w fun t35 w =>
  lnS t35 w fun t36 w =>
  mkS prog 39 t36 t36 w fun t37 w =>
  ncP t0 <|
  fld 2 t0 w fun t39 w =>
  stN 1 t39 t37 w fun _ w =>
  K (Value.int IntKind.i64 0) w)
theorem pacelineref16_Cut_Begin_eq (t0 : Value) (w : World) (K : KV) : pacelineref16_Cut_Begin t0 w K = fnW prog 40 [2] (match fn18.body with | some c => c | none => .skip) #[t0] w K := by kernel_rfl
theorem pacelineref16_Cut_Begin_ok : fnOk prog 40 [2] (match fn18.body with | some c => c | none => .skip) = true := by kernel_rfl
theorem pacelineref16_Cut_Begin_calls {t0 : Value} {w : World} {K : KV} (h : pacelineref16_Cut_Begin t0 w K) : Cl prog 18 #[t0] w K :=
  ⟨by kernel_rfl, calls_of_F (fn := fn18) (nt := 40) (rs := [2]) mixed fnAt18 (by kernel_rfl) (by kernel_rfl) (by kernel_rfl) (Nat.le_of_ble_eq_true (by kernel_rfl)) pacelineref16_Cut_Begin_ok (pacelineref16_Cut_Begin_eq t0 w K) h⟩

/-- (*paceline/cut.Cut).Sent -/
def cut_Cut_Sent (t0 t1 t2 : Value) (w : World) (K : KV) : Prop :=
  Cl prog 75 #[t0, t1] w fun t11 w =>
  bnot t11 w fun t12 w =>
  gd t12 false (fun k => k t2 w) w fun t14 w =>
  gd t12 false (fun k => Cl prog 76 #[t14] w k) w fun t15 w =>
  gd t12 false (fun k => bnot t15 w k) w fun t16 w =>
  pk t12 (Value.bool true) t16 w fun t17 w =>
  iff' t17
  (K (Value.tuple #[(Value.int IntKind.i64 0), (Value.int IntKind.i64 1)]) w)
  (Cl prog 30 #[t0, t1] w fun t20 w =>
  dr w fun w =>
  ncP t0 <|
  fld 19 t0 w fun t24 _ =>
  ixA 2 1 t24 t20 w fun t25 _ =>
  ld1 t25 w fun t26 _ =>
  bi .add .i64 t26 (Value.int IntKind.i64 1) w fun t27 _ =>
  ncP t0 <|
  fld 19 t0 w fun t29 _ =>
  ixA 2 1 t29 t20 w fun t30 _ =>
  stN 1 t30 t27 w fun _ w =>
  dr w fun w =>
  Cl prog 29 #[t0] w fun t32 w =>
  gd t32 true (fun k => k t0 w) w fun t34 _ =>
  gd t32 true (fun k => k t1 w) w fun t35 _ =>
  gd t32 true (fun k => nc t34 w k) w fun t36 _ =>
  gd t32 true (fun k => fld 3 t36 w k) w fun t37 _ =>
  gd t32 true (fun k => ixA 8 2 t37 t35 w k) w fun t38 _ =>
  gd t32 true (fun k => ldN 2 t38 w k) w fun t39 _ =>
  gd t32 true (fun k => k t0 w) w fun t40 _ =>
  gd t32 true (fun k => nc t40 w k) w fun t41 _ =>
  gd t32 true (fun k => fld 1 t41 w k) w fun t42 _ =>
  gd t32 true (fun k => ld1 t42 w k) w fun t43 _ =>
  gd t32 true (fun k => Cl prog 77 #[t39, t43] w k) w fun t44 w =>
  pk t32 t44 (Value.bool false) w fun t45 _ =>
  J0 (fun w =>
  K (Value.tuple #[t20, (Value.int IntKind.i64 0)]) w) fun k1 =>
  iff' t45
  (ncP t0 <|
  fld 21 t0 w fun t49 w =>
  ld1 t49 w fun t50 w =>
  mnI .i64 t50 t2 w fun t52 w =>
  ncP t0 <|
  fld 21 t0 w fun t54 w =>
  stN 1 t54 t52 w fun _ w =>
  k1 w)
  (k1 w))
theorem cut_Cut_Sent_eq (t0 t1 t2 : Value) (w : World) (K : KV) : cut_Cut_Sent t0 t1 t2 w K = fnW prog 56 [6, 7] (match fn19.body with | some c => c | none => .skip) #[t0, t1, t2] w K := by kernel_rfl
theorem cut_Cut_Sent_ok : fnOk prog 56 [6, 7] (match fn19.body with | some c => c | none => .skip) = true := by kernel_rfl
theorem cut_Cut_Sent_calls {t0 t1 t2 : Value} {w : World} {K : KV} (h : cut_Cut_Sent t0 t1 t2 w K) : Cl prog 19 #[t0, t1, t2] w K :=
  ⟨by kernel_rfl, calls_of_F (fn := fn19) (nt := 56) (rs := [6, 7]) mixed fnAt19 (by kernel_rfl) (by kernel_rfl) (by kernel_rfl) (Nat.le_of_ble_eq_true (by kernel_rfl)) cut_Cut_Sent_ok (cut_Cut_Sent_eq t0 t1 t2 w K) h⟩

/-- (*paceline/pacelineref16.Cut).Sent -/
def pacelineref16_Cut_Sent (t0 t1 t2 : Value) (w : World) (K : KV) : Prop :=
  Cl prog 78 #[t0, t1] w fun t10 w =>
  bnot t10 w fun t11 w =>
  gd t11 false (fun k => k t2 w) w fun t13 w =>
  gd t11 false (fun k => Cl prog 79 #[t13] w k) w fun t14 w =>
  gd t11 false (fun k => bnot t14 w k) w fun t15 w =>
  pk t11 (Value.bool true) t15 w fun t16 w =>
  iff' t16
  (K (Value.tuple #[(Value.int IntKind.i64 0), (Value.int IntKind.i64 1)]) w)
  (dr w fun w =>
  ncP t0 <|
  fld 0 t0 w fun t20 _ =>
  ld1 t20 w fun t21 _ =>
  ixS 1 t21 t1 w fun t23 _ =>
  ld1 t23 w fun t24 _ =>
  ncP t0 <|
  fld 0 t0 w fun t28 _ =>
  ld1 t28 w fun t29 _ =>
  ixS 1 t29 t1 w fun t31 _ =>
  ld1 t31 w fun t32 _ =>
  ncP t0 <|
  fld 3 t0 w fun t34 _ =>
  ixA 2 1 t34 t32 w fun t35 _ =>
  ld1 t35 w fun t36 _ =>
  bi .add .i64 t36 (Value.int IntKind.i64 1) w fun t37 _ =>
  ncP t0 <|
  fld 3 t0 w fun t39 _ =>
  ixA 2 1 t39 t24 w fun t40 _ =>
  stN 1 t40 t37 w fun _ w =>
  ncP t0 <|
  fld 5 t0 w fun t43 w =>
  ld1 t43 w fun t44 w =>
  gd t44 true (fun k => k t0 w) w fun t46 w =>
  gd t44 true (fun k => nc t46 w k) w fun t47 w =>
  gd t44 true (fun k => fld 1 t47 w k) w fun t48 w =>
  gd t44 true (fun k => ld1 t48 w k) w fun t49 w =>
  gd t44 true (fun k => k t1 w) w fun t50 w =>
  gd t44 true (fun k => ixS 1 t49 t50 w k) w fun t51 w =>
  gd t44 true (fun k => ld1 t51 w k) w fun t52 w =>
  pk t44 t52 (Value.bool false) w fun t53 w =>
  J0 (fun w =>
  ncP t0 <|
  fld 0 t0 w fun t65 w =>
  ld1 t65 w fun t66 w =>
  ixS 1 t66 t1 w fun t68 w =>
  ld1 t68 w fun t69 w =>
  K (Value.tuple #[t69, (Value.int IntKind.i64 0)]) w) fun k1 =>
  iff' t53
  (ncP t0 <|
  fld 7 t0 w fun t57 w =>
  ld1 t57 w fun t58 w =>
  mnI .i64 t58 t2 w fun t60 w =>
  ncP t0 <|
  fld 7 t0 w fun t62 w =>
  stN 1 t62 t60 w fun _ w =>
  k1 w)
  (k1 w))
theorem pacelineref16_Cut_Sent_eq (t0 t1 t2 : Value) (w : World) (K : KV) : pacelineref16_Cut_Sent t0 t1 t2 w K = fnW prog 70 [6, 7] (match fn20.body with | some c => c | none => .skip) #[t0, t1, t2] w K := by kernel_rfl
theorem pacelineref16_Cut_Sent_ok : fnOk prog 70 [6, 7] (match fn20.body with | some c => c | none => .skip) = true := by kernel_rfl
theorem pacelineref16_Cut_Sent_calls {t0 t1 t2 : Value} {w : World} {K : KV} (h : pacelineref16_Cut_Sent t0 t1 t2 w K) : Cl prog 20 #[t0, t1, t2] w K :=
  ⟨by kernel_rfl, calls_of_F (fn := fn20) (nt := 70) (rs := [6, 7]) mixed fnAt20 (by kernel_rfl) (by kernel_rfl) (by kernel_rfl) (Nat.le_of_ble_eq_true (by kernel_rfl)) pacelineref16_Cut_Sent_ok (pacelineref16_Cut_Sent_eq t0 t1 t2 w K) h⟩

end Go.Proofs.Ytdiglafiimnfoaa
