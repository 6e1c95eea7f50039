/- Printed by prt.py: the Go functions of this seat as shallow predicate transformers. Conditions: none. -/
import Derived.Test.YtdiglafiimnfoaaEngO
import Derived.Test.YtdiglafiimnfoaaPfHead
import Derived.KernelRfl
namespace Go.Proofs.Ytdiglafiimnfoaa
open Go Go.E
set_option linter.unusedVariables false
set_option maxRecDepth 100000
/-- (*paceline/pacelineref14.Gate).Open -/
def pacelineref14_Gate_Open (t0 t1 : Value) (w : World) (K : KV) : Prop :=
  bsl 170 9 0 #[] [] w fun t14 w =>
  bsl 170 9 0 #[] [] w fun t15 w =>
  lp [t14, t15, (Value.int IntKind.i64 0)] w (b3 fun t5 t6 t7 w g1 =>
  ncP t0 <|
  fld 1 t0 w fun t19 w =>
  ld1 t19 w fun t20 w =>
  lnS t20 w fun t21 w =>
  bi .lss .i64 t7 t21 w fun t22 w =>
  iff' t22
  (J2 (fun t5_1 t6_1 w =>
  bi .add .i64 t7 (Value.int IntKind.i64 1) w fun t24 w =>
  g1 [t5_1, t6_1, t24] w) fun k2 =>
  ncP t0 <|
  fld 1 t0 w fun t27 w =>
  ld1 t27 w fun t28 w =>
  ixS 9 t28 t7 w fun t30 w =>
  ldN 9 t30 w fun t31 w =>
  al (zeroD prog 170) 170 w fun t8 w =>
  stN 9 t8 t31 w fun _ w =>
  fld 0 t8 w fun t32 w =>
  fld 0 t32 w fun t33 w =>
  ld1 t33 w fun t34 w =>
  bi .geq .i64 t34 t1 w fun t36 w =>
  iff' t36
  (ldN 9 t8 w fun t38 w =>
  bsl 170 9 1 (zeroD prog 170) [(0, t38)] w fun t39 w =>
  apS prog #[110, 110] 110 t6 t39 w fun t40 w =>
  k2 t5 t40 w)
  (bsl 170 9 0 #[] [] w fun t41 w =>
  lp [t41, (Value.bool false), (Value.int IntKind.i64 0)] w (b3 fun t9 t10 t11 w g3 =>
  lnS t5 w fun t44 w =>
  bi .lss .i64 t11 t44 w fun t45 w =>
  iff' t45
  (dr w fun w =>
  bnot t10 w fun t49 _ =>
  gd t49 true (fun k => fld 0 t8 w k) w fun t51 _ =>
  gd t49 true (fun k => ldN 3 t51 w k) w fun t52 _ =>
  gd t49 true (fun k => k t5 w) w fun t53 _ =>
  gd t49 true (fun k => k t11 w) w fun t54 _ =>
  gd t49 true (fun k => ixS 9 t53 t54 w k) w fun t55 _ =>
  gd t49 true (fun k => fld 0 t55 w k) w fun t56 _ =>
  gd t49 true (fun k => ldN 3 t56 w k) w fun t57 _ =>
  gd t49 true (fun k => Cl prog 55 #[t52, t57] w k) w fun t58 w =>
  gd t49 true (fun k => bi .lss .i64 t58 (Value.int IntKind.i64 0) w k) w fun t59 _ =>
  pk t49 t59 (Value.bool false) w fun t60 _ =>
  J2 (fun t9_1 t10_1 w =>
  ixS 9 t5 t11 w fun t68 w =>
  ldN 9 t68 w fun t69 w =>
  bsl 170 9 1 (zeroD prog 170) [(0, t69)] w fun t70 w =>
  apS prog #[110, 110] 110 t9_1 t70 w fun t71 w =>
  bi .add .i64 t11 (Value.int IntKind.i64 1) w fun t47 w =>
  g3 [t71, t10_1, t47] w) fun k4 =>
  iff' t60
  (ldN 9 t8 w fun t62 w =>
  bsl 170 9 1 (zeroD prog 170) [(0, t62)] w fun t63 w =>
  apS prog #[110, 110] 110 t9 t63 w fun t64 w =>
  k4 t64 (Value.bool true) w)
  (k4 t9 t10 w))
  (bnot t10 w fun t73 w =>
  J1 (fun t9_2 w =>
  k2 t9_2 t6 w) fun k5 =>
  iff' t73
  (ldN 9 t8 w fun t75 w =>
  bsl 170 9 1 (zeroD prog 170) [(0, t75)] w fun t76 w =>
  apS prog #[110, 110] 110 t9 t76 w fun t77 w =>
  k5 t77 w)
  (k5 t9 w)))))
  (bsl 63 6 0 #[] [] w fun t79 w =>
  lp [t79, (Value.int IntKind.i64 0)] w (b2 fun t12 t13 w g6 =>
  lnS t5 w fun t82 w =>
  bi .lss .i64 t13 t82 w fun t83 w =>
  iff' t83
  (ixS 9 t5 t13 w fun t89 w =>
  fld 3 t89 w fun t90 w =>
  ldN 6 t90 w fun t91 w =>
  bsl 63 6 1 (zeroD prog 63) [(0, t91)] w fun t92 w =>
  apS prog #[78, 78] 78 t12 t92 w fun t93 w =>
  bi .add .i64 t13 (Value.int IntKind.i64 1) w fun t85 w =>
  g6 [t93, t85] w)
  (ncP t0 <|
  fld 1 t0 w fun t97 w =>
  stN 1 t97 t6 w fun _ w =>
  ncP t0 <|
  fld 0 t0 w fun t101 w =>
  ld1 t101 w fun t102 w =>
  mxI .i64 t102 t1 w fun t104 w =>
  ncP t0 <|
  fld 0 t0 w fun t106 w =>
  stN 1 t106 t104 w fun _ w =>
  K t12 w))))
theorem pacelineref14_Gate_Open_eq (t0 t1 : Value) (w : World) (K : KV) : pacelineref14_Gate_Open t0 t1 w K = fnW prog 108 [4] (match fn72.body with | some c => c | none => .skip) #[t0, t1] w K := by kernel_rfl
theorem pacelineref14_Gate_Open_ok : fnOk prog 108 [4] (match fn72.body with | some c => c | none => .skip) = true := by kernel_rfl
theorem pacelineref14_Gate_Open_calls {t0 t1 : Value} {w : World} {K : KV} (h : pacelineref14_Gate_Open t0 t1 w K) : Cl prog 72 #[t0, t1] w K :=
  ⟨by kernel_rfl, calls_of_F (fn := fn72) (nt := 108) (rs := [4]) mixed fnAt72 (by kernel_rfl) (by kernel_rfl) (by kernel_rfl) (Nat.le_of_ble_eq_true (by kernel_rfl)) pacelineref14_Gate_Open_ok (pacelineref14_Gate_Open_eq t0 t1 w K) h⟩

/-- (*paceline/pacelineref14.Gate).Retract -/
def pacelineref14_Gate_Retract (t0 t1 : Value) (w : World) (K : KV) : Prop :=
  al (Value.cells t1) 61 w fun t3 w =>
  bsl 170 9 0 #[] [] w fun t9 w =>
  lp [t9, (Value.int IntKind.i64 0)] w (b2 fun t6 t7 w g1 =>
  ncP t0 <|
  fld 1 t0 w fun t13 w =>
  ld1 t13 w fun t14 w =>
  lnS t14 w fun t15 w =>
  bi .lss .i64 t7 t15 w fun t16 w =>
  iff' t16
  (J1 (fun t6_1 w =>
  bi .add .i64 t7 (Value.int IntKind.i64 1) w fun t18 w =>
  g1 [t6_1, t18] w) fun k2 =>
  dr w fun w =>
  ncP t0 <|
  fld 1 t0 w fun t21 _ =>
  ld1 t21 w fun t22 _ =>
  ixS 9 t22 t7 w fun t24 _ =>
  fld 3 t24 w fun t25 _ =>
  fld 0 t25 w fun t26 _ =>
  ldN 3 t26 w fun t27 _ =>
  ldN 3 t3 w fun t28 _ =>
  bO prog .neq 61 (Operand.tmp 27) (Operand.tmp 28) t27 t28 w fun t29 w =>
  iff' t29
  (ncP t0 <|
  fld 1 t0 w fun t33 w =>
  ld1 t33 w fun t34 w =>
  ixS 9 t34 t7 w fun t36 w =>
  ldN 9 t36 w fun t37 w =>
  bsl 170 9 1 (zeroD prog 170) [(0, t37)] w fun t38 w =>
  apS prog #[110, 110] 110 t6 t38 w fun t39 w =>
  k2 t39 w)
  (k2 t6 w))
  (ncP t0 <|
  fld 1 t0 w fun t42 w =>
  ld1 t42 w fun t43 w =>
  lnS t43 w fun t44 w =>
  lnS t6 w fun t46 w =>
  bi .sub .i64 t44 t46 w fun t47 w =>
  bi .eql .i64 t47 (Value.int IntKind.i64 0) w fun t49 w =>
  iff' t49
  (K (Value.tuple #[(Value.int IntKind.i64 0), (Value.int IntKind.i64 209)]) w)
  (ncP t0 <|
  fld 1 t0 w fun t53 w =>
  stN 1 t53 t6 w fun _ w =>
  K (Value.tuple #[t47, (Value.int IntKind.i64 0)]) w)))
theorem pacelineref14_Gate_Retract_eq (t0 t1 : Value) (w : World) (K : KV) : pacelineref14_Gate_Retract t0 t1 w K = fnW prog 55 [4, 5] (match fn73.body with | some c => c | none => .skip) #[t0, t1] w K := by kernel_rfl
theorem pacelineref14_Gate_Retract_ok : fnOk prog 55 [4, 5] (match fn73.body with | some c => c | none => .skip) = true := by kernel_rfl
theorem pacelineref14_Gate_Retract_calls {t0 t1 : Value} {w : World} {K : KV} (h : pacelineref14_Gate_Retract t0 t1 w K) : Cl prog 73 #[t0, t1] w K :=
  ⟨by kernel_rfl, calls_of_F (fn := fn73) (nt := 55) (rs := [4, 5]) mixed fnAt73 (by kernel_rfl) (by kernel_rfl) (by kernel_rfl) (Nat.le_of_ble_eq_true (by kernel_rfl)) pacelineref14_Gate_Retract_ok (pacelineref14_Gate_Retract_eq t0 t1 w K) h⟩

/-- (*paceline/pacelineref14.Gate).Held -/
def pacelineref14_Gate_Held (t0 : Value) (w : World) (K : KV) : Prop :=
  bsl 63 6 0 #[] [] w fun t5 w =>
  lp [t5, (Value.int IntKind.i64 0)] w (b2 fun t3 t4 w g1 =>
  ncP t0 <|
  fld 1 t0 w fun t9 w =>
  ld1 t9 w fun t10 w =>
  lnS t10 w fun t11 w =>
  bi .lss .i64 t4 t11 w fun t12 w =>
  iff' t12
  (ncP t0 <|
  fld 1 t0 w fun t18 w =>
  ld1 t18 w fun t19 w =>
  ixS 9 t19 t4 w fun t21 w =>
  fld 3 t21 w fun t22 w =>
  ldN 6 t22 w fun t23 w =>
  bsl 63 6 1 (zeroD prog 63) [(0, t23)] w fun t24 w =>
  apS prog #[78, 78] 78 t3 t24 w fun t25 w =>
  bi .add .i64 t4 (Value.int IntKind.i64 1) w fun t14 w =>
  g1 [t25, t14] w)
  (K t3 w))
theorem pacelineref14_Gate_Held_eq (t0 : Value) (w : World) (K : KV) : pacelineref14_Gate_Held t0 w K = fnW prog 27 [2] (match fn74.body with | some c => c | none => .skip) #[t0] w K := by kernel_rfl
theorem pacelineref14_Gate_Held_ok : fnOk prog 27 [2] (match fn74.body with | some c => c | none => .skip) = true := by kernel_rfl
theorem pacelineref14_Gate_Held_calls {t0 : Value} {w : World} {K : KV} (h : pacelineref14_Gate_Held t0 w K) : Cl prog 74 #[t0] w K :=
  ⟨by kernel_rfl, calls_of_F (fn := fn74) (nt := 27) (rs := [2]) mixed fnAt74 (by kernel_rfl) (by kernel_rfl) (by kernel_rfl) (Nat.le_of_ble_eq_true (by kernel_rfl)) pacelineref14_Gate_Held_ok (pacelineref14_Gate_Held_eq t0 w K) h⟩

/-- (*paceline/cut.Cut).is -/
def cut_Cut_is (t0 t1 : Value) (w : World) (K : KV) : Prop :=
  bi .geq .i64 t1 (Value.int IntKind.i64 0) w fun t6 w =>
  gd t6 true (fun k => k t1 w) w fun t8 w =>
  gd t6 true (fun k => k t0 w) w fun t9 w =>
  gd t6 true (fun k => nc t9 w k) w fun t10 w =>
  gd t6 true (fun k => fld 0 t10 w k) w fun t11 w =>
  gd t6 true (fun k => ld1 t11 w k) w fun t12 w =>
  gd t6 true (fun k => bi .lss .i64 t8 t12 w k) w fun t13 w =>
  pk t6 t13 (Value.bool false) w fun t14 w =>
  K t14 w
theorem cut_Cut_is_eq (t0 t1 : Value) (w : World) (K : KV) : cut_Cut_is t0 t1 w K = fnW prog 15 [4] (match fn75.body with | some c => c | none => .skip) #[t0, t1] w K := by kernel_rfl
theorem cut_Cut_is_ok : fnOk prog 15 [4] (match fn75.body with | some c => c | none => .skip) = true := by kernel_rfl
theorem cut_Cut_is_calls {t0 t1 : Value} {w : World} {K : KV} (h : cut_Cut_is t0 t1 w K) : Cl prog 75 #[t0, t1] w K :=
  ⟨by kernel_rfl, calls_of_F (fn := fn75) (nt := 15) (rs := [4]) mixed fnAt75 (by kernel_rfl) (by kernel_rfl) (by kernel_rfl) (Nat.le_of_ble_eq_true (by kernel_rfl)) cut_Cut_is_ok (cut_Cut_is_eq t0 t1 w K) h⟩

/-- paceline/vtime.Valid -/
def vtime_Valid (t0 : Value) (w : World) (K : KV) : Prop :=
  bi .eql .i64 t0 (Value.int IntKind.i64 1125899906842624) w fun t4 w =>
  gd t4 false (fun k => k t0 w) w fun t6 w =>
  gd t4 false (fun k => cvI .u64 t6 w k) w fun t7 w =>
  gd t4 false (fun k => bi .leq .u64 t7 (Value.int IntKind.u64 1099511627776) w k) w fun t8 w =>
  pk t4 (Value.bool true) t8 w fun t9 w =>
  K t9 w
theorem vtime_Valid_eq (t0 : Value) (w : World) (K : KV) : vtime_Valid t0 w K = fnW prog 10 [2] (match fn76.body with | some c => c | none => .skip) #[t0] w K := by kernel_rfl
theorem vtime_Valid_ok : fnOk prog 10 [2] (match fn76.body with | some c => c | none => .skip) = true := by kernel_rfl
theorem vtime_Valid_calls {t0 : Value} {w : World} {K : KV} (h : vtime_Valid t0 w K) : Cl prog 76 #[t0] w K :=
  ⟨by kernel_rfl, calls_of_F (fn := fn76) (nt := 10) (rs := [2]) mixed fnAt76 (by kernel_rfl) (by kernel_rfl) (by kernel_rfl) (Nat.le_of_ble_eq_true (by kernel_rfl)) vtime_Valid_ok (vtime_Valid_eq t0 w K) h⟩

/-- (paceline/cut.one).turned -/
def cut_one_turned (t0 t1 : Value) (w : World) (K : KV) : Prop :=
  al (Value.cells t0) 114 w fun t2 w =>
  fld 0 t2 w fun t5 w =>
  ld1 t5 w fun t6 w =>
  bi .eql .i64 t6 t1 w fun t8 w =>
  K t8 w
theorem cut_one_turned_eq (t0 t1 : Value) (w : World) (K : KV) : cut_one_turned t0 t1 w K = fnW prog 9 [4] (match fn77.body with | some c => c | none => .skip) #[t0, t1] w K := by kernel_rfl
theorem cut_one_turned_ok : fnOk prog 9 [4] (match fn77.body with | some c => c | none => .skip) = true := by kernel_rfl
theorem cut_one_turned_calls {t0 t1 : Value} {w : World} {K : KV} (h : cut_one_turned t0 t1 w K) : Cl prog 77 #[t0, t1] w K :=
  ⟨by kernel_rfl, calls_of_F (fn := fn77) (nt := 9) (rs := [4]) mixed fnAt77 (by kernel_rfl) (by kernel_rfl) (by kernel_rfl) (Nat.le_of_ble_eq_true (by kernel_rfl)) cut_one_turned_ok (cut_one_turned_eq t0 t1 w K) h⟩

end Go.Proofs.Ytdiglafiimnfoaa
