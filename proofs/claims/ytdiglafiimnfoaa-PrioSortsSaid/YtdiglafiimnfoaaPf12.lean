/- Printed by prt.py: the Go functions of this seat as shallow predicate transformers. Conditions: none. -/
import Derived.Test.YtdiglafiimnfoaaEngO
import Derived.Test.YtdiglafiimnfoaaPfHead
import Derived.KernelRfl
namespace Go.Proofs.Ytdiglafiimnfoaa
open Go Go.E
set_option linter.unusedVariables false
set_option maxRecDepth 100000
/-- (*paceline/pacelineref16.Cut).is -/
def pacelineref16_Cut_is (t0 t1 : Value) (w : World) (K : KV) : Prop :=
  bi .geq .i64 t1 (Value.int IntKind.i64 0) w fun t6 w =>
  gd t6 true (fun k => k t1 w) w fun t8 w =>
  gd t6 true (fun k => k t0 w) w fun t9 w =>
  gd t6 true (fun k => nc t9 w k) w fun t10 w =>
  gd t6 true (fun k => fld 0 t10 w k) w fun t11 w =>
  gd t6 true (fun k => ld1 t11 w k) w fun t12 w =>
  gd t6 true (fun k => lnS t12 w k) w fun t13 w =>
  gd t6 true (fun k => bi .lss .i64 t8 t13 w k) w fun t14 w =>
  pk t6 t14 (Value.bool false) w fun t15 w =>
  K t15 w
theorem pacelineref16_Cut_is_eq (t0 t1 : Value) (w : World) (K : KV) : pacelineref16_Cut_is t0 t1 w K = fnW prog 16 [4] (match fn78.body with | some c => c | none => .skip) #[t0, t1] w K := by kernel_rfl
theorem pacelineref16_Cut_is_ok : fnOk prog 16 [4] (match fn78.body with | some c => c | none => .skip) = true := by kernel_rfl
theorem pacelineref16_Cut_is_calls {t0 t1 : Value} {w : World} {K : KV} (h : pacelineref16_Cut_is t0 t1 w K) : Cl prog 78 #[t0, t1] w K :=
  ⟨by kernel_rfl, calls_of_F (fn := fn78) (nt := 16) (rs := [4]) mixed fnAt78 (by kernel_rfl) (by kernel_rfl) (by kernel_rfl) (Nat.le_of_ble_eq_true (by kernel_rfl)) pacelineref16_Cut_is_ok (pacelineref16_Cut_is_eq t0 t1 w K) h⟩

/-- paceline/pacelineref01.Valid -/
def pacelineref01_Valid (t0 : Value) (w : World) (K : KV) : Prop :=
  bi .geq .i64 t0 (Value.int IntKind.i64 0) w fun t4 w =>
  gd t4 true (fun k => k t0 w) w fun t6 w =>
  gd t4 true (fun k => bi .leq .i64 t6 (Value.int IntKind.i64 1099511627776) w k) w fun t7 w =>
  pk t4 t7 (Value.bool false) w fun t8 w =>
  gd t8 false (fun k => k t0 w) w fun t10 w =>
  gd t8 false (fun k => bi .eql .i64 t10 (Value.int IntKind.i64 1125899906842624) w k) w fun t11 w =>
  pk t8 (Value.bool true) t11 w fun t12 w =>
  K t12 w
theorem pacelineref01_Valid_eq (t0 : Value) (w : World) (K : KV) : pacelineref01_Valid t0 w K = fnW prog 13 [2] (match fn79.body with | some c => c | none => .skip) #[t0] w K := by kernel_rfl
theorem pacelineref01_Valid_ok : fnOk prog 13 [2] (match fn79.body with | some c => c | none => .skip) = true := by kernel_rfl
theorem pacelineref01_Valid_calls {t0 : Value} {w : World} {K : KV} (h : pacelineref01_Valid t0 w K) : Cl prog 79 #[t0] w K :=
  ⟨by kernel_rfl, calls_of_F (fn := fn79) (nt := 13) (rs := [2]) mixed fnAt79 (by kernel_rfl) (by kernel_rfl) (by kernel_rfl) (Nat.le_of_ble_eq_true (by kernel_rfl)) pacelineref01_Valid_ok (pacelineref01_Valid_eq t0 w K) h⟩

/-- (*paceline/cut.Cut).all -/
def cut_Cut_all (t0 t1 : Value) (w : World) (K : KV) : Prop :=
  dr w fun w =>
  ncP t0 <|
  fld 3 t0 w fun t9 _ =>
  ncP t0 <|
  fld 0 t0 w fun t12 _ =>
  ld1 t12 w fun t13 _ =>
  slA prog 115 t9 none (some t13) w fun t14 w =>
  lnS t14 w fun t15 _ =>
  lp [(Value.int IntKind.i64 0)] w (b1 fun t16 w g1 =>
  bi .lss .i64 t16 t15 w fun t17 w =>
  iff' t17
  (ixS 2 t14 t16 w fun t18 w =>
  ldN 2 t18 w fun t19 w =>
  al (zeroD prog 114) 114 w fun t6 w =>
  stN 2 t6 t19 w fun _ w =>
  dr w fun w =>
  ldN 2 t6 w fun t21 _ =>
  ncP t0 <|
  fld 1 t0 w fun t24 _ =>
  ld1 t24 w fun t25 _ =>
  clV prog t1 #[t21, t25] w fun t26 w =>
  bnot t26 w fun t27 _ =>
  iff' t27
  (K (Value.bool false) w)
  (bi .add .i64 t16 (Value.int IntKind.i64 1) w fun t28 w =>
  g1 [t28] w))
  (K (Value.bool true) w))
theorem cut_Cut_all_eq (t0 t1 : Value) (w : World) (K : KV) : cut_Cut_all t0 t1 w K = fnW prog 29 [4] (match fn80.body with | some c => c | none => .skip) #[t0, t1] w K := by kernel_rfl
theorem cut_Cut_all_ok : fnOk prog 29 [4] (match fn80.body with | some c => c | none => .skip) = true := by kernel_rfl
theorem cut_Cut_all_calls {t0 t1 : Value} {w : World} {K : KV} (h : cut_Cut_all t0 t1 w K) : Cl prog 80 #[t0, t1] w K :=
  ⟨by kernel_rfl, calls_of_F (fn := fn80) (nt := 29) (rs := [4]) mixed fnAt80 (by kernel_rfl) (by kernel_rfl) (by kernel_rfl) (Nat.le_of_ble_eq_true (by kernel_rfl)) cut_Cut_all_ok (cut_Cut_all_eq t0 t1 w K) h⟩

/-- (paceline/cut.one).reported -/
def cut_one_reported (t0 t1 : Value) (w : World) (K : KV) : Prop :=
  al (Value.cells t0) 114 w fun t2 w =>
  fld 1 t2 w fun t5 w =>
  ld1 t5 w fun t6 w =>
  bi .eql .i64 t6 t1 w fun t8 w =>
  K t8 w
theorem cut_one_reported_eq (t0 t1 : Value) (w : World) (K : KV) : cut_one_reported t0 t1 w K = fnW prog 9 [4] (match fn81.body with | some c => c | none => .skip) #[t0, t1] w K := by kernel_rfl
theorem cut_one_reported_ok : fnOk prog 9 [4] (match fn81.body with | some c => c | none => .skip) = true := by kernel_rfl
theorem cut_one_reported_calls {t0 t1 : Value} {w : World} {K : KV} (h : cut_one_reported t0 t1 w K) : Cl prog 81 #[t0, t1] w K :=
  ⟨by kernel_rfl, calls_of_F (fn := fn81) (nt := 9) (rs := [4]) mixed fnAt81 (by kernel_rfl) (by kernel_rfl) (by kernel_rfl) (Nat.le_of_ble_eq_true (by kernel_rfl)) cut_one_reported_ok (cut_one_reported_eq t0 t1 w K) h⟩

/-- paceline/pacelineref16.all -/
def pacelineref16_all (t0 : Value) (w : World) (K : KV) : Prop :=
  lp [(Value.int IntKind.i64 0)] w (b1 fun t3 w g1 =>
  lnS t0 w fun t6 w =>
  bi .lss .i64 t3 t6 w fun t7 w =>
  iff' t7
  (ixS 1 t0 t3 w fun t12 w =>
  ld1 t12 w fun t13 w =>
  bnot t13 w fun t14 w =>
  iff' t14
  (K (Value.bool false) w)
  (bi .add .i64 t3 (Value.int IntKind.i64 1) w fun t9 w =>
  g1 [t9] w))
  (K (Value.bool true) w))
theorem pacelineref16_all_eq (t0 : Value) (w : World) (K : KV) : pacelineref16_all t0 w K = fnW prog 15 [2] (match fn82.body with | some c => c | none => .skip) #[t0] w K := by kernel_rfl
theorem pacelineref16_all_ok : fnOk prog 15 [2] (match fn82.body with | some c => c | none => .skip) = true := by kernel_rfl
theorem pacelineref16_all_calls {t0 : Value} {w : World} {K : KV} (h : pacelineref16_all t0 w K) : Cl prog 82 #[t0] w K :=
  ⟨by kernel_rfl, calls_of_F (fn := fn82) (nt := 15) (rs := [2]) mixed fnAt82 (by kernel_rfl) (by kernel_rfl) (by kernel_rfl) (Nat.le_of_ble_eq_true (by kernel_rfl)) pacelineref16_all_ok (pacelineref16_all_eq t0 w K) h⟩

/-- (*paceline/link.Net).of -/
def link_Net_of (t0 t1 t2 : Value) (w : World) (K : KV) : Prop :=
  bi .lss .i64 t1 (Value.int IntKind.i64 0) w fun t8 w =>
  gd t8 false (fun k => k t2 w) w fun t10 w =>
  gd t8 false (fun k => bi .lss .i64 t10 (Value.int IntKind.i64 0) w k) w fun t11 w =>
  pk t8 (Value.bool true) t11 w fun t12 w =>
  gd t12 false (fun k => k t1 w) w fun t14 w =>
  gd t12 false (fun k => k t0 w) w fun t15 w =>
  gd t12 false (fun k => nc t15 w k) w fun t16 w =>
  gd t12 false (fun k => fld 0 t16 w k) w fun t17 w =>
  gd t12 false (fun k => ld1 t17 w k) w fun t18 w =>
  gd t12 false (fun k => bi .geq .i64 t14 t18 w k) w fun t19 w =>
  pk t12 (Value.bool true) t19 w fun t20 w =>
  gd t20 false (fun k => k t2 w) w fun t22 w =>
  gd t20 false (fun k => k t0 w) w fun t23 w =>
  gd t20 false (fun k => nc t23 w k) w fun t24 w =>
  gd t20 false (fun k => fld 0 t24 w k) w fun t25 w =>
  gd t20 false (fun k => ld1 t25 w k) w fun t26 w =>
  gd t20 false (fun k => bi .geq .i64 t22 t26 w k) w fun t27 w =>
  pk t20 (Value.bool true) t27 w fun t28 w =>
  gd t28 false (fun k => k t1 w) w fun t30 w =>
  gd t28 false (fun k => k t2 w) w fun t31 w =>
  gd t28 false (fun k => bi .eql .i64 t30 t31 w k) w fun t32 w =>
  pk t28 (Value.bool true) t32 w fun t33 w =>
  iff' t33
  (K (Value.pointer none) w)
  (ncP t0 <|
  fld 2 t0 w fun t38 w =>
  ixA 8 1040 t38 t1 w fun t39 w =>
  ixA 8 130 t39 t2 w fun t40 w =>
  K t40 w)
theorem link_Net_of_eq (t0 t1 t2 : Value) (w : World) (K : KV) : link_Net_of t0 t1 t2 w K = fnW prog 41 [6] (match fn83.body with | some c => c | none => .skip) #[t0, t1, t2] w K := by kernel_rfl
theorem link_Net_of_ok : fnOk prog 41 [6] (match fn83.body with | some c => c | none => .skip) = true := by kernel_rfl
theorem link_Net_of_calls {t0 t1 t2 : Value} {w : World} {K : KV} (h : link_Net_of t0 t1 t2 w K) : Cl prog 83 #[t0, t1, t2] w K :=
  ⟨by kernel_rfl, calls_of_F (fn := fn83) (nt := 41) (rs := [6]) mixed fnAt83 (by kernel_rfl) (by kernel_rfl) (by kernel_rfl) (Nat.le_of_ble_eq_true (by kernel_rfl)) link_Net_of_ok (link_Net_of_eq t0 t1 t2 w K) h⟩

end Go.Proofs.Ytdiglafiimnfoaa
