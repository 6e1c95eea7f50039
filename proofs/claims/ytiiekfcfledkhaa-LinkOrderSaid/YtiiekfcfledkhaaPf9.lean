/- Printed by prt.py: the Go functions of this seat as shallow predicate transformers. Conditions: none. -/
import Derived.Test.YtiiekfcfledkhaaEngO
import Derived.Test.YtiiekfcfledkhaaPfHead
import Derived.KernelRfl
namespace Go.Proofs.Ytiiekfcfledkhaa
open Go Go.E
/-- paceline/vtime.Add -/
def vtime_Add (t0 t1 : Value) (w : World) (K : KV) : Prop :=
  Cl prog 69 #[t0] w fun t6 w =>
  Cl prog 69 #[t1] w fun t8 w =>
  bi .add .i64 t6 t8 w fun t9 w =>
  Cl prog 69 #[t9] w fun t10 w =>
  K t10 w
theorem vtime_Add_eq (t0 t1 : Value) (w : World) (K : KV) : vtime_Add t0 t1 w K = fnW prog 11 [4] (match fn57.body with | some c => c | none => .skip) #[t0, t1] w K := by kernel_rfl
theorem vtime_Add_ok : fnOk prog 11 [4] (match fn57.body with | some c => c | none => .skip) = true := by kernel_rfl
theorem vtime_Add_calls {t0 t1 : Value} {w : World} {K : KV} (h : vtime_Add t0 t1 w K) : Cl prog 57 #[t0, t1] w K :=
  ⟨by kernel_rfl, calls_of_F (fn := fn57) (nt := 11) (rs := [4]) mixed fnAt57 (by kernel_rfl) (by kernel_rfl) (by kernel_rfl) (Nat.le_of_ble_eq_true (by kernel_rfl)) vtime_Add_ok (vtime_Add_eq t0 t1 w K) h⟩

/-- paceline/vtime.Least -/
def vtime_Least (t0 : Value) (w : World) (K : KV) : Prop :=
  lnS t0 w fun t7 w =>
  lp [(Value.int IntKind.i64 1125899906842624), (Value.int IntKind.i64 0)] w (b2 fun t3 t8 w g1 =>
  bi .lss .i64 t8 t7 w fun t9 w =>
  iff' t9
  (ixS 1 t0 t8 w fun t10 w =>
  ld1 t10 w fun t11 w =>
  Cl prog 69 #[t11] w fun t14 w =>
  mnI .i64 t3 t14 w fun t15 w =>
  bi .add .i64 t8 (Value.int IntKind.i64 1) w fun t16 w =>
  g1 [t15, t16] w)
  (K t3 w))
theorem vtime_Least_eq (t0 : Value) (w : World) (K : KV) : vtime_Least t0 w K = fnW prog 18 [2] (match fn58.body with | some c => c | none => .skip) #[t0] w K := by kernel_rfl
theorem vtime_Least_ok : fnOk prog 18 [2] (match fn58.body with | some c => c | none => .skip) = true := by kernel_rfl
theorem vtime_Least_calls {t0 : Value} {w : World} {K : KV} (h : vtime_Least t0 w K) : Cl prog 58 #[t0] w K :=
  ⟨by kernel_rfl, calls_of_F (fn := fn58) (nt := 18) (rs := [2]) mixed fnAt58 (by kernel_rfl) (by kernel_rfl) (by kernel_rfl) (Nat.le_of_ble_eq_true (by kernel_rfl)) vtime_Least_ok (vtime_Least_eq t0 w K) h⟩

/-- (*paceline/cut.Cut).is -/
def cut_Cut_is (t0 t1 : Value) (w : World) (K : KV) : Prop :=
  bi .geq .i64 t1 (Value.int IntKind.i64 0) w fun t6 w =>
  gd t6 true (fun k => k t1 w) w fun t8 w =>
  gd t6 true (fun k => k t0 w) w fun t9 w =>
  gd t6 true (fun k => nc t9 w k) w fun t10 w =>
  gd t6 true (fun k => fld 0 t10 w k) w fun t11 w =>
  gd t6 true (fun k => ld1 t11 w k) w fun t12 w =>
  gd t6 true (fun k => bi .lss .i64 t8 t12 w k) w fun t13 w =>
  pk t6 t13 (Value.bool false) w fun t14 w =>
  K t14 w
theorem cut_Cut_is_eq (t0 t1 : Value) (w : World) (K : KV) : cut_Cut_is t0 t1 w K = fnW prog 15 [4] (match fn59.body with | some c => c | none => .skip) #[t0, t1] w K := by kernel_rfl
theorem cut_Cut_is_ok : fnOk prog 15 [4] (match fn59.body with | some c => c | none => .skip) = true := by kernel_rfl
theorem cut_Cut_is_calls {t0 t1 : Value} {w : World} {K : KV} (h : cut_Cut_is t0 t1 w K) : Cl prog 59 #[t0, t1] w K :=
  ⟨by kernel_rfl, calls_of_F (fn := fn59) (nt := 15) (rs := [4]) mixed fnAt59 (by kernel_rfl) (by kernel_rfl) (by kernel_rfl) (Nat.le_of_ble_eq_true (by kernel_rfl)) cut_Cut_is_ok (cut_Cut_is_eq t0 t1 w K) h⟩

/-- (paceline/cut.one).turned -/
def cut_one_turned (t0 t1 : Value) (w : World) (K : KV) : Prop :=
  al (Value.cells t0) 117 w fun t2 w =>
  fld 0 t2 w fun t5 w =>
  ld1 t5 w fun t6 w =>
  bi .eql .i64 t6 t1 w fun t8 w =>
  K t8 w
theorem cut_one_turned_eq (t0 t1 : Value) (w : World) (K : KV) : cut_one_turned t0 t1 w K = fnW prog 9 [4] (match fn60.body with | some c => c | none => .skip) #[t0, t1] w K := by kernel_rfl
theorem cut_one_turned_ok : fnOk prog 9 [4] (match fn60.body with | some c => c | none => .skip) = true := by kernel_rfl
theorem cut_one_turned_calls {t0 t1 : Value} {w : World} {K : KV} (h : cut_one_turned t0 t1 w K) : Cl prog 60 #[t0, t1] w K :=
  ⟨by kernel_rfl, calls_of_F (fn := fn60) (nt := 9) (rs := [4]) mixed fnAt60 (by kernel_rfl) (by kernel_rfl) (by kernel_rfl) (Nat.le_of_ble_eq_true (by kernel_rfl)) cut_one_turned_ok (cut_one_turned_eq t0 t1 w K) h⟩

/-- (*paceline/cut.Cut).all -/
def cut_Cut_all (t0 t1 : Value) (w : World) (K : KV) : Prop :=
  dr w fun w =>
  ncP t0 <|
  fld 3 t0 w fun t9 _ =>
  ncP t0 <|
  fld 0 t0 w fun t12 _ =>
  ld1 t12 w fun t13 _ =>
  slA prog 118 t9 none (some t13) w fun t14 w =>
  lnS t14 w fun t15 _ =>
  lp [(Value.int IntKind.i64 0)] w (b1 fun t16 w g1 =>
  bi .lss .i64 t16 t15 w fun t17 w =>
  iff' t17
  (ixS 2 t14 t16 w fun t18 w =>
  ldN 2 t18 w fun t19 w =>
  al (zeroD prog 117) 117 w fun t6 w =>
  stN 2 t6 t19 w fun _ w =>
  dr w fun w =>
  ldN 2 t6 w fun t21 _ =>
  ncP t0 <|
  fld 1 t0 w fun t24 _ =>
  ld1 t24 w fun t25 _ =>
  clV prog t1 #[t21, t25] w fun t26 w =>
  bnot t26 w fun t27 _ =>
  iff' t27
  (K (Value.bool false) w)
  (bi .add .i64 t16 (Value.int IntKind.i64 1) w fun t28 w =>
  g1 [t28] w))
  (K (Value.bool true) w))
theorem cut_Cut_all_eq (t0 t1 : Value) (w : World) (K : KV) : cut_Cut_all t0 t1 w K = fnW prog 29 [4] (match fn61.body with | some c => c | none => .skip) #[t0, t1] w K := by kernel_rfl
theorem cut_Cut_all_ok : fnOk prog 29 [4] (match fn61.body with | some c => c | none => .skip) = true := by kernel_rfl
theorem cut_Cut_all_calls {t0 t1 : Value} {w : World} {K : KV} (h : cut_Cut_all t0 t1 w K) : Cl prog 61 #[t0, t1] w K :=
  ⟨by kernel_rfl, calls_of_F (fn := fn61) (nt := 29) (rs := [4]) mixed fnAt61 (by kernel_rfl) (by kernel_rfl) (by kernel_rfl) (Nat.le_of_ble_eq_true (by kernel_rfl)) cut_Cut_all_ok (cut_Cut_all_eq t0 t1 w K) h⟩

/-- (paceline/cut.one).reported -/
def cut_one_reported (t0 t1 : Value) (w : World) (K : KV) : Prop :=
  al (Value.cells t0) 117 w fun t2 w =>
  fld 1 t2 w fun t5 w =>
  ld1 t5 w fun t6 w =>
  bi .eql .i64 t6 t1 w fun t8 w =>
  K t8 w
theorem cut_one_reported_eq (t0 t1 : Value) (w : World) (K : KV) : cut_one_reported t0 t1 w K = fnW prog 9 [4] (match fn62.body with | some c => c | none => .skip) #[t0, t1] w K := by kernel_rfl
theorem cut_one_reported_ok : fnOk prog 9 [4] (match fn62.body with | some c => c | none => .skip) = true := by kernel_rfl
theorem cut_one_reported_calls {t0 t1 : Value} {w : World} {K : KV} (h : cut_one_reported t0 t1 w K) : Cl prog 62 #[t0, t1] w K :=
  ⟨by kernel_rfl, calls_of_F (fn := fn62) (nt := 9) (rs := [4]) mixed fnAt62 (by kernel_rfl) (by kernel_rfl) (by kernel_rfl) (Nat.le_of_ble_eq_true (by kernel_rfl)) cut_one_reported_ok (cut_one_reported_eq t0 t1 w K) h⟩

end Go.Proofs.Ytiiekfcfledkhaa
