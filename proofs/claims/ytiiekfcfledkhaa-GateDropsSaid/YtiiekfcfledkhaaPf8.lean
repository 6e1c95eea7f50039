/- Printed by prt.py: the Go functions of this seat as shallow predicate transformers. Conditions: none. -/
import Derived.Test.YtiiekfcfledkhaaEngD
import Derived.Test.YtiiekfcfledkhaaPfHead
import Derived.KernelRfl
namespace Go.Proofs.Ytiiekfcfledkhaa
open Go Go.E
/-- paceline/vtime.Valid -/
def vtime_Valid (t0 : Value) (w : World) (K : KV) : Prop :=
  bi .eql .i64 t0 (Value.int IntKind.i64 1125899906842624) w fun t4 w =>
  gd t4 false (fun k => k t0 w) w fun t6 w =>
  gd t4 false (fun k => cvI .u64 t6 w k) w fun t7 w =>
  gd t4 false (fun k => bi .leq .u64 t7 (Value.int IntKind.u64 1099511627776) w k) w fun t8 w =>
  pk t4 (Value.bool true) t8 w fun t9 w =>
  K t9 w
theorem vtime_Valid_eq (t0 : Value) (w : World) (K : KV) : vtime_Valid t0 w K = fnW prog 10 [2] (match fn53.body with | some c => c | none => .skip) #[t0] w K := by kernel_rfl
theorem vtime_Valid_ok : fnOk prog 10 [2] (match fn53.body with | some c => c | none => .skip) = true := by kernel_rfl
theorem vtime_Valid_calls {t0 : Value} {w : World} {K : KV} (h : vtime_Valid t0 w K) : Cl prog 53 #[t0] w K :=
  ⟨by kernel_rfl, calls_of_F (fn := fn53) (nt := 10) (rs := [2]) mixed fnAt53 (by kernel_rfl) (by kernel_rfl) (by kernel_rfl) (Nat.le_of_ble_eq_true (by kernel_rfl)) vtime_Valid_ok (vtime_Valid_eq t0 w K) h⟩

/-- (*paceline/clock.Clocks).Bound$1 -/
def clock_Clocks_Bound_1 (t0 t1 : Value) (w : World) (K : KV) : Prop :=
  ld1 t1 w fun t3 w =>
  mnI .i64 t3 t0 w fun t5 w =>
  stN 1 t1 t5 w fun _ w =>
  K (Value.tuple #[]) w
theorem clock_Clocks_Bound_1_eq (t0 t1 : Value) (w : World) (K : KV) : clock_Clocks_Bound_1 t0 t1 w K = fnW prog 6 [] (match fn54.body with | some c => c | none => .skip) #[t0, t1] w K := by kernel_rfl
theorem clock_Clocks_Bound_1_ok : fnOk prog 6 [] (match fn54.body with | some c => c | none => .skip) = true := by kernel_rfl
theorem clock_Clocks_Bound_1_calls {t0 t1 : Value} {w : World} {K : KV} (h : clock_Clocks_Bound_1 t0 t1 w K) : Cl prog 54 #[t0, t1] w K :=
  ⟨by kernel_rfl, calls_of_F (fn := fn54) (nt := 6) (rs := []) mixed fnAt54 (by kernel_rfl) (by kernel_rfl) (by kernel_rfl) (Nat.le_of_ble_eq_true (by kernel_rfl)) clock_Clocks_Bound_1_ok (clock_Clocks_Bound_1_eq t0 t1 w K) h⟩

/-- (*paceline/link.Net).of -/
def link_Net_of (t0 t1 t2 : Value) (w : World) (K : KV) : Prop :=
  bi .lss .i64 t1 (Value.int IntKind.i64 0) w fun t8 w =>
  gd t8 false (fun k => k t2 w) w fun t10 w =>
  gd t8 false (fun k => bi .lss .i64 t10 (Value.int IntKind.i64 0) w k) w fun t11 w =>
  pk t8 (Value.bool true) t11 w fun t12 w =>
  gd t12 false (fun k => k t1 w) w fun t14 w =>
  gd t12 false (fun k => k t0 w) w fun t15 w =>
  gd t12 false (fun k => nc t15 w k) w fun t16 w =>
  gd t12 false (fun k => fld 0 t16 w k) w fun t17 w =>
  gd t12 false (fun k => ld1 t17 w k) w fun t18 w =>
  gd t12 false (fun k => bi .geq .i64 t14 t18 w k) w fun t19 w =>
  pk t12 (Value.bool true) t19 w fun t20 w =>
  gd t20 false (fun k => k t2 w) w fun t22 w =>
  gd t20 false (fun k => k t0 w) w fun t23 w =>
  gd t20 false (fun k => nc t23 w k) w fun t24 w =>
  gd t20 false (fun k => fld 0 t24 w k) w fun t25 w =>
  gd t20 false (fun k => ld1 t25 w k) w fun t26 w =>
  gd t20 false (fun k => bi .geq .i64 t22 t26 w k) w fun t27 w =>
  pk t20 (Value.bool true) t27 w fun t28 w =>
  gd t28 false (fun k => k t1 w) w fun t30 w =>
  gd t28 false (fun k => k t2 w) w fun t31 w =>
  gd t28 false (fun k => bi .eql .i64 t30 t31 w k) w fun t32 w =>
  pk t28 (Value.bool true) t32 w fun t33 w =>
  iff' t33
  (K (Value.pointer none) w)
  (ncP t0 <|
  fld 2 t0 w fun t38 w =>
  ixA 8 1040 t38 t1 w fun t39 w =>
  ixA 8 130 t39 t2 w fun t40 w =>
  K t40 w)
theorem link_Net_of_eq (t0 t1 t2 : Value) (w : World) (K : KV) : link_Net_of t0 t1 t2 w K = fnW prog 41 [6] (match fn55.body with | some c => c | none => .skip) #[t0, t1, t2] w K := by kernel_rfl
theorem link_Net_of_ok : fnOk prog 41 [6] (match fn55.body with | some c => c | none => .skip) = true := by kernel_rfl
theorem link_Net_of_calls {t0 t1 t2 : Value} {w : World} {K : KV} (h : link_Net_of t0 t1 t2 w K) : Cl prog 55 #[t0, t1, t2] w K :=
  ⟨by kernel_rfl, calls_of_F (fn := fn55) (nt := 41) (rs := [6]) mixed fnAt55 (by kernel_rfl) (by kernel_rfl) (by kernel_rfl) (Nat.le_of_ble_eq_true (by kernel_rfl)) link_Net_of_ok (link_Net_of_eq t0 t1 t2 w K) h⟩

/-- paceline/vtime.Add -/
def vtime_Add (t0 t1 : Value) (w : World) (K : KV) : Prop :=
  Cl prog 69 #[t0] w fun t6 w =>
  Cl prog 69 #[t1] w fun t8 w =>
  bi .add .i64 t6 t8 w fun t9 w =>
  Cl prog 69 #[t9] w fun t10 w =>
  K t10 w
theorem vtime_Add_eq (t0 t1 : Value) (w : World) (K : KV) : vtime_Add t0 t1 w K = fnW prog 11 [4] (match fn57.body with | some c => c | none => .skip) #[t0, t1] w K := by kernel_rfl
theorem vtime_Add_ok : fnOk prog 11 [4] (match fn57.body with | some c => c | none => .skip) = true := by kernel_rfl
theorem vtime_Add_calls {t0 t1 : Value} {w : World} {K : KV} (h : vtime_Add t0 t1 w K) : Cl prog 57 #[t0, t1] w K :=
  ⟨by kernel_rfl, calls_of_F (fn := fn57) (nt := 11) (rs := [4]) mixed fnAt57 (by kernel_rfl) (by kernel_rfl) (by kernel_rfl) (Nat.le_of_ble_eq_true (by kernel_rfl)) vtime_Add_ok (vtime_Add_eq t0 t1 w K) h⟩

/-- paceline/vtime.Least -/
def vtime_Least (t0 : Value) (w : World) (K : KV) : Prop :=
  lnS t0 w fun t7 w =>
  lp [(Value.int IntKind.i64 1125899906842624), (Value.int IntKind.i64 0)] w (b2 fun t3 t8 w g1 =>
  bi .lss .i64 t8 t7 w fun t9 w =>
  iff' t9
  (ixS 1 t0 t8 w fun t10 w =>
  ld1 t10 w fun t11 w =>
  Cl prog 69 #[t11] w fun t14 w =>
  mnI .i64 t3 t14 w fun t15 w =>
  bi .add .i64 t8 (Value.int IntKind.i64 1) w fun t16 w =>
  g1 [t15, t16] w)
  (K t3 w))
theorem vtime_Least_eq (t0 : Value) (w : World) (K : KV) : vtime_Least t0 w K = fnW prog 18 [2] (match fn58.body with | some c => c | none => .skip) #[t0] w K := by kernel_rfl
theorem vtime_Least_ok : fnOk prog 18 [2] (match fn58.body with | some c => c | none => .skip) = true := by kernel_rfl
theorem vtime_Least_calls {t0 : Value} {w : World} {K : KV} (h : vtime_Least t0 w K) : Cl prog 58 #[t0] w K :=
  ⟨by kernel_rfl, calls_of_F (fn := fn58) (nt := 18) (rs := [2]) mixed fnAt58 (by kernel_rfl) (by kernel_rfl) (by kernel_rfl) (Nat.le_of_ble_eq_true (by kernel_rfl)) vtime_Least_ok (vtime_Least_eq t0 w K) h⟩

/-- (*paceline/cut.Cut).is -/
def cut_Cut_is (t0 t1 : Value) (w : World) (K : KV) : Prop :=
  bi .geq .i64 t1 (Value.int IntKind.i64 0) w fun t6 w =>
  gd t6 true (fun k => k t1 w) w fun t8 w =>
  gd t6 true (fun k => k t0 w) w fun t9 w =>
  gd t6 true (fun k => nc t9 w k) w fun t10 w =>
  gd t6 true (fun k => fld 0 t10 w k) w fun t11 w =>
  gd t6 true (fun k => ld1 t11 w k) w fun t12 w =>
  gd t6 true (fun k => bi .lss .i64 t8 t12 w k) w fun t13 w =>
  pk t6 t13 (Value.bool false) w fun t14 w =>
  K t14 w
theorem cut_Cut_is_eq (t0 t1 : Value) (w : World) (K : KV) : cut_Cut_is t0 t1 w K = fnW prog 15 [4] (match fn59.body with | some c => c | none => .skip) #[t0, t1] w K := by kernel_rfl
theorem cut_Cut_is_ok : fnOk prog 15 [4] (match fn59.body with | some c => c | none => .skip) = true := by kernel_rfl
theorem cut_Cut_is_calls {t0 t1 : Value} {w : World} {K : KV} (h : cut_Cut_is t0 t1 w K) : Cl prog 59 #[t0, t1] w K :=
  ⟨by kernel_rfl, calls_of_F (fn := fn59) (nt := 15) (rs := [4]) mixed fnAt59 (by kernel_rfl) (by kernel_rfl) (by kernel_rfl) (Nat.le_of_ble_eq_true (by kernel_rfl)) cut_Cut_is_ok (cut_Cut_is_eq t0 t1 w K) h⟩

end Go.Proofs.Ytiiekfcfledkhaa
