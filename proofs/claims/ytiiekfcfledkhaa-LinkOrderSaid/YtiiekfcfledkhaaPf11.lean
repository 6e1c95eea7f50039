/- Printed by prt.py: the Go functions of this seat as shallow predicate transformers. Conditions: none. -/
import Derived.Test.YtiiekfcfledkhaaEngO
import Derived.Test.YtiiekfcfledkhaaPfHead
import Derived.KernelRfl
namespace Go.Proofs.Ytiiekfcfledkhaa
open Go Go.E
/-- paceline/pacelineref01.time -/
def pacelineref01_time (t0 : Value) (w : World) (K : KV) : Prop :=
  bi .lss .i64 t0 (Value.int IntKind.i64 0) w fun t4 w =>
  iff' t4
  (K (Value.int IntKind.i64 0) w)
  (bi .gtr .i64 t0 (Value.int IntKind.i64 1099511627776) w fun t6 w =>
  iff' t6
  (K (Value.int IntKind.i64 1125899906842624) w)
  (K t0 w))
theorem pacelineref01_time_eq (t0 : Value) (w : World) (K : KV) : pacelineref01_time t0 w K = fnW prog 8 [2] (match fn70.body with | some c => c | none => .skip) #[t0] w K := by kernel_rfl
theorem pacelineref01_time_ok : fnOk prog 8 [2] (match fn70.body with | some c => c | none => .skip) = true := by kernel_rfl
theorem pacelineref01_time_calls {t0 : Value} {w : World} {K : KV} (h : pacelineref01_time t0 w K) : Cl prog 70 #[t0] w K :=
  ⟨by kernel_rfl, calls_of_F (fn := fn70) (nt := 8) (rs := [2]) mixed fnAt70 (by kernel_rfl) (by kernel_rfl) (by kernel_rfl) (Nat.le_of_ble_eq_true (by kernel_rfl)) pacelineref01_time_ok (pacelineref01_time_eq t0 w K) h⟩

/-- cmp.Or[int] -/
def cmp_Or_int (t0 : Value) (w : World) (K : KV) : Prop :=
  lnS t0 w fun t7 w =>
  lp [(Value.int IntKind.i64 0)] w (b1 fun t8 w g1 =>
  bi .lss .i64 t8 t7 w fun t9 w =>
  iff' t9
  (ixS 1 t0 t8 w fun t10 w =>
  ld1 t10 w fun t11 w =>
  bi .neq .i64 t11 (Value.int IntKind.i64 0) w fun t14 w =>
  iff' t14
  (K t11 w)
  (bi .add .i64 t8 (Value.int IntKind.i64 1) w fun t16 w =>
  g1 [t16] w))
  (K (Value.int IntKind.i64 0) w))
theorem cmp_Or_int_eq (t0 : Value) (w : World) (K : KV) : cmp_Or_int t0 w K = fnW prog 18 [2] (match fn71.body with | some c => c | none => .skip) #[t0] w K := by kernel_rfl
theorem cmp_Or_int_ok : fnOk prog 18 [2] (match fn71.body with | some c => c | none => .skip) = true := by kernel_rfl
theorem cmp_Or_int_calls {t0 : Value} {w : World} {K : KV} (h : cmp_Or_int t0 w K) : Cl prog 71 #[t0] w K :=
  ⟨by kernel_rfl, calls_of_F (fn := fn71) (nt := 18) (rs := [2]) mixed fnAt71 (by kernel_rfl) (by kernel_rfl) (by kernel_rfl) (Nat.le_of_ble_eq_true (by kernel_rfl)) cmp_Or_int_ok (cmp_Or_int_eq t0 w K) h⟩

/-- cmp.Compare[int] -/
def cmp_Compare_int (t0 t1 : Value) (w : World) (K : KV) : Prop :=
  Cl prog 74 #[t0] w fun t8 w =>
  Cl prog 74 #[t1] w fun t10 w =>
  iff' t8
  (iff' t10
  (K (Value.int IntKind.i64 0) w)
  (K (Value.int IntKind.i64 (-1)) w))
  (iff' t10
  (K (Value.int IntKind.i64 1) w)
  (bi .lss .i64 t0 t1 w fun t16 w =>
  iff' t16
  (K (Value.int IntKind.i64 (-1)) w)
  (bi .gtr .i64 t0 t1 w fun t19 w =>
  iff' t19
  (K (Value.int IntKind.i64 1) w)
  (K (Value.int IntKind.i64 0) w))))
theorem cmp_Compare_int_eq (t0 t1 : Value) (w : World) (K : KV) : cmp_Compare_int t0 t1 w K = fnW prog 20 [4] (match fn72.body with | some c => c | none => .skip) #[t0, t1] w K := by kernel_rfl
theorem cmp_Compare_int_ok : fnOk prog 20 [4] (match fn72.body with | some c => c | none => .skip) = true := by kernel_rfl
theorem cmp_Compare_int_calls {t0 t1 : Value} {w : World} {K : KV} (h : cmp_Compare_int t0 t1 w K) : Cl prog 72 #[t0, t1] w K :=
  ⟨by kernel_rfl, calls_of_F (fn := fn72) (nt := 20) (rs := [4]) mixed fnAt72 (by kernel_rfl) (by kernel_rfl) (by kernel_rfl) (Nat.le_of_ble_eq_true (by kernel_rfl)) cmp_Compare_int_ok (cmp_Compare_int_eq t0 t1 w K) h⟩

/-- cmp.isNaN[int] -/
def cmp_isNaN_int (t0 : Value) (w : World) (K : KV) : Prop :=
  bi .neq .i64 t0 t0 w fun t5 w =>
  K t5 w
theorem cmp_isNaN_int_eq (t0 : Value) (w : World) (K : KV) : cmp_isNaN_int t0 w K = fnW prog 6 [2] (match fn74.body with | some c => c | none => .skip) #[t0] w K := by kernel_rfl
theorem cmp_isNaN_int_ok : fnOk prog 6 [2] (match fn74.body with | some c => c | none => .skip) = true := by kernel_rfl
theorem cmp_isNaN_int_calls {t0 : Value} {w : World} {K : KV} (h : cmp_isNaN_int t0 w K) : Cl prog 74 #[t0] w K :=
  ⟨by kernel_rfl, calls_of_F (fn := fn74) (nt := 6) (rs := [2]) mixed fnAt74 (by kernel_rfl) (by kernel_rfl) (by kernel_rfl) (Nat.le_of_ble_eq_true (by kernel_rfl)) cmp_isNaN_int_ok (cmp_isNaN_int_eq t0 w K) h⟩

end Go.Proofs.Ytiiekfcfledkhaa
