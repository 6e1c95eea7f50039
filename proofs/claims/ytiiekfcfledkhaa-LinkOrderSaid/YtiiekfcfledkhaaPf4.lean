/- Printed by prt.py: the Go functions of this seat as shallow predicate transformers. Conditions: none. -/
import Derived.Test.YtiiekfcfledkhaaEngO
import Derived.Test.YtiiekfcfledkhaaPfHead
import Derived.KernelRfl
namespace Go.Proofs.Ytiiekfcfledkhaa
open Go Go.E
/-- (*paceline/link.Net).Len -/
def link_Net_Len (t0 t1 t2 : Value) (w : World) (K : KV) : Prop :=
  Cl prog 55 #[t0, t1, t2] w fun t11 w =>
  bn .neq t11 w fun t13 w =>
  iff' t13
  (ncP t11 <|
  fld 129 t11 w fun t16 w =>
  ld1 t16 w fun t17 w =>
  K t17 w)
  (K (Value.int IntKind.i64 0) w)
theorem link_Net_Len_eq (t0 t1 t2 : Value) (w : World) (K : KV) : link_Net_Len t0 t1 t2 w K = fnW prog 18 [6] (match fn27.body with | some c => c | none => .skip) #[t0, t1, t2] w K := by kernel_rfl
theorem link_Net_Len_ok : fnOk prog 18 [6] (match fn27.body with | some c => c | none => .skip) = true := by kernel_rfl
theorem link_Net_Len_calls {t0 t1 t2 : Value} {w : World} {K : KV} (h : link_Net_Len t0 t1 t2 w K) : Cl prog 27 #[t0, t1, t2] w K :=
  ⟨by kernel_rfl, calls_of_F (fn := fn27) (nt := 18) (rs := [6]) mixed fnAt27 (by kernel_rfl) (by kernel_rfl) (by kernel_rfl) (Nat.le_of_ble_eq_true (by kernel_rfl)) link_Net_Len_ok (link_Net_Len_eq t0 t1 t2 w K) h⟩

/-- (*paceline/link.Net).Room -/
def link_Net_Room (t0 t1 t2 : Value) (w : World) (K : KV) : Prop :=
  Cl prog 55 #[t0, t1, t2] w fun t11 w =>
  bn .neq t11 w fun t13 w =>
  iff' t13
  (dr w fun w =>
  ncP t0 <|
  fld 1 t0 w fun t16 _ =>
  ld1 t16 w fun t17 _ =>
  ncP t11 <|
  fld 129 t11 w fun t20 _ =>
  ld1 t20 w fun t21 _ =>
  bi .sub .i64 t17 t21 w fun t22 _ =>
  K t22 w)
  (K (Value.int IntKind.i64 0) w)
theorem link_Net_Room_eq (t0 t1 t2 : Value) (w : World) (K : KV) : link_Net_Room t0 t1 t2 w K = fnW prog 23 [6] (match fn28.body with | some c => c | none => .skip) #[t0, t1, t2] w K := by kernel_rfl
theorem link_Net_Room_ok : fnOk prog 23 [6] (match fn28.body with | some c => c | none => .skip) = true := by kernel_rfl
theorem link_Net_Room_calls {t0 t1 t2 : Value} {w : World} {K : KV} (h : link_Net_Room t0 t1 t2 w K) : Cl prog 28 #[t0, t1, t2] w K :=
  ⟨by kernel_rfl, calls_of_F (fn := fn28) (nt := 23) (rs := [6]) mixed fnAt28 (by kernel_rfl) (by kernel_rfl) (by kernel_rfl) (Nat.le_of_ble_eq_true (by kernel_rfl)) link_Net_Room_ok (link_Net_Room_eq t0 t1 t2 w K) h⟩

/-- (*paceline/clock.Clocks).Tell -/
def clock_Clocks_Tell (t0 t1 t2 : Value) (w : World) (K : KV) : Prop :=
  Cl prog 23 #[t0] w fun t11 w =>
  bsl 3 1 2 (zeroD prog 3) [(0, t1), (1, t11)] w fun t12 w =>
  Cl prog 58 #[t12] w fun t13 w =>
  Cl prog 57 #[t13, t2] w fun t15 w =>
  ncP t0 <|
  fld 1 t0 w fun t19 w =>
  ld1 t19 w fun t20 w =>
  bi .leq .i64 t15 t20 w fun t21 w =>
  iff' t21
  (ncP t0 <|
  fld 1 t0 w fun t24 w =>
  ld1 t24 w fun t25 w =>
  K (Value.tuple #[t25, (Value.bool false)]) w)
  (ncP t0 <|
  fld 1 t0 w fun t29 w =>
  stN 1 t29 t15 w fun _ w =>
  K (Value.tuple #[t15, (Value.bool true)]) w)
theorem clock_Clocks_Tell_eq (t0 t1 t2 : Value) (w : World) (K : KV) : clock_Clocks_Tell t0 t1 t2 w K = fnW prog 31 [6, 7] (match fn29.body with | some c => c | none => .skip) #[t0, t1, t2] w K := by kernel_rfl
theorem clock_Clocks_Tell_ok : fnOk prog 31 [6, 7] (match fn29.body with | some c => c | none => .skip) = true := by kernel_rfl
theorem clock_Clocks_Tell_calls {t0 t1 t2 : Value} {w : World} {K : KV} (h : clock_Clocks_Tell t0 t1 t2 w K) : Cl prog 29 #[t0, t1, t2] w K :=
  ⟨by kernel_rfl, calls_of_F (fn := fn29) (nt := 31) (rs := [6, 7]) mixed fnAt29 (by kernel_rfl) (by kernel_rfl) (by kernel_rfl) (Nat.le_of_ble_eq_true (by kernel_rfl)) clock_Clocks_Tell_ok (clock_Clocks_Tell_eq t0 t1 t2 w K) h⟩

/-- (*paceline/clock.Clocks).Told -/
def clock_Clocks_Told (t0 : Value) (w : World) (K : KV) : Prop :=
  ncP t0 <|
  fld 1 t0 w fun t5 w =>
  ld1 t5 w fun t6 w =>
  K t6 w
theorem clock_Clocks_Told_eq (t0 : Value) (w : World) (K : KV) : clock_Clocks_Told t0 w K = fnW prog 7 [2] (match fn30.body with | some c => c | none => .skip) #[t0] w K := by kernel_rfl
theorem clock_Clocks_Told_ok : fnOk prog 7 [2] (match fn30.body with | some c => c | none => .skip) = true := by kernel_rfl
theorem clock_Clocks_Told_calls {t0 : Value} {w : World} {K : KV} (h : clock_Clocks_Told t0 w K) : Cl prog 30 #[t0] w K :=
  ⟨by kernel_rfl, calls_of_F (fn := fn30) (nt := 7) (rs := [2]) mixed fnAt30 (by kernel_rfl) (by kernel_rfl) (by kernel_rfl) (Nat.le_of_ble_eq_true (by kernel_rfl)) clock_Clocks_Told_ok (clock_Clocks_Told_eq t0 w K) h⟩

/-- paceline/cut.New -/
def cut_New (t0 : Value) (w : World) (K : KV) : Prop :=
  bi .lss .i64 t0 (Value.int IntKind.i64 1) w fun t5 w =>
  gd t5 false (fun k => k t0 w) w fun t7 w =>
  gd t5 false (fun k => bi .gtr .i64 t7 (Value.int IntKind.i64 8) w k) w fun t8 w =>
  pk t5 (Value.bool true) t8 w fun t9 w =>
  iff' t9
  (K (Value.tuple #[(Value.pointer none), (Value.int IntKind.i64 1)]) w)
  (bld (zeroD prog 121) #[(0, 1), (1, 1), (2, 1), (3, 16), (19, 2), (21, 1), (22, 1)] [(0, t0)] w fun t11 w =>
  al (Value.cells t11) 121 w fun t12 w =>
  K (Value.tuple #[t12, (Value.int IntKind.i64 0)]) w)
theorem cut_New_eq (t0 : Value) (w : World) (K : KV) : cut_New t0 w K = fnW prog 13 [2, 3] (match fn31.body with | some c => c | none => .skip) #[t0] w K := by kernel_rfl
theorem cut_New_ok : fnOk prog 13 [2, 3] (match fn31.body with | some c => c | none => .skip) = true := by kernel_rfl
theorem cut_New_calls {t0 : Value} {w : World} {K : KV} (h : cut_New t0 w K) : Cl prog 31 #[t0] w K :=
  ⟨by kernel_rfl, calls_of_F (fn := fn31) (nt := 13) (rs := [2, 3]) mixed fnAt31 (by kernel_rfl) (by kernel_rfl) (by kernel_rfl) (Nat.le_of_ble_eq_true (by kernel_rfl)) cut_New_ok (cut_New_eq t0 w K) h⟩

/-- (*paceline/cut.Cut).Begin -/
def cut_Cut_Begin (t0 : Value) (w : World) (K : KV) : Prop :=
  Cl prog 37 #[t0] w fun t4 w =>
  iff' t4
  (K (Value.int IntKind.i64 130) w)
  (ncP t0 <|
  fld 1 t0 w fun t7 w =>
  ld1 t7 w fun t8 w =>
  bi .add .i64 t8 (Value.int IntKind.i64 1) w fun t9 w =>
  ncP t0 <|
  fld 1 t0 w fun t11 w =>
  stN 1 t11 t9 w fun _ w =>
  ncP t0 <|
  fld 21 t0 w fun t14 w =>
  stN 1 t14 (Value.int IntKind.i64 1125899906842624) w fun _ w =>
  K (Value.int IntKind.i64 0) w)
theorem cut_Cut_Begin_eq (t0 : Value) (w : World) (K : KV) : cut_Cut_Begin t0 w K = fnW prog 15 [2] (match fn32.body with | some c => c | none => .skip) #[t0] w K := by kernel_rfl
theorem cut_Cut_Begin_ok : fnOk prog 15 [2] (match fn32.body with | some c => c | none => .skip) = true := by kernel_rfl
theorem cut_Cut_Begin_calls {t0 : Value} {w : World} {K : KV} (h : cut_Cut_Begin t0 w K) : Cl prog 32 #[t0] w K :=
  ⟨by kernel_rfl, calls_of_F (fn := fn32) (nt := 15) (rs := [2]) mixed fnAt32 (by kernel_rfl) (by kernel_rfl) (by kernel_rfl) (Nat.le_of_ble_eq_true (by kernel_rfl)) cut_Cut_Begin_ok (cut_Cut_Begin_eq t0 w K) h⟩

end Go.Proofs.Ytiiekfcfledkhaa
