/- Printed by prt.py: the Go functions of this seat as shallow predicate transformers. Conditions: none. -/
import Derived.Test.YtdiglafiimnfoaaEngO
import Derived.Test.YtdiglafiimnfoaaPfHead
import Derived.KernelRfl
namespace Go.Proofs.Ytdiglafiimnfoaa
open Go Go.E
set_option linter.unusedVariables false
set_option maxRecDepth 100000
/-- (*paceline/cut.Cut).Value -/
def cut_Cut_Value (t0 : Value) (w : World) (K : KV) : Prop :=
  ncP t0 <|
  fld 22 t0 w fun t5 w =>
  ld1 t5 w fun t6 w =>
  K t6 w
theorem cut_Cut_Value_eq (t0 : Value) (w : World) (K : KV) : cut_Cut_Value t0 w K = fnW prog 7 [2] (match fn27.body with | some c => c | none => .skip) #[t0] w K := by kernel_rfl
theorem cut_Cut_Value_ok : fnOk prog 7 [2] (match fn27.body with | some c => c | none => .skip) = true := by kernel_rfl
theorem cut_Cut_Value_calls {t0 : Value} {w : World} {K : KV} (h : cut_Cut_Value t0 w K) : Cl prog 27 #[t0] w K :=
  ⟨by kernel_rfl, calls_of_F (fn := fn27) (nt := 7) (rs := [2]) mixed fnAt27 (by kernel_rfl) (by kernel_rfl) (by kernel_rfl) (Nat.le_of_ble_eq_true (by kernel_rfl)) cut_Cut_Value_ok (cut_Cut_Value_eq t0 w K) h⟩

/-- (*paceline/cut.Cut).Rounds -/
def cut_Cut_Rounds (t0 : Value) (w : World) (K : KV) : Prop :=
  ncP t0 <|
  fld 2 t0 w fun t5 w =>
  ld1 t5 w fun t6 w =>
  K t6 w
theorem cut_Cut_Rounds_eq (t0 : Value) (w : World) (K : KV) : cut_Cut_Rounds t0 w K = fnW prog 7 [2] (match fn28.body with | some c => c | none => .skip) #[t0] w K := by kernel_rfl
theorem cut_Cut_Rounds_ok : fnOk prog 7 [2] (match fn28.body with | some c => c | none => .skip) = true := by kernel_rfl
theorem cut_Cut_Rounds_calls {t0 : Value} {w : World} {K : KV} (h : cut_Cut_Rounds t0 w K) : Cl prog 28 #[t0] w K :=
  ⟨by kernel_rfl, calls_of_F (fn := fn28) (nt := 7) (rs := [2]) mixed fnAt28 (by kernel_rfl) (by kernel_rfl) (by kernel_rfl) (Nat.le_of_ble_eq_true (by kernel_rfl)) cut_Cut_Rounds_ok (cut_Cut_Rounds_eq t0 w K) h⟩

/-- (*paceline/cut.Cut).Under -/
def cut_Cut_Under (t0 : Value) (w : World) (K : KV) : Prop :=
  dr w fun w =>
  ncP t0 <|
  fld 1 t0 w fun t5 _ =>
  ld1 t5 w fun t6 _ =>
  ncP t0 <|
  fld 2 t0 w fun t9 _ =>
  ld1 t9 w fun t10 _ =>
  bi .gtr .i64 t6 t10 w fun t11 _ =>
  K t11 w
theorem cut_Cut_Under_eq (t0 : Value) (w : World) (K : KV) : cut_Cut_Under t0 w K = fnW prog 12 [2] (match fn29.body with | some c => c | none => .skip) #[t0] w K := by kernel_rfl
theorem cut_Cut_Under_ok : fnOk prog 12 [2] (match fn29.body with | some c => c | none => .skip) = true := by kernel_rfl
theorem cut_Cut_Under_calls {t0 : Value} {w : World} {K : KV} (h : cut_Cut_Under t0 w K) : Cl prog 29 #[t0] w K :=
  ⟨by kernel_rfl, calls_of_F (fn := fn29) (nt := 12) (rs := [2]) mixed fnAt29 (by kernel_rfl) (by kernel_rfl) (by kernel_rfl) (Nat.le_of_ble_eq_true (by kernel_rfl)) cut_Cut_Under_ok (cut_Cut_Under_eq t0 w K) h⟩

/-- (*paceline/cut.Cut).Colour -/
def cut_Cut_Colour (t0 t1 : Value) (w : World) (K : KV) : Prop :=
  Cl prog 75 #[t0, t1] w fun t7 w =>
  bnot t7 w fun t8 w =>
  iff' t8
  (K (Value.int IntKind.i64 (-1)) w)
  (ncP t0 <|
  fld 3 t0 w fun t12 w =>
  ixA 8 2 t12 t1 w fun t13 w =>
  fld 0 t13 w fun t14 w =>
  ld1 t14 w fun t15 w =>
  bO prog .and 3 (Operand.tmp 15) (Operand.const (Value.int IntKind.i64 1)) t15 (Value.int IntKind.i64 1) w fun t16 w =>
  K t16 w)
theorem cut_Cut_Colour_eq (t0 t1 : Value) (w : World) (K : KV) : cut_Cut_Colour t0 t1 w K = fnW prog 17 [4] (match fn30.body with | some c => c | none => .skip) #[t0, t1] w K := by kernel_rfl
theorem cut_Cut_Colour_ok : fnOk prog 17 [4] (match fn30.body with | some c => c | none => .skip) = true := by kernel_rfl
theorem cut_Cut_Colour_calls {t0 t1 : Value} {w : World} {K : KV} (h : cut_Cut_Colour t0 t1 w K) : Cl prog 30 #[t0, t1] w K :=
  ⟨by kernel_rfl, calls_of_F (fn := fn30) (nt := 17) (rs := [4]) mixed fnAt30 (by kernel_rfl) (by kernel_rfl) (by kernel_rfl) (Nat.le_of_ble_eq_true (by kernel_rfl)) cut_Cut_Colour_ok (cut_Cut_Colour_eq t0 t1 w K) h⟩

/-- (*paceline/pacelineref16.Cut).Colour -/
def pacelineref16_Cut_Colour (t0 t1 : Value) (w : World) (K : KV) : Prop :=
  Cl prog 78 #[t0, t1] w fun t7 w =>
  bnot t7 w fun t8 w =>
  iff' t8
  (K (Value.int IntKind.i64 (-1)) w)
  (ncP t0 <|
  fld 0 t0 w fun t11 w =>
  ld1 t11 w fun t12 w =>
  ixS 1 t12 t1 w fun t14 w =>
  ld1 t14 w fun t15 w =>
  K t15 w)
theorem pacelineref16_Cut_Colour_eq (t0 t1 : Value) (w : World) (K : KV) : pacelineref16_Cut_Colour t0 t1 w K = fnW prog 16 [4] (match fn31.body with | some c => c | none => .skip) #[t0, t1] w K := by kernel_rfl
theorem pacelineref16_Cut_Colour_ok : fnOk prog 16 [4] (match fn31.body with | some c => c | none => .skip) = true := by kernel_rfl
theorem pacelineref16_Cut_Colour_calls {t0 t1 : Value} {w : World} {K : KV} (h : pacelineref16_Cut_Colour t0 t1 w K) : Cl prog 31 #[t0, t1] w K :=
  ⟨by kernel_rfl, calls_of_F (fn := fn31) (nt := 16) (rs := [4]) mixed fnAt31 (by kernel_rfl) (by kernel_rfl) (by kernel_rfl) (Nat.le_of_ble_eq_true (by kernel_rfl)) pacelineref16_Cut_Colour_ok (pacelineref16_Cut_Colour_eq t0 t1 w K) h⟩

/-- paceline/link.New -/
def link_New (t0 t1 : Value) (w : World) (K : KV) : Prop :=
  bi .lss .i64 t0 (Value.int IntKind.i64 1) w fun t7 w =>
  gd t7 false (fun k => k t0 w) w fun t9 w =>
  gd t7 false (fun k => bi .gtr .i64 t9 (Value.int IntKind.i64 8) w k) w fun t10 w =>
  pk t7 (Value.bool true) t10 w fun t11 w =>
  gd t11 false (fun k => k t1 w) w fun t13 w =>
  gd t11 false (fun k => bi .lss .i64 t13 (Value.int IntKind.i64 1) w k) w fun t14 w =>
  pk t11 (Value.bool true) t14 w fun t15 w =>
  gd t15 false (fun k => k t1 w) w fun t17 w =>
  gd t15 false (fun k => bi .gtr .i64 t17 (Value.int IntKind.i64 16) w k) w fun t18 w =>
  pk t15 (Value.bool true) t18 w fun t19 w =>
  iff' t19
  (K (Value.tuple #[(Value.pointer none), (Value.int IntKind.i64 1)]) w)
  (bld (zeroD prog 129) #[(0, 1), (1, 1), (2, 8320)] [(0, t0), (1, t1)] w fun t22 w =>
  al (Value.cells t22) 129 w fun t23 w =>
  K (Value.tuple #[t23, (Value.int IntKind.i64 0)]) w)
theorem link_New_eq (t0 t1 : Value) (w : World) (K : KV) : link_New t0 t1 w K = fnW prog 24 [4, 5] (match fn32.body with | some c => c | none => .skip) #[t0, t1] w K := by kernel_rfl
theorem link_New_ok : fnOk prog 24 [4, 5] (match fn32.body with | some c => c | none => .skip) = true := by kernel_rfl
theorem link_New_calls {t0 t1 : Value} {w : World} {K : KV} (h : link_New t0 t1 w K) : Cl prog 32 #[t0, t1] w K :=
  ⟨by kernel_rfl, calls_of_F (fn := fn32) (nt := 24) (rs := [4, 5]) mixed fnAt32 (by kernel_rfl) (by kernel_rfl) (by kernel_rfl) (Nat.le_of_ble_eq_true (by kernel_rfl)) link_New_ok (link_New_eq t0 t1 w K) h⟩

end Go.Proofs.Ytdiglafiimnfoaa
