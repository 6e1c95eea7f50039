/- Printed by prt.py: the Go functions of this seat as shallow predicate transformers. Conditions: none. -/
import Derived.Test.YtfcnjbannejchaaEngO
import Derived.Test.YtfcnjbannejchaaEngZ
import Derived.Test.YtfcnjbannejchaaPfHead
import Derived.KernelRfl
namespace Go.Proofs.Ytfcnjbannejchaa
open Go Go.E
set_option linter.unusedVariables false
set_option maxRecDepth 100000
/-- (paceline/solo.waiting).Swap -/
def solo_waiting_Swap (t0 t1 t2 : Value) (w : World) (K : KV) : Prop :=
  dr w fun w =>
  ixS 6 t0 t2 w fun t12 _ =>
  ldN 6 t12 w fun t13 _ =>
  ixS 6 t0 t1 w fun t16 _ =>
  ldN 6 t16 w fun t17 _ =>
  ixS 6 t0 t1 w fun t18 _ =>
  stN 6 t18 t13 w fun _ w =>
  ixS 6 t0 t2 w fun t19 _ =>
  stN 6 t19 t17 w fun _ w =>
  K (Value.tuple #[]) w
theorem solo_waiting_Swap_eq (t0 t1 t2 : Value) (w : World) (K : KV) : solo_waiting_Swap t0 t1 t2 w K = fnW prog 20 [] (match fn134.body with | some c => c | none => .skip) #[t0, t1, t2] w K := by kernel_rfl
theorem solo_waiting_Swap_ok : fnOk prog 20 [] (match fn134.body with | some c => c | none => .skip) = true := by kernel_rfl
theorem solo_waiting_Swap_calls {t0 t1 t2 : Value} {w : World} {K : KV} (h : solo_waiting_Swap t0 t1 t2 w K) : Cl prog 134 #[t0, t1, t2] w K :=
  Cl.mk (by kernel_rfl) (calls_of_F (fn := fn134) (nt := 20) (rs := []) mixed fnAt134 (by kernel_rfl) (by kernel_rfl) (by kernel_rfl) (Nat.le_of_ble_eq_true (by kernel_rfl)) solo_waiting_Swap_ok (solo_waiting_Swap_eq t0 t1 t2 w K) h)

/-- (*paceline/solo.waiting).Pop -/
def solo_waiting_Pop (t0 : Value) (w : World) (K : KV) : Prop :=
  ncP t0 <|
  ld1 t0 w fun t7 w =>
  lnS t7 w fun t8 w =>
  bi .sub .i64 t8 (Value.int IntKind.i64 1) w fun t9 w =>
  ncP t0 <|
  ld1 t0 w fun t12 w =>
  ixS 6 t12 t9 w fun t14 w =>
  ldN 6 t14 w fun t15 w =>
  al (zeroD prog 37) 37 w fun t4 w =>
  stN 6 t4 t15 w fun _ w =>
  ncP t0 <|
  ld1 t0 w fun t19 w =>
  slc 6 t19 none (some t9) w fun t21 w =>
  ncP t0 <|
  stN 1 t0 t21 w fun _ w =>
  ldN 6 t4 w fun t23 w =>
  K (Value.iface 37 t23) w
theorem solo_waiting_Pop_eq (t0 : Value) (w : World) (K : KV) : solo_waiting_Pop t0 w K = fnW prog 25 [2] (match fn135.body with | some c => c | none => .skip) #[t0] w K := by kernel_rfl
theorem solo_waiting_Pop_ok : fnOk prog 25 [2] (match fn135.body with | some c => c | none => .skip) = true := by kernel_rfl
theorem solo_waiting_Pop_calls {t0 : Value} {w : World} {K : KV} (h : solo_waiting_Pop t0 w K) : Cl prog 135 #[t0] w K :=
  Cl.mk (by kernel_rfl) (calls_of_F (fn := fn135) (nt := 25) (rs := [2]) mixed fnAt135 (by kernel_rfl) (by kernel_rfl) (by kernel_rfl) (Nat.le_of_ble_eq_true (by kernel_rfl)) solo_waiting_Pop_ok (solo_waiting_Pop_eq t0 w K) h)

/-- (*paceline/solo.waiting).Push -/
def solo_waiting_Push (t0 t1 : Value) (w : World) (K : KV) : Prop :=
  dr w fun w =>
  ncP t0 <|
  ld1 t0 w fun t7 _ =>
  tyA prog t1 20 37 false w fun t9 w =>
  (ld1 t0 w (fun v' w'' => v' = t7 ∧ w'' = w)) ∧ (bsl 37 6 1 (zeroD prog 37) [(0, t9)] w fun t10 w =>
  (ld1 t0 w (fun v' w'' => v' = t7 ∧ w'' = w)) ∧ (apS prog #[66, 66] 66 t7 t10 w fun t11 w =>
  ncP t0 <|
  stN 1 t0 t11 w fun _ w =>
  K (Value.tuple #[]) w))
theorem solo_waiting_Push_eq (t0 t1 : Value) (w : World) (K : KV) : solo_waiting_Push t0 t1 w K = fnW prog 13 [] (match fn136.body with | some c => c | none => .skip) #[t0, t1] w K := by kernel_rfl
theorem solo_waiting_Push_ok : fnOk prog 13 [] (match fn136.body with | some c => c | none => .skip) = true := by kernel_rfl
theorem solo_waiting_Push_calls {t0 t1 : Value} {w : World} {K : KV} (h : solo_waiting_Push t0 t1 w K) : Cl prog 136 #[t0, t1] w K :=
  Cl.mk (by kernel_rfl) (calls_of_F (fn := fn136) (nt := 13) (rs := []) mixed fnAt136 (by kernel_rfl) (by kernel_rfl) (by kernel_rfl) (Nat.le_of_ble_eq_true (by kernel_rfl)) solo_waiting_Push_ok (solo_waiting_Push_eq t0 t1 w K) h)

end Go.Proofs.Ytfcnjbannejchaa
