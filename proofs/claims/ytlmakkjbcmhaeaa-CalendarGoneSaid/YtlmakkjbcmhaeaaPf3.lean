/- Printed by prt.py: the Go functions of this seat as shallow predicate transformers. Conditions: none. -/
import Derived.Test.YtlmakkjbcmhaeaaEngO
import Derived.Test.YtlmakkjbcmhaeaaPfHead
import Derived.KernelRfl
namespace Go.Proofs.Ytlmakkjbcmhaeaa
open Go Go.E
set_option linter.unusedVariables false
set_option maxRecDepth 100000
/-- (*paceline/calendar.Queue).First -/
def calendar_Queue_First (t0 : Value) (w : World) (K : KV) : Prop :=
  al (zeroD prog 32) 32 w fun t2 w =>
  bld (zeroD prog 32) #[(0, 3), (3, 1), (4, 1), (5, 1)] [] w fun t9 w =>
  al (zeroD prog 32) 32 w fun t4 w =>
  al (zeroD prog 4) 4 w fun t5 w =>
  stN 6 t4 t9 w fun _ w =>
  stN 1 t5 (Value.bool false) w fun _ w =>
  ncP t0 <|
  fld 3 t0 w fun t13 w =>
  ldN 8 t13 w fun t14 w =>
  lp [(Value.int IntKind.i64 0)] w (b1 fun t15 w g1 =>
  bi .lss .i64 t15 (Value.int IntKind.i64 8) w fun t16 w =>
  iff' t16
  (ixV prog 56 t14 t15 w fun t17 w =>
  clV prog (Value.func (Fn.func 46) #[] #[t5, t4]) #[t17] w fun _ w =>
  bi .add .i64 t15 (Value.int IntKind.i64 1) w fun t21 w =>
  g1 [t21] w)
  (dr w fun w =>
  ldN 6 t4 w fun t22 _ =>
  ld1 t5 w fun t23 _ =>
  stN 6 t2 t22 w fun _ w =>
  (ld1 t5 w (fun v' w'' => v' = t23 ∧ w'' = w)) ∧ (ldN 6 t2 w fun r0 _ =>
  K (Value.tuple #[r0, t23]) w)))
theorem calendar_Queue_First_eq (t0 : Value) (w : World) (K : KV) : calendar_Queue_First t0 w K = fnWC prog 24 [(2, some 32), (3, none)] (match fn21.body with | some c => c | none => .skip) #[t0] w K := by kernel_rfl
theorem calendar_Queue_First_ok : fnOkC prog 24 [(2, some 32), (3, none)] (match fn21.body with | some c => c | none => .skip) = true := by kernel_rfl
theorem calendar_Queue_First_calls {t0 : Value} {w : World} {K : KV} (h : calendar_Queue_First t0 w K) : Cl prog 21 #[t0] w K :=
  Cl.mk (by kernel_rfl) (calls_of_FC (fn := fn21) (nt := 24) (rs := [(2, some 32), (3, none)]) mixed fnAt21 (by kernel_rfl) (by kernel_rfl) (by kernel_rfl) (Nat.le_of_ble_eq_true (by kernel_rfl)) calendar_Queue_First_ok (calendar_Queue_First_eq t0 w K) h)

/-- (*paceline/pacelineref03.Queue).First -/
def pacelineref03_Queue_First (t0 : Value) (w : World) (K : KV) : Prop :=
  al (zeroD prog 32) 32 w fun t2 w =>
  ncP t0 <|
  fld 1 t0 w fun t6 w =>
  ld1 t6 w fun t7 w =>
  lnS t7 w fun t8 w =>
  bi .eql .i64 t8 (Value.int IntKind.i64 0) w fun t9 w =>
  iff' t9
  (bld (zeroD prog 32) #[(0, 3), (3, 1), (4, 1), (5, 1)] [] w fun t10 w =>
  stN 6 t2 t10 w fun _ w =>
  ldN 6 t2 w fun r0 _ =>
  K (Value.tuple #[r0, (Value.bool false)]) w)
  (ncP t0 <|
  fld 1 t0 w fun t13 w =>
  ld1 t13 w fun t14 w =>
  ixS 6 t14 (Value.int IntKind.i64 0) w fun t15 w =>
  ldN 6 t15 w fun t16 w =>
  stN 6 t2 t16 w fun _ w =>
  ldN 6 t2 w fun r0 _ =>
  K (Value.tuple #[r0, (Value.bool true)]) w)
theorem pacelineref03_Queue_First_eq (t0 : Value) (w : World) (K : KV) : pacelineref03_Queue_First t0 w K = fnWC prog 17 [(2, some 32), (3, none)] (match fn22.body with | some c => c | none => .skip) #[t0] w K := by kernel_rfl
theorem pacelineref03_Queue_First_ok : fnOkC prog 17 [(2, some 32), (3, none)] (match fn22.body with | some c => c | none => .skip) = true := by kernel_rfl
theorem pacelineref03_Queue_First_calls {t0 : Value} {w : World} {K : KV} (h : pacelineref03_Queue_First t0 w K) : Cl prog 22 #[t0] w K :=
  Cl.mk (by kernel_rfl) (calls_of_FC (fn := fn22) (nt := 17) (rs := [(2, some 32), (3, none)]) mixed fnAt22 (by kernel_rfl) (by kernel_rfl) (by kernel_rfl) (Nat.le_of_ble_eq_true (by kernel_rfl)) pacelineref03_Queue_First_ok (pacelineref03_Queue_First_eq t0 w K) h)

/-- (*paceline/pacelineref03.Queue).Pop -/
def pacelineref03_Queue_Pop (t0 : Value) (w : World) (K : KV) : Prop :=
  al (zeroD prog 32) 32 w fun t2 w =>
  Cl prog 22 #[t0] w fun t8 w =>
  xt 0 t8 w fun t9 w =>
  xt 1 t8 w fun t10 w =>
  al (zeroD prog 32) 32 w fun t4 w =>
  stN 6 t4 t9 w fun _ w =>
  J0 (fun w =>
  ldN 6 t4 w fun t22 w =>
  stN 6 t2 t22 w fun _ w =>
  ldN 6 t2 w fun r0 _ =>
  K (Value.tuple #[r0, t10]) w) fun k1 =>
  iff' t10
  (dr w fun w =>
  ncP t0 <|
  fld 1 t0 w fun t15 _ =>
  ld1 t15 w fun t16 _ =>
  fld 0 t4 w fun t17 _ =>
  ldN 3 t17 w fun t18 _ =>
  Cl prog 42 #[t16, t18] w fun t19 w =>
  ncP t0 <|
  fld 1 t0 w fun t21 _ =>
  stN 1 t21 t19 w fun _ w =>
  k1 w)
  (k1 w)
theorem pacelineref03_Queue_Pop_eq (t0 : Value) (w : World) (K : KV) : pacelineref03_Queue_Pop t0 w K = fnWC prog 24 [(2, some 32), (3, none)] (match fn23.body with | some c => c | none => .skip) #[t0] w K := by kernel_rfl
theorem pacelineref03_Queue_Pop_ok : fnOkC prog 24 [(2, some 32), (3, none)] (match fn23.body with | some c => c | none => .skip) = true := by kernel_rfl
theorem pacelineref03_Queue_Pop_calls {t0 : Value} {w : World} {K : KV} (h : pacelineref03_Queue_Pop t0 w K) : Cl prog 23 #[t0] w K :=
  Cl.mk (by kernel_rfl) (calls_of_FC (fn := fn23) (nt := 24) (rs := [(2, some 32), (3, none)]) mixed fnAt23 (by kernel_rfl) (by kernel_rfl) (by kernel_rfl) (Nat.le_of_ble_eq_true (by kernel_rfl)) pacelineref03_Queue_Pop_ok (pacelineref03_Queue_Pop_eq t0 w K) h)

/-- (*paceline/calendar.Queue).Below -/
def calendar_Queue_Below (t0 t1 : Value) (w : World) (K : KV) : Prop :=
  Cl prog 18 #[t0] w fun t9 w =>
  lnS t9 w fun t10 w =>
  lp [(Value.slice none 0 0), (Value.int IntKind.i64 0)] w (b2 fun t5 t11 w g1 =>
  bi .lss .i64 t11 t10 w fun t12 w =>
  iff' t12
  (J1 (fun t5_1 w =>
  bi .add .i64 t11 (Value.int IntKind.i64 1) w fun t24 w =>
  g1 [t5_1, t24] w) fun k2 =>
  ixS 6 t9 t11 w fun t13 w =>
  ldN 6 t13 w fun t14 w =>
  al (zeroD prog 32) 32 w fun t7 w =>
  stN 6 t7 t14 w fun _ w =>
  fld 0 t7 w fun t15 w =>
  fld 0 t15 w fun t16 w =>
  ld1 t16 w fun t17 w =>
  bi .lss .i64 t17 t1 w fun t19 w =>
  iff' t19
  (ldN 6 t7 w fun t21 w =>
  bsl 32 6 1 (zeroD prog 32) [(0, t21)] w fun t22 w =>
  apS prog #[36, 36] 36 t5 t22 w fun t23 w =>
  k2 t23 w)
  (k2 t5 w))
  (K t5 w))
theorem calendar_Queue_Below_eq (t0 t1 : Value) (w : World) (K : KV) : calendar_Queue_Below t0 t1 w K = fnW prog 26 [4] (match fn24.body with | some c => c | none => .skip) #[t0, t1] w K := by kernel_rfl
theorem calendar_Queue_Below_ok : fnOk prog 26 [4] (match fn24.body with | some c => c | none => .skip) = true := by kernel_rfl
theorem calendar_Queue_Below_calls {t0 t1 : Value} {w : World} {K : KV} (h : calendar_Queue_Below t0 t1 w K) : Cl prog 24 #[t0, t1] w K :=
  Cl.mk (by kernel_rfl) (calls_of_F (fn := fn24) (nt := 26) (rs := [4]) mixed fnAt24 (by kernel_rfl) (by kernel_rfl) (by kernel_rfl) (Nat.le_of_ble_eq_true (by kernel_rfl)) calendar_Queue_Below_ok (calendar_Queue_Below_eq t0 t1 w K) h)

/-- (*paceline/pacelineref03.Queue).Below -/
def pacelineref03_Queue_Below (t0 t1 : Value) (w : World) (K : KV) : Prop :=
  bsl 32 6 0 #[] [] w fun t7 w =>
  lp [t7, (Value.int IntKind.i64 0)] w (b2 fun t5 t6 w g1 =>
  ncP t0 <|
  fld 1 t0 w fun t11 w =>
  ld1 t11 w fun t12 w =>
  lnS t12 w fun t13 w =>
  bi .lss .i64 t6 t13 w fun t14 w =>
  iff' t14
  (J1 (fun t5_1 w =>
  bi .add .i64 t6 (Value.int IntKind.i64 1) w fun t16 w =>
  g1 [t5_1, t16] w) fun k2 =>
  ncP t0 <|
  fld 1 t0 w fun t19 w =>
  ld1 t19 w fun t20 w =>
  ixS 6 t20 t6 w fun t22 w =>
  fld 0 t22 w fun t23 w =>
  fld 0 t23 w fun t24 w =>
  ld1 t24 w fun t25 w =>
  bi .lss .i64 t25 t1 w fun t27 w =>
  iff' t27
  (ncP t0 <|
  fld 1 t0 w fun t31 w =>
  ld1 t31 w fun t32 w =>
  ixS 6 t32 t6 w fun t34 w =>
  ldN 6 t34 w fun t35 w =>
  bsl 32 6 1 (zeroD prog 32) [(0, t35)] w fun t36 w =>
  apS prog #[36, 36] 36 t5 t36 w fun t37 w =>
  k2 t37 w)
  (k2 t5 w))
  (K t5 w))
theorem pacelineref03_Queue_Below_eq (t0 t1 : Value) (w : World) (K : KV) : pacelineref03_Queue_Below t0 t1 w K = fnW prog 39 [4] (match fn25.body with | some c => c | none => .skip) #[t0, t1] w K := by kernel_rfl
theorem pacelineref03_Queue_Below_ok : fnOk prog 39 [4] (match fn25.body with | some c => c | none => .skip) = true := by kernel_rfl
theorem pacelineref03_Queue_Below_calls {t0 t1 : Value} {w : World} {K : KV} (h : pacelineref03_Queue_Below t0 t1 w K) : Cl prog 25 #[t0, t1] w K :=
  Cl.mk (by kernel_rfl) (calls_of_F (fn := fn25) (nt := 39) (rs := [4]) mixed fnAt25 (by kernel_rfl) (by kernel_rfl) (by kernel_rfl) (Nat.le_of_ble_eq_true (by kernel_rfl)) pacelineref03_Queue_Below_ok (pacelineref03_Queue_Below_eq t0 t1 w K) h)

/-- (*paceline/pacelineref03.Queue).Len -/
def pacelineref03_Queue_Len (t0 : Value) (w : World) (K : KV) : Prop :=
  ncP t0 <|
  fld 1 t0 w fun t5 w =>
  ld1 t5 w fun t6 w =>
  lnS t6 w fun t7 w =>
  K t7 w
theorem pacelineref03_Queue_Len_eq (t0 : Value) (w : World) (K : KV) : pacelineref03_Queue_Len t0 w K = fnW prog 8 [2] (match fn26.body with | some c => c | none => .skip) #[t0] w K := by kernel_rfl
theorem pacelineref03_Queue_Len_ok : fnOk prog 8 [2] (match fn26.body with | some c => c | none => .skip) = true := by kernel_rfl
theorem pacelineref03_Queue_Len_calls {t0 : Value} {w : World} {K : KV} (h : pacelineref03_Queue_Len t0 w K) : Cl prog 26 #[t0] w K :=
  Cl.mk (by kernel_rfl) (calls_of_F (fn := fn26) (nt := 8) (rs := [2]) mixed fnAt26 (by kernel_rfl) (by kernel_rfl) (by kernel_rfl) (Nat.le_of_ble_eq_true (by kernel_rfl)) pacelineref03_Queue_Len_ok (pacelineref03_Queue_Len_eq t0 w K) h)

end Go.Proofs.Ytlmakkjbcmhaeaa
