/- Printed by prt.py: the Go functions of this seat as shallow predicate transformers. Conditions: none. -/
import Derived.Test.YtbfjpmbgjgjckaaEngO
import Derived.Test.YtbfjpmbgjgjckaaPfHead
import Derived.KernelRfl
namespace Go.Proofs.Ytbfjpmbgjgjckaa
open Go Go.E
set_option linter.unusedVariables false
set_option maxRecDepth 100000
/-- (*paceline/pacelineref03.Queue).Push -/
def pacelineref03_Queue_Push (t0 t1 : Value) (w : World) (K : KV) : Prop :=
  al (Value.cells t1) 30 w fun t3 w =>
  fld 0 t3 w fun t6 w =>
  ldN 3 t6 w fun t7 w =>
  Cl prog 37 #[t0, t7] w fun t8 w =>
  bi .geq .i64 t8 (Value.int IntKind.i64 0) w fun t9 w =>
  iff' t9
  (K (Value.int IntKind.i64 3) w)
  (dr w fun w =>
  ncP t0 <|
  fld 1 t0 w fun t12 _ =>
  ld1 t12 w fun t13 _ =>
  lnS t13 w fun t14 _ =>
  ncP t0 <|
  fld 0 t0 w fun t17 _ =>
  ld1 t17 w fun t18 _ =>
  bi .geq .i64 t14 t18 w fun t19 _ =>
  iff' t19
  (K (Value.int IntKind.i64 2) w)
  (dr w fun w =>
  ncP t0 <|
  fld 1 t0 w fun t23 _ =>
  ld1 t23 w fun t24 _ =>
  ldN 6 t3 w fun t25 _ =>
  Cl prog 16 #[t24, t25] w fun t26 w =>
  ncP t0 <|
  fld 1 t0 w fun t28 _ =>
  stN 1 t28 t26 w fun _ w =>
  K (Value.int IntKind.i64 0) w))
theorem pacelineref03_Queue_Push_eq (t0 t1 : Value) (w : World) (K : KV) : pacelineref03_Queue_Push t0 t1 w K = fnW prog 29 [4] (match fn21.body with | some c => c | none => .skip) #[t0, t1] w K := by kernel_rfl
theorem pacelineref03_Queue_Push_ok : fnOk prog 29 [4] (match fn21.body with | some c => c | none => .skip) = true := by kernel_rfl
theorem pacelineref03_Queue_Push_calls {t0 t1 : Value} {w : World} {K : KV} (h : pacelineref03_Queue_Push t0 t1 w K) : Cl prog 21 #[t0, t1] w K :=
  Cl.mk (by kernel_rfl) (calls_of_F (fn := fn21) (nt := 29) (rs := [4]) mixed fnAt21 (by kernel_rfl) (by kernel_rfl) (by kernel_rfl) (Nat.le_of_ble_eq_true (by kernel_rfl)) pacelineref03_Queue_Push_ok (pacelineref03_Queue_Push_eq t0 t1 w K) h)

/-- (*paceline/pacelineref03.Queue).First -/
def pacelineref03_Queue_First (t0 : Value) (w : World) (K : KV) : Prop :=
  al (zeroD prog 30) 30 w fun t2 w =>
  ncP t0 <|
  fld 1 t0 w fun t6 w =>
  ld1 t6 w fun t7 w =>
  lnS t7 w fun t8 w =>
  bi .eql .i64 t8 (Value.int IntKind.i64 0) w fun t9 w =>
  iff' t9
  (bld (zeroD prog 30) #[(0, 3), (3, 1), (4, 1), (5, 1)] [] w fun t10 w =>
  stN 6 t2 t10 w fun _ w =>
  ldN 6 t2 w fun r0 _ =>
  K (Value.tuple #[r0, (Value.bool false)]) w)
  (ncP t0 <|
  fld 1 t0 w fun t13 w =>
  ld1 t13 w fun t14 w =>
  ixS 6 t14 (Value.int IntKind.i64 0) w fun t15 w =>
  ldN 6 t15 w fun t16 w =>
  stN 6 t2 t16 w fun _ w =>
  ldN 6 t2 w fun r0 _ =>
  K (Value.tuple #[r0, (Value.bool true)]) w)
theorem pacelineref03_Queue_First_eq (t0 : Value) (w : World) (K : KV) : pacelineref03_Queue_First t0 w K = fnWC prog 17 [(2, some 30), (3, none)] (match fn22.body with | some c => c | none => .skip) #[t0] w K := by kernel_rfl
theorem pacelineref03_Queue_First_ok : fnOkC prog 17 [(2, some 30), (3, none)] (match fn22.body with | some c => c | none => .skip) = true := by kernel_rfl
theorem pacelineref03_Queue_First_calls {t0 : Value} {w : World} {K : KV} (h : pacelineref03_Queue_First t0 w K) : Cl prog 22 #[t0] w K :=
  Cl.mk (by kernel_rfl) (calls_of_FC (fn := fn22) (nt := 17) (rs := [(2, some 30), (3, none)]) mixed fnAt22 (by kernel_rfl) (by kernel_rfl) (by kernel_rfl) (Nat.le_of_ble_eq_true (by kernel_rfl)) pacelineref03_Queue_First_ok (pacelineref03_Queue_First_eq t0 w K) h)

/-- (*paceline/pacelineref03.Queue).Pop -/
def pacelineref03_Queue_Pop (t0 : Value) (w : World) (K : KV) : Prop :=
  al (zeroD prog 30) 30 w fun t2 w =>
  Cl prog 22 #[t0] w fun t8 w =>
  xt 0 t8 w fun t9 w =>
  xt 1 t8 w fun t10 w =>
  al (zeroD prog 30) 30 w fun t4 w =>
  stN 6 t4 t9 w fun _ w =>
  J0 (fun w =>
  ldN 6 t4 w fun t22 w =>
  stN 6 t2 t22 w fun _ w =>
  ldN 6 t2 w fun r0 _ =>
  K (Value.tuple #[r0, t10]) w) fun k1 =>
  iff' t10
  (dr w fun w =>
  ncP t0 <|
  fld 1 t0 w fun t15 _ =>
  ld1 t15 w fun t16 _ =>
  fld 0 t4 w fun t17 _ =>
  ldN 3 t17 w fun t18 _ =>
  Cl prog 18 #[t16, t18] w fun t19 w =>
  ncP t0 <|
  fld 1 t0 w fun t21 _ =>
  stN 1 t21 t19 w fun _ w =>
  k1 w)
  (k1 w)
theorem pacelineref03_Queue_Pop_eq (t0 : Value) (w : World) (K : KV) : pacelineref03_Queue_Pop t0 w K = fnWC prog 24 [(2, some 30), (3, none)] (match fn23.body with | some c => c | none => .skip) #[t0] w K := by kernel_rfl
theorem pacelineref03_Queue_Pop_ok : fnOkC prog 24 [(2, some 30), (3, none)] (match fn23.body with | some c => c | none => .skip) = true := by kernel_rfl
theorem pacelineref03_Queue_Pop_calls {t0 : Value} {w : World} {K : KV} (h : pacelineref03_Queue_Pop t0 w K) : Cl prog 23 #[t0] w K :=
  Cl.mk (by kernel_rfl) (calls_of_FC (fn := fn23) (nt := 24) (rs := [(2, some 30), (3, none)]) mixed fnAt23 (by kernel_rfl) (by kernel_rfl) (by kernel_rfl) (Nat.le_of_ble_eq_true (by kernel_rfl)) pacelineref03_Queue_Pop_ok (pacelineref03_Queue_Pop_eq t0 w K) h)

/-- (*paceline/pacelineref03.Queue).Remove -/
def pacelineref03_Queue_Remove (t0 t1 : Value) (w : World) (K : KV) : Prop :=
  al (Value.cells t1) 28 w fun t3 w =>
  al (zeroD prog 30) 30 w fun t4 w =>
  ldN 3 t3 w fun t9 w =>
  Cl prog 37 #[t0, t9] w fun t10 w =>
  bi .lss .i64 t10 (Value.int IntKind.i64 0) w fun t12 w =>
  iff' t12
  (bld (zeroD prog 30) #[(0, 3), (3, 1), (4, 1), (5, 1)] [] w fun t13 w =>
  stN 6 t4 t13 w fun _ w =>
  ldN 6 t4 w fun r0 _ =>
  K (Value.tuple #[r0, (Value.bool false)]) w)
  (ncP t0 <|
  fld 1 t0 w fun t16 w =>
  ld1 t16 w fun t17 w =>
  ixS 6 t17 t10 w fun t19 w =>
  ldN 6 t19 w fun t20 w =>
  al (zeroD prog 30) 30 w fun t7 w =>
  stN 6 t7 t20 w fun _ w =>
  dr w fun w =>
  ncP t0 <|
  fld 1 t0 w fun t24 _ =>
  ld1 t24 w fun t25 _ =>
  ldN 3 t3 w fun t26 _ =>
  Cl prog 18 #[t25, t26] w fun t27 w =>
  ncP t0 <|
  fld 1 t0 w fun t29 _ =>
  stN 1 t29 t27 w fun _ w =>
  ldN 6 t7 w fun t30 w =>
  stN 6 t4 t30 w fun _ w =>
  ldN 6 t4 w fun r0 _ =>
  K (Value.tuple #[r0, (Value.bool true)]) w)
theorem pacelineref03_Queue_Remove_eq (t0 t1 : Value) (w : World) (K : KV) : pacelineref03_Queue_Remove t0 t1 w K = fnWC prog 31 [(4, some 30), (5, none)] (match fn24.body with | some c => c | none => .skip) #[t0, t1] w K := by kernel_rfl
theorem pacelineref03_Queue_Remove_ok : fnOkC prog 31 [(4, some 30), (5, none)] (match fn24.body with | some c => c | none => .skip) = true := by kernel_rfl
theorem pacelineref03_Queue_Remove_calls {t0 t1 : Value} {w : World} {K : KV} (h : pacelineref03_Queue_Remove t0 t1 w K) : Cl prog 24 #[t0, t1] w K :=
  Cl.mk (by kernel_rfl) (calls_of_FC (fn := fn24) (nt := 31) (rs := [(4, some 30), (5, none)]) mixed fnAt24 (by kernel_rfl) (by kernel_rfl) (by kernel_rfl) (Nat.le_of_ble_eq_true (by kernel_rfl)) pacelineref03_Queue_Remove_ok (pacelineref03_Queue_Remove_eq t0 t1 w K) h)

/-- (*paceline/pacelineref03.Queue).Below -/
def pacelineref03_Queue_Below (t0 t1 : Value) (w : World) (K : KV) : Prop :=
  bsl 30 6 0 #[] [] w fun t7 w =>
  lp [t7, (Value.int IntKind.i64 0)] w (b2 fun t5 t6 w g1 =>
  ncP t0 <|
  fld 1 t0 w fun t11 w =>
  ld1 t11 w fun t12 w =>
  lnS t12 w fun t13 w =>
  bi .lss .i64 t6 t13 w fun t14 w =>
  iff' t14
  (J1 (fun t5_1 w =>
  bi .add .i64 t6 (Value.int IntKind.i64 1) w fun t16 w =>
  g1 [t5_1, t16] w) fun k2 =>
  ncP t0 <|
  fld 1 t0 w fun t19 w =>
  ld1 t19 w fun t20 w =>
  ixS 6 t20 t6 w fun t22 w =>
  fld 0 t22 w fun t23 w =>
  fld 0 t23 w fun t24 w =>
  ld1 t24 w fun t25 w =>
  bi .lss .i64 t25 t1 w fun t27 w =>
  iff' t27
  (ncP t0 <|
  fld 1 t0 w fun t31 w =>
  ld1 t31 w fun t32 w =>
  ixS 6 t32 t6 w fun t34 w =>
  ldN 6 t34 w fun t35 w =>
  bsl 30 6 1 (zeroD prog 30) [(0, t35)] w fun t36 w =>
  apS prog #[22, 22] 22 t5 t36 w fun t37 w =>
  k2 t37 w)
  (k2 t5 w))
  (K t5 w))
theorem pacelineref03_Queue_Below_eq (t0 t1 : Value) (w : World) (K : KV) : pacelineref03_Queue_Below t0 t1 w K = fnW prog 39 [4] (match fn25.body with | some c => c | none => .skip) #[t0, t1] w K := by kernel_rfl
theorem pacelineref03_Queue_Below_ok : fnOk prog 39 [4] (match fn25.body with | some c => c | none => .skip) = true := by kernel_rfl
theorem pacelineref03_Queue_Below_calls {t0 t1 : Value} {w : World} {K : KV} (h : pacelineref03_Queue_Below t0 t1 w K) : Cl prog 25 #[t0, t1] w K :=
  Cl.mk (by kernel_rfl) (calls_of_F (fn := fn25) (nt := 39) (rs := [4]) mixed fnAt25 (by kernel_rfl) (by kernel_rfl) (by kernel_rfl) (Nat.le_of_ble_eq_true (by kernel_rfl)) pacelineref03_Queue_Below_ok (pacelineref03_Queue_Below_eq t0 t1 w K) h)

/-- (*paceline/pacelineref03.Queue).Len -/
def pacelineref03_Queue_Len (t0 : Value) (w : World) (K : KV) : Prop :=
  ncP t0 <|
  fld 1 t0 w fun t5 w =>
  ld1 t5 w fun t6 w =>
  lnS t6 w fun t7 w =>
  K t7 w
theorem pacelineref03_Queue_Len_eq (t0 : Value) (w : World) (K : KV) : pacelineref03_Queue_Len t0 w K = fnW prog 8 [2] (match fn26.body with | some c => c | none => .skip) #[t0] w K := by kernel_rfl
theorem pacelineref03_Queue_Len_ok : fnOk prog 8 [2] (match fn26.body with | some c => c | none => .skip) = true := by kernel_rfl
theorem pacelineref03_Queue_Len_calls {t0 : Value} {w : World} {K : KV} (h : pacelineref03_Queue_Len t0 w K) : Cl prog 26 #[t0] w K :=
  Cl.mk (by kernel_rfl) (calls_of_F (fn := fn26) (nt := 8) (rs := [2]) mixed fnAt26 (by kernel_rfl) (by kernel_rfl) (by kernel_rfl) (Nat.le_of_ble_eq_true (by kernel_rfl)) pacelineref03_Queue_Len_ok (pacelineref03_Queue_Len_eq t0 w K) h)

end Go.Proofs.Ytbfjpmbgjgjckaa
