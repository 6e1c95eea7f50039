/- Printed by prt.py: the Go functions of this seat as shallow predicate transformers. Conditions: none. -/
import Derived.Test.YtdiglafiimnfoaaEngO
import Derived.Test.YtdiglafiimnfoaaPfHead
import Derived.KernelRfl
namespace Go.Proofs.Ytdiglafiimnfoaa
open Go Go.E
set_option linter.unusedVariables false
set_option maxRecDepth 100000
/-- (*paceline/prio.Queue).Pop -/
def prio_Queue_Pop (t0 : Value) (w : World) (K : KV) : Prop :=
  al (zeroD prog 63) 63 w fun t2 w =>
  ncP t0 <|
  fld 1 t0 w fun t6 w =>
  ld1 t6 w fun t7 w =>
  lnS t7 w fun t8 w =>
  bi .eql .i64 t8 (Value.int IntKind.i64 0) w fun t9 w =>
  iff' t9
  (bld (zeroD prog 63) #[(0, 3), (3, 1), (4, 1), (5, 1)] [] w fun t10 w =>
  stN 6 t2 t10 w fun _ w =>
  ldN 6 t2 w fun r0 _ =>
  K (Value.tuple #[r0, (Value.bool false)]) w)
  (bld (zeroD prog 148) #[(0, 1)] [(0, t0)] w fun t12 w =>
  Cl prog 91 #[(Value.iface 148 t12)] w fun t14 w =>
  tyA prog t14 20 63 false w fun t15 w =>
  stN 6 t2 t15 w fun _ w =>
  ldN 6 t2 w fun r0 _ =>
  K (Value.tuple #[r0, (Value.bool true)]) w)
theorem prio_Queue_Pop_eq (t0 : Value) (w : World) (K : KV) : prio_Queue_Pop t0 w K = fnWC prog 16 [(2, some 63), (3, none)] (match fn54.body with | some c => c | none => .skip) #[t0] w K := by kernel_rfl
theorem prio_Queue_Pop_ok : fnOkC prog 16 [(2, some 63), (3, none)] (match fn54.body with | some c => c | none => .skip) = true := by kernel_rfl
theorem prio_Queue_Pop_calls {t0 : Value} {w : World} {K : KV} (h : prio_Queue_Pop t0 w K) : Cl prog 54 #[t0] w K :=
  ⟨by kernel_rfl, calls_of_FC (fn := fn54) (nt := 16) (rs := [(2, some 63), (3, none)]) mixed fnAt54 (by kernel_rfl) (by kernel_rfl) (by kernel_rfl) (Nat.le_of_ble_eq_true (by kernel_rfl)) prio_Queue_Pop_ok (prio_Queue_Pop_eq t0 w K) h⟩

/-- paceline/pacelineref01.Cmp -/
def pacelineref01_Cmp (t0 t1 : Value) (w : World) (K : KV) : Prop :=
  al (Value.cells t0) 61 w fun t2 w =>
  al (Value.cells t1) 61 w fun t3 w =>
  ldN 3 t2 w fun t5 w =>
  ldN 3 t3 w fun t6 w =>
  bO prog .eql 61 (Operand.tmp 5) (Operand.tmp 6) t5 t6 w fun t7 w =>
  iff' t7
  (K (Value.int IntKind.i64 0) w)
  (fld 0 t2 w fun t8 w =>
  ld1 t8 w fun t9 w =>
  fld 0 t3 w fun t10 w =>
  ld1 t10 w fun t11 w =>
  bi .lss .i64 t9 t11 w fun t12 w =>
  gd t12 false (fun k => fld 0 t2 w k) w fun t14 w =>
  gd t12 false (fun k => ld1 t14 w k) w fun t15 w =>
  gd t12 false (fun k => fld 0 t3 w k) w fun t16 w =>
  gd t12 false (fun k => ld1 t16 w k) w fun t17 w =>
  gd t12 false (fun k => bi .eql .i64 t15 t17 w k) w fun t18 w =>
  gd t12 false (fun k => k t18 w) w fun t19 w =>
  gd t19 true (fun k => fld 1 t2 w k) w fun t20 w =>
  gd t19 true (fun k => ld1 t20 w k) w fun t21 w =>
  gd t19 true (fun k => fld 1 t3 w k) w fun t22 w =>
  gd t19 true (fun k => ld1 t22 w k) w fun t23 w =>
  gd t19 true (fun k => bi .lss .i64 t21 t23 w k) w fun t24 w =>
  gd t12 false (fun k => pk t19 t24 (Value.bool false) w k) w fun t25 w =>
  pk t12 (Value.bool true) t25 w fun t26 w =>
  gd t26 false (fun k => fld 0 t2 w k) w fun t28 w =>
  gd t26 false (fun k => ld1 t28 w k) w fun t29 w =>
  gd t26 false (fun k => fld 0 t3 w k) w fun t30 w =>
  gd t26 false (fun k => ld1 t30 w k) w fun t31 w =>
  gd t26 false (fun k => bi .eql .i64 t29 t31 w k) w fun t32 w =>
  gd t26 false (fun k => k t32 w) w fun t33 w =>
  gd t33 true (fun k => fld 1 t2 w k) w fun t34 w =>
  gd t33 true (fun k => ld1 t34 w k) w fun t35 w =>
  gd t33 true (fun k => fld 1 t3 w k) w fun t36 w =>
  gd t33 true (fun k => ld1 t36 w k) w fun t37 w =>
  gd t33 true (fun k => bi .eql .i64 t35 t37 w k) w fun t38 w =>
  gd t26 false (fun k => pk t33 t38 (Value.bool false) w k) w fun t39 w =>
  gd t26 false (fun k => k t39 w) w fun t40 w =>
  gd t40 true (fun k => fld 2 t2 w k) w fun t41 w =>
  gd t40 true (fun k => ld1 t41 w k) w fun t42 w =>
  gd t40 true (fun k => fld 2 t3 w k) w fun t43 w =>
  gd t40 true (fun k => ld1 t43 w k) w fun t44 w =>
  gd t40 true (fun k => bi .lss .i64 t42 t44 w k) w fun t45 w =>
  gd t26 false (fun k => pk t40 t45 (Value.bool false) w k) w fun t46 w =>
  pk t26 (Value.bool true) t46 w fun t47 w =>
  iff' t47
  (K (Value.int IntKind.i64 (-1)) w)
  (K (Value.int IntKind.i64 1) w))
theorem pacelineref01_Cmp_eq (t0 t1 : Value) (w : World) (K : KV) : pacelineref01_Cmp t0 t1 w K = fnW prog 48 [4] (match fn55.body with | some c => c | none => .skip) #[t0, t1] w K := by kernel_rfl
theorem pacelineref01_Cmp_ok : fnOk prog 48 [4] (match fn55.body with | some c => c | none => .skip) = true := by kernel_rfl
theorem pacelineref01_Cmp_calls {t0 t1 : Value} {w : World} {K : KV} (h : pacelineref01_Cmp t0 t1 w K) : Cl prog 55 #[t0, t1] w K :=
  ⟨by kernel_rfl, calls_of_F (fn := fn55) (nt := 48) (rs := [4]) mixed fnAt55 (by kernel_rfl) (by kernel_rfl) (by kernel_rfl) (Nat.le_of_ble_eq_true (by kernel_rfl)) pacelineref01_Cmp_ok (pacelineref01_Cmp_eq t0 t1 w K) h⟩

/-- (*paceline/prio.Queue).Len -/
def prio_Queue_Len (t0 : Value) (w : World) (K : KV) : Prop :=
  ncP t0 <|
  fld 1 t0 w fun t5 w =>
  ld1 t5 w fun t6 w =>
  lnS t6 w fun t7 w =>
  K t7 w
theorem prio_Queue_Len_eq (t0 : Value) (w : World) (K : KV) : prio_Queue_Len t0 w K = fnW prog 8 [2] (match fn56.body with | some c => c | none => .skip) #[t0] w K := by kernel_rfl
theorem prio_Queue_Len_ok : fnOk prog 8 [2] (match fn56.body with | some c => c | none => .skip) = true := by kernel_rfl
theorem prio_Queue_Len_calls {t0 : Value} {w : World} {K : KV} (h : prio_Queue_Len t0 w K) : Cl prog 56 #[t0] w K :=
  ⟨by kernel_rfl, calls_of_F (fn := fn56) (nt := 8) (rs := [2]) mixed fnAt56 (by kernel_rfl) (by kernel_rfl) (by kernel_rfl) (Nat.le_of_ble_eq_true (by kernel_rfl)) prio_Queue_Len_ok (prio_Queue_Len_eq t0 w K) h⟩

/-- paceline/calendar.New -/
def calendar_New (t0 t1 : Value) (w : World) (K : KV) : Prop :=
  mnI .i64 t0 (Value.int IntKind.i64 64) w fun t6 w =>
  mxI .i64 (Value.int IntKind.i64 0) t6 w fun t7 w =>
  mnI .i64 t1 (Value.int IntKind.i64 1048576) w fun t9 w =>
  mxI .i64 (Value.int IntKind.i64 1) t9 w fun t10 w =>
  bld (zeroD prog 154) #[(0, 1), (1, 1), (2, 1), (3, 8)] [(0, t7), (1, t10)] w fun t11 w =>
  al (Value.cells t11) 154 w fun t12 w =>
  K t12 w
theorem calendar_New_eq (t0 t1 : Value) (w : World) (K : KV) : calendar_New t0 t1 w K = fnW prog 13 [4] (match fn57.body with | some c => c | none => .skip) #[t0, t1] w K := by kernel_rfl
theorem calendar_New_ok : fnOk prog 13 [4] (match fn57.body with | some c => c | none => .skip) = true := by kernel_rfl
theorem calendar_New_calls {t0 t1 : Value} {w : World} {K : KV} (h : calendar_New t0 t1 w K) : Cl prog 57 #[t0, t1] w K :=
  ⟨by kernel_rfl, calls_of_F (fn := fn57) (nt := 13) (rs := [4]) mixed fnAt57 (by kernel_rfl) (by kernel_rfl) (by kernel_rfl) (Nat.le_of_ble_eq_true (by kernel_rfl)) calendar_New_ok (calendar_New_eq t0 t1 w K) h⟩

/-- (*paceline/calendar.Queue).Push -/
def calendar_Queue_Push (t0 t1 : Value) (w : World) (K : KV) : Prop :=
  al (Value.cells t1) 63 w fun t3 w =>
  fld 0 t3 w fun t8 w =>
  fld 0 t8 w fun t9 w =>
  ld1 t9 w fun t10 w =>
  Cl prog 76 #[t10] w fun t11 w =>
  bnot t11 w fun t12 w =>
  iff' t12
  (K (Value.int IntKind.i64 1) w)
  (fld 0 t3 w fun t14 w =>
  fld 0 t14 w fun t15 w =>
  ld1 t15 w fun t16 w =>
  Cl prog 92 #[t0, t16] w fun t17 w =>
  dr w fun w =>
  ncP t17 <|
  ld1 t17 w fun t21 _ =>
  fld 0 t3 w fun t22 _ =>
  ldN 3 t22 w fun t23 _ =>
  Cl prog 93 #[t21, t23] w fun t24 w =>
  xt 0 t24 w fun t25 _ =>
  xt 1 t24 w fun t26 _ =>
  iff' t26
  (K (Value.int IntKind.i64 3) w)
  (dr w fun w =>
  ncP t0 <|
  fld 2 t0 w fun t32 _ =>
  ld1 t32 w fun t33 _ =>
  ncP t0 <|
  fld 0 t0 w fun t36 _ =>
  ld1 t36 w fun t37 _ =>
  bi .geq .i64 t33 t37 w fun t38 _ =>
  iff' t38
  (K (Value.int IntKind.i64 2) w)
  (dr w fun w =>
  ncP t17 <|
  ld1 t17 w fun t42 _ =>
  ldN 6 t3 w fun t44 _ =>
  bsl 63 6 1 (zeroD prog 63) [(0, t44)] w fun t45 w =>
  (ld1 t17 w (fun v' w'' => v' = t42 ∧ w'' = w)) ∧ (Cl prog 94 #[t42, t25, t45] w fun t46 w =>
  ncP t17 <|
  stN 1 t17 t46 w fun _ w =>
  ncP t0 <|
  fld 2 t0 w fun t50 w =>
  ld1 t50 w fun t51 w =>
  bi .add .i64 t51 (Value.int IntKind.i64 1) w fun t52 w =>
  ncP t0 <|
  fld 2 t0 w fun t54 w =>
  stN 1 t54 t52 w fun _ w =>
  K (Value.int IntKind.i64 0) w))))
theorem calendar_Queue_Push_eq (t0 t1 : Value) (w : World) (K : KV) : calendar_Queue_Push t0 t1 w K = fnW prog 55 [4] (match fn58.body with | some c => c | none => .skip) #[t0, t1] w K := by kernel_rfl
theorem calendar_Queue_Push_ok : fnOk prog 55 [4] (match fn58.body with | some c => c | none => .skip) = true := by kernel_rfl
theorem calendar_Queue_Push_calls {t0 t1 : Value} {w : World} {K : KV} (h : calendar_Queue_Push t0 t1 w K) : Cl prog 58 #[t0, t1] w K :=
  ⟨by kernel_rfl, calls_of_F (fn := fn58) (nt := 55) (rs := [4]) mixed fnAt58 (by kernel_rfl) (by kernel_rfl) (by kernel_rfl) (Nat.le_of_ble_eq_true (by kernel_rfl)) calendar_Queue_Push_ok (calendar_Queue_Push_eq t0 t1 w K) h⟩

/-- (*paceline/calendar.Queue).Days -/
def calendar_Queue_Days (t0 : Value) (w : World) (K : KV) : Prop :=
  ncP t0 <|
  fld 3 t0 w fun t8 w =>
  ldN 8 t8 w fun t9 w =>
  lp [(Value.slice none 0 0), (Value.int IntKind.i64 0)] w (b2 fun t3 t10 w g1 =>
  bi .lss .i64 t10 (Value.int IntKind.i64 8) w fun t11 w =>
  iff' t11
  (ixV prog 152 t9 t10 w fun t12 w =>
  lnS t12 w fun t15 w =>
  bsl 3 1 1 (zeroD prog 3) [(0, t15)] w fun t16 w =>
  apS prog #[38, 38] 38 t3 t16 w fun t17 w =>
  bi .add .i64 t10 (Value.int IntKind.i64 1) w fun t18 w =>
  g1 [t17, t18] w)
  (K t3 w))
theorem calendar_Queue_Days_eq (t0 : Value) (w : World) (K : KV) : calendar_Queue_Days t0 w K = fnW prog 20 [2] (match fn59.body with | some c => c | none => .skip) #[t0] w K := by kernel_rfl
theorem calendar_Queue_Days_ok : fnOk prog 20 [2] (match fn59.body with | some c => c | none => .skip) = true := by kernel_rfl
theorem calendar_Queue_Days_calls {t0 : Value} {w : World} {K : KV} (h : calendar_Queue_Days t0 w K) : Cl prog 59 #[t0] w K :=
  ⟨by kernel_rfl, calls_of_F (fn := fn59) (nt := 20) (rs := [2]) mixed fnAt59 (by kernel_rfl) (by kernel_rfl) (by kernel_rfl) (Nat.le_of_ble_eq_true (by kernel_rfl)) calendar_Queue_Days_ok (calendar_Queue_Days_eq t0 w K) h⟩

end Go.Proofs.Ytdiglafiimnfoaa
