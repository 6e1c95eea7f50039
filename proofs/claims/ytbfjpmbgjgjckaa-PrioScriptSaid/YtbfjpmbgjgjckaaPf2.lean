/- Printed by prt.py: the Go functions of this seat as shallow predicate transformers. Conditions: none. -/
import Derived.Test.YtbfjpmbgjgjckaaEngO
import Derived.Test.YtbfjpmbgjgjckaaPfHead
import Derived.KernelRfl
namespace Go.Proofs.Ytbfjpmbgjgjckaa
open Go Go.E
set_option linter.unusedVariables false
set_option maxRecDepth 100000
/-- (*paceline/prio.Queue).Pop -/
def prio_Queue_Pop (t0 : Value) (w : World) (K : KV) : Prop :=
  al (zeroD prog 30) 30 w fun t2 w =>
  ncP t0 <|
  fld 1 t0 w fun t6 w =>
  ld1 t6 w fun t7 w =>
  lnS t7 w fun t8 w =>
  bi .eql .i64 t8 (Value.int IntKind.i64 0) w fun t9 w =>
  iff' t9
  (bld (zeroD prog 30) #[(0, 3), (3, 1), (4, 1), (5, 1)] [] w fun t10 w =>
  stN 6 t2 t10 w fun _ w =>
  ldN 6 t2 w fun r0 _ =>
  K (Value.tuple #[r0, (Value.bool false)]) w)
  (bld (zeroD prog 57) #[(0, 1)] [(0, t0)] w fun t12 w =>
  Cl prog 35 #[(Value.iface 57 t12)] w fun t14 w =>
  tyA prog t14 20 30 false w fun t15 w =>
  stN 6 t2 t15 w fun _ w =>
  ldN 6 t2 w fun r0 _ =>
  K (Value.tuple #[r0, (Value.bool true)]) w)
theorem prio_Queue_Pop_eq (t0 : Value) (w : World) (K : KV) : prio_Queue_Pop t0 w K = fnWC prog 16 [(2, some 30), (3, none)] (match fn15.body with | some c => c | none => .skip) #[t0] w K := by kernel_rfl
theorem prio_Queue_Pop_ok : fnOkC prog 16 [(2, some 30), (3, none)] (match fn15.body with | some c => c | none => .skip) = true := by kernel_rfl
theorem prio_Queue_Pop_calls {t0 : Value} {w : World} {K : KV} (h : prio_Queue_Pop t0 w K) : Cl prog 15 #[t0] w K :=
  Cl.mk (by kernel_rfl) (calls_of_FC (fn := fn15) (nt := 16) (rs := [(2, some 30), (3, none)]) mixed fnAt15 (by kernel_rfl) (by kernel_rfl) (by kernel_rfl) (Nat.le_of_ble_eq_true (by kernel_rfl)) prio_Queue_Pop_ok (prio_Queue_Pop_eq t0 w K) h)

/-- paceline/pacelineref03.Insert -/
def pacelineref03_Insert (t0 t1 : Value) (w : World) (K : KV) : Prop :=
  al (Value.cells t1) 30 w fun t3 w =>
  bsl 30 6 0 #[] [] w fun t8 w =>
  lp [t8, (Value.bool false), (Value.int IntKind.i64 0)] w (b3 fun t5 t6 t7 w g1 =>
  lnS t0 w fun t11 w =>
  bi .lss .i64 t7 t11 w fun t12 w =>
  iff' t12
  (dr w fun w =>
  bnot t6 w fun t16 _ =>
  gd t16 true (fun k => fld 0 t3 w k) w fun t18 _ =>
  gd t16 true (fun k => ldN 3 t18 w k) w fun t19 _ =>
  gd t16 true (fun k => k t0 w) w fun t20 _ =>
  gd t16 true (fun k => k t7 w) w fun t21 _ =>
  gd t16 true (fun k => ixS 6 t20 t21 w k) w fun t22 _ =>
  gd t16 true (fun k => fld 0 t22 w k) w fun t23 _ =>
  gd t16 true (fun k => ldN 3 t23 w k) w fun t24 _ =>
  gd t16 true (fun k => Cl prog 14 #[t19, t24] w k) w fun t25 w =>
  gd t16 true (fun k => bi .lss .i64 t25 (Value.int IntKind.i64 0) w k) w fun t26 _ =>
  pk t16 t26 (Value.bool false) w fun t27 _ =>
  J2 (fun t5_1 t6_1 w =>
  ixS 6 t0 t7 w fun t35 w =>
  ldN 6 t35 w fun t36 w =>
  bsl 30 6 1 (zeroD prog 30) [(0, t36)] w fun t37 w =>
  apS prog #[22, 22] 22 t5_1 t37 w fun t38 w =>
  bi .add .i64 t7 (Value.int IntKind.i64 1) w fun t14 w =>
  g1 [t38, t6_1, t14] w) fun k2 =>
  iff' t27
  (ldN 6 t3 w fun t29 w =>
  bsl 30 6 1 (zeroD prog 30) [(0, t29)] w fun t30 w =>
  apS prog #[22, 22] 22 t5 t30 w fun t31 w =>
  k2 t31 (Value.bool true) w)
  (k2 t5 t6 w))
  (bnot t6 w fun t40 w =>
  J1 (fun t5_2 w =>
  K t5_2 w) fun k3 =>
  iff' t40
  (ldN 6 t3 w fun t42 w =>
  bsl 30 6 1 (zeroD prog 30) [(0, t42)] w fun t43 w =>
  apS prog #[22, 22] 22 t5 t43 w fun t44 w =>
  k3 t44 w)
  (k3 t5 w)))
theorem pacelineref03_Insert_eq (t0 t1 : Value) (w : World) (K : KV) : pacelineref03_Insert t0 t1 w K = fnW prog 46 [4] (match fn16.body with | some c => c | none => .skip) #[t0, t1] w K := by kernel_rfl
theorem pacelineref03_Insert_ok : fnOk prog 46 [4] (match fn16.body with | some c => c | none => .skip) = true := by kernel_rfl
theorem pacelineref03_Insert_calls {t0 t1 : Value} {w : World} {K : KV} (h : pacelineref03_Insert t0 t1 w K) : Cl prog 16 #[t0, t1] w K :=
  Cl.mk (by kernel_rfl) (calls_of_F (fn := fn16) (nt := 46) (rs := [4]) mixed fnAt16 (by kernel_rfl) (by kernel_rfl) (by kernel_rfl) (Nat.le_of_ble_eq_true (by kernel_rfl)) pacelineref03_Insert_ok (pacelineref03_Insert_eq t0 t1 w K) h)

/-- (*paceline/prio.Queue).Remove -/
def prio_Queue_Remove (t0 t1 : Value) (w : World) (K : KV) : Prop :=
  al (Value.cells t1) 28 w fun t3 w =>
  al (zeroD prog 30) 30 w fun t4 w =>
  dr w fun w =>
  ncP t0 <|
  fld 2 t0 w fun t11 _ =>
  ld1 t11 w fun t12 _ =>
  ldN 3 t3 w fun t13 _ =>
  lkM prog 51 t12 t13 true w fun t14 w =>
  xt 0 t14 w fun t15 _ =>
  xt 1 t14 w fun t16 _ =>
  bnot t16 w fun t18 w =>
  iff' t18
  (bld (zeroD prog 30) #[(0, 3), (3, 1), (4, 1), (5, 1)] [] w fun t19 w =>
  stN 6 t4 t19 w fun _ w =>
  ldN 6 t4 w fun r0 _ =>
  K (Value.tuple #[r0, (Value.bool false)]) w)
  (bld (zeroD prog 57) #[(0, 1)] [(0, t0)] w fun t21 w =>
  Cl prog 36 #[(Value.iface 57 t21), t15] w fun t24 w =>
  tyA prog t24 20 30 false w fun t25 w =>
  stN 6 t4 t25 w fun _ w =>
  ldN 6 t4 w fun r0 _ =>
  K (Value.tuple #[r0, (Value.bool true)]) w)
theorem prio_Queue_Remove_eq (t0 t1 : Value) (w : World) (K : KV) : prio_Queue_Remove t0 t1 w K = fnWC prog 26 [(4, some 30), (5, none)] (match fn17.body with | some c => c | none => .skip) #[t0, t1] w K := by kernel_rfl
theorem prio_Queue_Remove_ok : fnOkC prog 26 [(4, some 30), (5, none)] (match fn17.body with | some c => c | none => .skip) = true := by kernel_rfl
theorem prio_Queue_Remove_calls {t0 t1 : Value} {w : World} {K : KV} (h : prio_Queue_Remove t0 t1 w K) : Cl prog 17 #[t0, t1] w K :=
  Cl.mk (by kernel_rfl) (calls_of_FC (fn := fn17) (nt := 26) (rs := [(4, some 30), (5, none)]) mixed fnAt17 (by kernel_rfl) (by kernel_rfl) (by kernel_rfl) (Nat.le_of_ble_eq_true (by kernel_rfl)) prio_Queue_Remove_ok (prio_Queue_Remove_eq t0 t1 w K) h)

/-- paceline/pacelineref03.Without -/
def pacelineref03_Without (t0 t1 : Value) (w : World) (K : KV) : Prop :=
  al (Value.cells t1) 28 w fun t3 w =>
  bsl 30 6 0 #[] [] w fun t7 w =>
  lp [t7, (Value.int IntKind.i64 0)] w (b2 fun t5 t6 w g1 =>
  lnS t0 w fun t10 w =>
  bi .lss .i64 t6 t10 w fun t11 w =>
  iff' t11
  (J1 (fun t5_1 w =>
  bi .add .i64 t6 (Value.int IntKind.i64 1) w fun t13 w =>
  g1 [t5_1, t13] w) fun k2 =>
  dr w fun w =>
  ixS 6 t0 t6 w fun t16 _ =>
  fld 0 t16 w fun t17 _ =>
  ldN 3 t17 w fun t18 _ =>
  ldN 3 t3 w fun t19 _ =>
  bO prog .neq 28 (Operand.tmp 18) (Operand.tmp 19) t18 t19 w fun t20 w =>
  iff' t20
  (ixS 6 t0 t6 w fun t24 w =>
  ldN 6 t24 w fun t25 w =>
  bsl 30 6 1 (zeroD prog 30) [(0, t25)] w fun t26 w =>
  apS prog #[22, 22] 22 t5 t26 w fun t27 w =>
  k2 t27 w)
  (k2 t5 w))
  (K t5 w))
theorem pacelineref03_Without_eq (t0 t1 : Value) (w : World) (K : KV) : pacelineref03_Without t0 t1 w K = fnW prog 29 [4] (match fn18.body with | some c => c | none => .skip) #[t0, t1] w K := by kernel_rfl
theorem pacelineref03_Without_ok : fnOk prog 29 [4] (match fn18.body with | some c => c | none => .skip) = true := by kernel_rfl
theorem pacelineref03_Without_calls {t0 t1 : Value} {w : World} {K : KV} (h : pacelineref03_Without t0 t1 w K) : Cl prog 18 #[t0, t1] w K :=
  Cl.mk (by kernel_rfl) (calls_of_F (fn := fn18) (nt := 29) (rs := [4]) mixed fnAt18 (by kernel_rfl) (by kernel_rfl) (by kernel_rfl) (Nat.le_of_ble_eq_true (by kernel_rfl)) pacelineref03_Without_ok (pacelineref03_Without_eq t0 t1 w K) h)

/-- paceline/pacelinelaw03.same -/
def pacelinelaw03_same (t0 t1 : Value) (w : World) (K : KV) : Prop :=
  lnS t0 w fun t7 w =>
  lnS t1 w fun t9 w =>
  bi .neq .i64 t7 t9 w fun t10 w =>
  iff' t10
  (K (Value.bool false) w)
  (lp [(Value.int IntKind.i64 0)] w (b1 fun t5 w g1 =>
  lnS t0 w fun t13 w =>
  bi .lss .i64 t5 t13 w fun t14 w =>
  iff' t14
  (dr w fun w =>
  ixS 6 t0 t5 w fun t19 _ =>
  ldN 6 t19 w fun t20 _ =>
  ixS 6 t1 t5 w fun t23 _ =>
  ldN 6 t23 w fun t24 _ =>
  bO prog .neq 30 (Operand.tmp 20) (Operand.tmp 24) t20 t24 w fun t25 w =>
  iff' t25
  (K (Value.bool false) w)
  (bi .add .i64 t5 (Value.int IntKind.i64 1) w fun t16 w =>
  g1 [t16] w))
  (K (Value.bool true) w)))
theorem pacelinelaw03_same_eq (t0 t1 : Value) (w : World) (K : KV) : pacelinelaw03_same t0 t1 w K = fnW prog 26 [4] (match fn19.body with | some c => c | none => .skip) #[t0, t1] w K := by kernel_rfl
theorem pacelinelaw03_same_ok : fnOk prog 26 [4] (match fn19.body with | some c => c | none => .skip) = true := by kernel_rfl
theorem pacelinelaw03_same_calls {t0 t1 : Value} {w : World} {K : KV} (h : pacelinelaw03_same t0 t1 w K) : Cl prog 19 #[t0, t1] w K :=
  Cl.mk (by kernel_rfl) (calls_of_F (fn := fn19) (nt := 26) (rs := [4]) mixed fnAt19 (by kernel_rfl) (by kernel_rfl) (by kernel_rfl) (Nat.le_of_ble_eq_true (by kernel_rfl)) pacelinelaw03_same_ok (pacelinelaw03_same_eq t0 t1 w K) h)

/-- paceline/pacelineref03.New -/
def pacelineref03_New (t0 : Value) (w : World) (K : KV) : Prop :=
  mnI .i64 t0 (Value.int IntKind.i64 64) w fun t4 w =>
  mxI .i64 (Value.int IntKind.i64 0) t4 w fun t5 w =>
  bld (zeroD prog 66) #[(0, 1), (1, 1)] [(0, t5)] w fun t6 w =>
  al (Value.cells t6) 66 w fun t7 w =>
  K t7 w
theorem pacelineref03_New_eq (t0 : Value) (w : World) (K : KV) : pacelineref03_New t0 w K = fnW prog 8 [2] (match fn20.body with | some c => c | none => .skip) #[t0] w K := by kernel_rfl
theorem pacelineref03_New_ok : fnOk prog 8 [2] (match fn20.body with | some c => c | none => .skip) = true := by kernel_rfl
theorem pacelineref03_New_calls {t0 : Value} {w : World} {K : KV} (h : pacelineref03_New t0 w K) : Cl prog 20 #[t0] w K :=
  Cl.mk (by kernel_rfl) (calls_of_F (fn := fn20) (nt := 8) (rs := [2]) mixed fnAt20 (by kernel_rfl) (by kernel_rfl) (by kernel_rfl) (Nat.le_of_ble_eq_true (by kernel_rfl)) pacelineref03_New_ok (pacelineref03_New_eq t0 w K) h)

end Go.Proofs.Ytbfjpmbgjgjckaa
