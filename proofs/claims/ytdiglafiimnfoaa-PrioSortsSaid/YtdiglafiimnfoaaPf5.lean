/- Printed by prt.py: the Go functions of this seat as shallow predicate transformers. Conditions: none. -/
import Derived.Test.YtdiglafiimnfoaaEngO
import Derived.Test.YtdiglafiimnfoaaPfHead
import Derived.KernelRfl
namespace Go.Proofs.Ytdiglafiimnfoaa
open Go Go.E
set_option linter.unusedVariables false
set_option maxRecDepth 100000
/-- (*paceline/link.Net).Send -/
def link_Net_Send (t0 t1 t2 t3 : Value) (w : World) (K : KV) : Prop :=
  al (Value.cells t3) 65 w fun t7 w =>
  Cl prog 83 #[t0, t1, t2] w fun t13 w =>
  bn .eql t13 w fun t16 w =>
  gd t16 false (fun k => fld 0 t7 w k) w fun t18 w =>
  gd t16 false (fun k => ld1 t18 w k) w fun t19 w =>
  gd t16 false (fun k => bi .lss .i64 t19 (Value.int IntKind.i64 0) w k) w fun t20 w =>
  pk t16 (Value.bool true) t20 w fun t21 w =>
  gd t21 false (fun k => fld 0 t7 w k) w fun t23 w =>
  gd t21 false (fun k => ld1 t23 w k) w fun t24 w =>
  gd t21 false (fun k => bi .gtr .i64 t24 (Value.int IntKind.i64 2) w k) w fun t25 w =>
  pk t21 (Value.bool true) t25 w fun t26 w =>
  gd t26 false (fun k => fld 7 t7 w k) w fun t28 w =>
  gd t26 false (fun k => ld1 t28 w k) w fun t29 w =>
  gd t26 false (fun k => bO prog .shr 3 (Operand.tmp 29) (Operand.const (Value.int IntKind.u64 1)) t29 (Value.int IntKind.u64 1) w k) w fun t30 w =>
  gd t26 false (fun k => bi .neq .i64 t30 (Value.int IntKind.i64 0) w k) w fun t31 w =>
  pk t26 (Value.bool true) t31 w fun t32 w =>
  iff' t32
  (K (Value.int IntKind.i64 1) w)
  (dr w fun w =>
  ncP t13 <|
  fld 129 t13 w fun t36 _ =>
  ld1 t36 w fun t37 _ =>
  ncP t0 <|
  fld 1 t0 w fun t40 _ =>
  ld1 t40 w fun t41 _ =>
  bi .eql .i64 t37 t41 w fun t42 _ =>
  iff' t42
  (K (Value.int IntKind.i64 2) w)
  (dr w fun w =>
  ncP t13 <|
  fld 128 t13 w fun t46 _ =>
  ld1 t46 w fun t47 _ =>
  ncP t13 <|
  fld 129 t13 w fun t50 _ =>
  ld1 t50 w fun t51 _ =>
  bi .add .i64 t47 t51 w fun t52 _ =>
  bi .rem .i64 t52 (Value.int IntKind.i64 16) w fun t53 _ =>
  ldN 8 t7 w fun t54 _ =>
  ncP t13 <|
  fld 0 t13 w fun t56 _ =>
  ixA 16 8 t56 t53 w fun t57 _ =>
  stN 8 t57 t54 w fun _ w =>
  ncP t13 <|
  fld 129 t13 w fun t60 w =>
  ld1 t60 w fun t61 w =>
  bi .add .i64 t61 (Value.int IntKind.i64 1) w fun t62 w =>
  ncP t13 <|
  fld 129 t13 w fun t64 w =>
  stN 1 t64 t62 w fun _ w =>
  K (Value.int IntKind.i64 0) w))
theorem link_Net_Send_eq (t0 t1 t2 t3 : Value) (w : World) (K : KV) : link_Net_Send t0 t1 t2 t3 w K = fnW prog 65 [8] (match fn33.body with | some c => c | none => .skip) #[t0, t1, t2, t3] w K := by kernel_rfl
theorem link_Net_Send_ok : fnOk prog 65 [8] (match fn33.body with | some c => c | none => .skip) = true := by kernel_rfl
theorem link_Net_Send_calls {t0 t1 t2 t3 : Value} {w : World} {K : KV} (h : link_Net_Send t0 t1 t2 t3 w K) : Cl prog 33 #[t0, t1, t2, t3] w K :=
  ⟨by kernel_rfl, calls_of_F (fn := fn33) (nt := 65) (rs := [8]) mixed fnAt33 (by kernel_rfl) (by kernel_rfl) (by kernel_rfl) (Nat.le_of_ble_eq_true (by kernel_rfl)) link_Net_Send_ok (link_Net_Send_eq t0 t1 t2 t3 w K) h⟩

/-- (*paceline/link.Net).Recv -/
def link_Net_Recv (t0 t1 t2 : Value) (w : World) (K : KV) : Prop :=
  al (zeroD prog 65) 65 w fun t6 w =>
  Cl prog 41 #[t0, t1, t2] w fun t15 w =>
  xt 0 t15 w fun t16 w =>
  xt 1 t15 w fun t17 w =>
  al (zeroD prog 65) 65 w fun t8 w =>
  stN 8 t8 t16 w fun _ w =>
  J0 (fun w =>
  ldN 8 t8 w fun t39 w =>
  stN 8 t6 t39 w fun _ w =>
  ldN 8 t6 w fun r0 _ =>
  K (Value.tuple #[r0, t17]) w) fun k1 =>
  iff' t17
  (Cl prog 83 #[t0, t1, t2] w fun t22 w =>
  ncP t22 <|
  fld 128 t22 w fun t26 w =>
  ld1 t26 w fun t27 w =>
  bi .add .i64 t27 (Value.int IntKind.i64 1) w fun t28 w =>
  bi .rem .i64 t28 (Value.int IntKind.i64 16) w fun t29 w =>
  ncP t22 <|
  fld 128 t22 w fun t31 w =>
  stN 1 t31 t29 w fun _ w =>
  ncP t22 <|
  fld 129 t22 w fun t34 w =>
  ld1 t34 w fun t35 w =>
  bi .sub .i64 t35 (Value.int IntKind.i64 1) w fun t36 w =>
  ncP t22 <|
  fld 129 t22 w fun t38 w =>
  stN 1 t38 t36 w fun _ w =>
  k1 w)
  (k1 w)
theorem link_Net_Recv_eq (t0 t1 t2 : Value) (w : World) (K : KV) : link_Net_Recv t0 t1 t2 w K = fnWC prog 41 [(6, some 65), (7, none)] (match fn34.body with | some c => c | none => .skip) #[t0, t1, t2] w K := by kernel_rfl
theorem link_Net_Recv_ok : fnOkC prog 41 [(6, some 65), (7, none)] (match fn34.body with | some c => c | none => .skip) = true := by kernel_rfl
theorem link_Net_Recv_calls {t0 t1 t2 : Value} {w : World} {K : KV} (h : link_Net_Recv t0 t1 t2 w K) : Cl prog 34 #[t0, t1, t2] w K :=
  ⟨by kernel_rfl, calls_of_FC (fn := fn34) (nt := 41) (rs := [(6, some 65), (7, none)]) mixed fnAt34 (by kernel_rfl) (by kernel_rfl) (by kernel_rfl) (Nat.le_of_ble_eq_true (by kernel_rfl)) link_Net_Recv_ok (link_Net_Recv_eq t0 t1 t2 w K) h⟩

/-- (*paceline/link.Net).Room -/
def link_Net_Room (t0 t1 t2 : Value) (w : World) (K : KV) : Prop :=
  Cl prog 83 #[t0, t1, t2] w fun t11 w =>
  bn .neq t11 w fun t13 w =>
  iff' t13
  (dr w fun w =>
  ncP t0 <|
  fld 1 t0 w fun t16 _ =>
  ld1 t16 w fun t17 _ =>
  ncP t11 <|
  fld 129 t11 w fun t20 _ =>
  ld1 t20 w fun t21 _ =>
  bi .sub .i64 t17 t21 w fun t22 _ =>
  K t22 w)
  (K (Value.int IntKind.i64 0) w)
theorem link_Net_Room_eq (t0 t1 t2 : Value) (w : World) (K : KV) : link_Net_Room t0 t1 t2 w K = fnW prog 23 [6] (match fn38.body with | some c => c | none => .skip) #[t0, t1, t2] w K := by kernel_rfl
theorem link_Net_Room_ok : fnOk prog 23 [6] (match fn38.body with | some c => c | none => .skip) = true := by kernel_rfl
theorem link_Net_Room_calls {t0 t1 t2 : Value} {w : World} {K : KV} (h : link_Net_Room t0 t1 t2 w K) : Cl prog 38 #[t0, t1, t2] w K :=
  ⟨by kernel_rfl, calls_of_F (fn := fn38) (nt := 23) (rs := [6]) mixed fnAt38 (by kernel_rfl) (by kernel_rfl) (by kernel_rfl) (Nat.le_of_ble_eq_true (by kernel_rfl)) link_Net_Room_ok (link_Net_Room_eq t0 t1 t2 w K) h⟩

/-- paceline/pacelineref10.New -/
def pacelineref10_New (t0 t1 : Value) (w : World) (K : KV) : Prop :=
  bi .lss .i64 t0 (Value.int IntKind.i64 1) w fun t7 w =>
  gd t7 false (fun k => k t0 w) w fun t9 w =>
  gd t7 false (fun k => bi .gtr .i64 t9 (Value.int IntKind.i64 8) w k) w fun t10 w =>
  pk t7 (Value.bool true) t10 w fun t11 w =>
  gd t11 false (fun k => k t1 w) w fun t13 w =>
  gd t11 false (fun k => bi .lss .i64 t13 (Value.int IntKind.i64 1) w k) w fun t14 w =>
  pk t11 (Value.bool true) t14 w fun t15 w =>
  gd t15 false (fun k => k t1 w) w fun t17 w =>
  gd t15 false (fun k => bi .gtr .i64 t17 (Value.int IntKind.i64 16) w k) w fun t18 w =>
  pk t15 (Value.bool true) t18 w fun t19 w =>
  iff' t19
  (K (Value.tuple #[(Value.pointer none), (Value.int IntKind.i64 1)]) w)
  (bi .mul .i64 t0 t0 w fun t24 w =>
  mkS prog 136 t24 t24 w fun t25 w =>
  bld (zeroD prog 138) #[(0, 1), (1, 1), (2, 1)] [(0, t0), (1, t1), (2, t25)] w fun t26 w =>
  al (Value.cells t26) 138 w fun t27 w =>
  K (Value.tuple #[t27, (Value.int IntKind.i64 0)]) w)
theorem pacelineref10_New_eq (t0 t1 : Value) (w : World) (K : KV) : pacelineref10_New t0 t1 w K = fnW prog 28 [4, 5] (match fn39.body with | some c => c | none => .skip) #[t0, t1] w K := by kernel_rfl
theorem pacelineref10_New_ok : fnOk prog 28 [4, 5] (match fn39.body with | some c => c | none => .skip) = true := by kernel_rfl
theorem pacelineref10_New_calls {t0 t1 : Value} {w : World} {K : KV} (h : pacelineref10_New t0 t1 w K) : Cl prog 39 #[t0, t1] w K :=
  ⟨by kernel_rfl, calls_of_F (fn := fn39) (nt := 28) (rs := [4, 5]) mixed fnAt39 (by kernel_rfl) (by kernel_rfl) (by kernel_rfl) (Nat.le_of_ble_eq_true (by kernel_rfl)) pacelineref10_New_ok (pacelineref10_New_eq t0 t1 w K) h⟩

/-- (*paceline/pacelineref10.Net).Send -/
def pacelineref10_Net_Send (t0 t1 t2 t3 : Value) (w : World) (K : KV) : Prop :=
  al (Value.cells t3) 65 w fun t7 w =>
  Cl prog 86 #[t0, t1, t2] w fun t13 w =>
  bnot t13 w fun t14 w =>
  gd t14 false (fun k => fld 0 t7 w k) w fun t16 w =>
  gd t14 false (fun k => ld1 t16 w k) w fun t17 w =>
  gd t14 false (fun k => bi .lss .i64 t17 (Value.int IntKind.i64 0) w k) w fun t18 w =>
  pk t14 (Value.bool true) t18 w fun t19 w =>
  gd t19 false (fun k => fld 0 t7 w k) w fun t21 w =>
  gd t19 false (fun k => ld1 t21 w k) w fun t22 w =>
  gd t19 false (fun k => bi .gtr .i64 t22 (Value.int IntKind.i64 2) w k) w fun t23 w =>
  pk t19 (Value.bool true) t23 w fun t24 w =>
  gd t24 false (fun k => fld 7 t7 w k) w fun t26 w =>
  gd t24 false (fun k => ld1 t26 w k) w fun t27 w =>
  gd t24 false (fun k => bi .lss .i64 t27 (Value.int IntKind.i64 0) w k) w fun t28 w =>
  pk t24 (Value.bool true) t28 w fun t29 w =>
  gd t29 false (fun k => fld 7 t7 w k) w fun t31 w =>
  gd t29 false (fun k => ld1 t31 w k) w fun t32 w =>
  gd t29 false (fun k => bi .gtr .i64 t32 (Value.int IntKind.i64 1) w k) w fun t33 w =>
  pk t29 (Value.bool true) t33 w fun t34 w =>
  iff' t34
  (K (Value.int IntKind.i64 1) w)
  (Cl prog 46 #[t0, t1, t2] w fun t38 w =>
  bi .eql .i64 t38 (Value.int IntKind.i64 0) w fun t39 w =>
  iff' t39
  (K (Value.int IntKind.i64 2) w)
  (bsl 65 8 0 #[] [] w fun t40 w =>
  dr w fun w =>
  ncP t0 <|
  fld 2 t0 w fun t44 _ =>
  ld1 t44 w fun t45 _ =>
  ncP t0 <|
  fld 0 t0 w fun t49 _ =>
  ld1 t49 w fun t50 _ =>
  bi .mul .i64 t1 t50 w fun t51 _ =>
  bi .add .i64 t51 t2 w fun t53 _ =>
  ixS 1 t45 t53 w fun t54 _ =>
  ld1 t54 w fun t55 _ =>
  apS prog #[59, 59] 59 t40 t55 w fun t56 w =>
  dr w fun w =>
  ncP t0 <|
  fld 2 t0 w fun t59 _ =>
  ld1 t59 w fun t60 _ =>
  ncP t0 <|
  fld 0 t0 w fun t64 _ =>
  ld1 t64 w fun t65 _ =>
  bi .mul .i64 t1 t65 w fun t66 _ =>
  bi .add .i64 t66 t2 w fun t68 _ =>
  ldN 8 t7 w fun t70 _ =>
  bsl 65 8 1 (zeroD prog 65) [(0, t70)] w fun t71 w =>
  (ld1 t64 w (fun v' w'' => v' = t65 ∧ w'' = w)) ∧ ((ld1 t59 w (fun v' w'' => v' = t60 ∧ w'' = w)) ∧ (apS prog #[59, 59] 59 t56 t71 w fun t72 w =>
  (ld1 t64 w (fun v' w'' => v' = t65 ∧ w'' = w)) ∧ ((ld1 t59 w (fun v' w'' => v' = t60 ∧ w'' = w)) ∧ (ixS 1 t60 t68 w fun t73 _ =>
  stN 1 t73 t72 w fun _ w =>
  K (Value.int IntKind.i64 0) w))))))
theorem pacelineref10_Net_Send_eq (t0 t1 t2 t3 : Value) (w : World) (K : KV) : pacelineref10_Net_Send t0 t1 t2 t3 w K = fnW prog 74 [8] (match fn40.body with | some c => c | none => .skip) #[t0, t1, t2, t3] w K := by kernel_rfl
theorem pacelineref10_Net_Send_ok : fnOk prog 74 [8] (match fn40.body with | some c => c | none => .skip) = true := by kernel_rfl
theorem pacelineref10_Net_Send_calls {t0 t1 t2 t3 : Value} {w : World} {K : KV} (h : pacelineref10_Net_Send t0 t1 t2 t3 w K) : Cl prog 40 #[t0, t1, t2, t3] w K :=
  ⟨by kernel_rfl, calls_of_F (fn := fn40) (nt := 74) (rs := [8]) mixed fnAt40 (by kernel_rfl) (by kernel_rfl) (by kernel_rfl) (Nat.le_of_ble_eq_true (by kernel_rfl)) pacelineref10_Net_Send_ok (pacelineref10_Net_Send_eq t0 t1 t2 t3 w K) h⟩

/-- (*paceline/link.Net).First -/
def link_Net_First (t0 t1 t2 : Value) (w : World) (K : KV) : Prop :=
  al (zeroD prog 65) 65 w fun t6 w =>
  Cl prog 83 #[t0, t1, t2] w fun t12 w =>
  bn .eql t12 w fun t14 w =>
  gd t14 false (fun k => k t12 w) w fun t16 w =>
  gd t14 false (fun k => nc t16 w k) w fun t17 w =>
  gd t14 false (fun k => fld 129 t17 w k) w fun t18 w =>
  gd t14 false (fun k => ld1 t18 w k) w fun t19 w =>
  gd t14 false (fun k => bi .eql .i64 t19 (Value.int IntKind.i64 0) w k) w fun t20 w =>
  pk t14 (Value.bool true) t20 w fun t21 w =>
  iff' t21
  (bld (zeroD prog 65) #[(0, 1), (1, 6), (7, 1)] [] w fun t22 w =>
  stN 8 t6 t22 w fun _ w =>
  ldN 8 t6 w fun r0 _ =>
  K (Value.tuple #[r0, (Value.bool false)]) w)
  (dr w fun w =>
  ncP t12 <|
  fld 128 t12 w fun t26 _ =>
  ld1 t26 w fun t27 _ =>
  ncP t12 <|
  fld 0 t12 w fun t29 _ =>
  ixA 16 8 t29 t27 w fun t30 _ =>
  ldN 8 t30 w fun t31 _ =>
  stN 8 t6 t31 w fun _ w =>
  ldN 8 t6 w fun r0 _ =>
  K (Value.tuple #[r0, (Value.bool true)]) w)
theorem link_Net_First_eq (t0 t1 t2 : Value) (w : World) (K : KV) : link_Net_First t0 t1 t2 w K = fnWC prog 32 [(6, some 65), (7, none)] (match fn41.body with | some c => c | none => .skip) #[t0, t1, t2] w K := by kernel_rfl
theorem link_Net_First_ok : fnOkC prog 32 [(6, some 65), (7, none)] (match fn41.body with | some c => c | none => .skip) = true := by kernel_rfl
theorem link_Net_First_calls {t0 t1 t2 : Value} {w : World} {K : KV} (h : link_Net_First t0 t1 t2 w K) : Cl prog 41 #[t0, t1, t2] w K :=
  ⟨by kernel_rfl, calls_of_FC (fn := fn41) (nt := 32) (rs := [(6, some 65), (7, none)]) mixed fnAt41 (by kernel_rfl) (by kernel_rfl) (by kernel_rfl) (Nat.le_of_ble_eq_true (by kernel_rfl)) link_Net_First_ok (link_Net_First_eq t0 t1 t2 w K) h⟩

end Go.Proofs.Ytdiglafiimnfoaa
