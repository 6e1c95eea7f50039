/- Printed by prt.py: the Go functions of this seat as shallow predicate transformers. Conditions: none. -/
import Derived.Test.YtiiekfcfledkhaaEngO
import Derived.Test.YtiiekfcfledkhaaPfHead
import Derived.KernelRfl
namespace Go.Proofs.Ytiiekfcfledkhaa
open Go Go.E
/-- (*paceline/clock.Clocks).Hear -/
def clock_Clocks_Hear (t0 t1 t2 : Value) (w : World) (K : KV) : Prop :=
  ncP t0 <|
  fld 0 t0 w fun t12 w =>
  ld1 t12 w fun t13 w =>
  lkM prog 100 t13 t1 true w fun t15 w =>
  xt 0 t15 w fun t16 w =>
  xt 1 t15 w fun t17 w =>
  bnot t17 w fun t20 w =>
  gd t20 false (fun k => k t2 w) w fun t22 w =>
  gd t20 false (fun k => Cl prog 53 #[t22] w k) w fun t23 w =>
  gd t20 false (fun k => bnot t23 w k) w fun t24 w =>
  pk t20 (Value.bool true) t24 w fun t25 w =>
  iff' t25
  (K (Value.int IntKind.i64 1) w)
  (bi .lss .i64 t2 t16 w fun t29 w =>
  iff' t29
  (K (Value.int IntKind.i64 110) w)
  (ncP t0 <|
  fld 0 t0 w fun t32 w =>
  ld1 t32 w fun t33 w =>
  upM prog 100 t33 t1 t2 w fun _ w =>
  K (Value.int IntKind.i64 0) w))
theorem clock_Clocks_Hear_eq (t0 t1 t2 : Value) (w : World) (K : KV) : clock_Clocks_Hear t0 t1 t2 w K = fnW prog 36 [6] (match fn21.body with | some c => c | none => .skip) #[t0, t1, t2] w K := by kernel_rfl
theorem clock_Clocks_Hear_ok : fnOk prog 36 [6] (match fn21.body with | some c => c | none => .skip) = true := by kernel_rfl
theorem clock_Clocks_Hear_calls {t0 t1 t2 : Value} {w : World} {K : KV} (h : clock_Clocks_Hear t0 t1 t2 w K) : Cl prog 21 #[t0, t1, t2] w K :=
  ⟨by kernel_rfl, calls_of_F (fn := fn21) (nt := 36) (rs := [6]) mixed fnAt21 (by kernel_rfl) (by kernel_rfl) (by kernel_rfl) (Nat.le_of_ble_eq_true (by kernel_rfl)) clock_Clocks_Hear_ok (clock_Clocks_Hear_eq t0 t1 t2 w K) h⟩

/-- (*paceline/clock.Clocks).At -/
def clock_Clocks_At (t0 t1 : Value) (w : World) (K : KV) : Prop :=
  ncP t0 <|
  fld 0 t0 w fun t10 w =>
  ld1 t10 w fun t11 w =>
  lkM prog 100 t11 t1 true w fun t13 w =>
  xt 0 t13 w fun t14 w =>
  xt 1 t13 w fun t15 w =>
  iff' t15
  (K t14 w)
  (K (Value.int IntKind.i64 (-1)) w)
theorem clock_Clocks_At_eq (t0 t1 : Value) (w : World) (K : KV) : clock_Clocks_At t0 t1 w K = fnW prog 18 [4] (match fn22.body with | some c => c | none => .skip) #[t0, t1] w K := by kernel_rfl
theorem clock_Clocks_At_ok : fnOk prog 18 [4] (match fn22.body with | some c => c | none => .skip) = true := by kernel_rfl
theorem clock_Clocks_At_calls {t0 t1 : Value} {w : World} {K : KV} (h : clock_Clocks_At t0 t1 w K) : Cl prog 22 #[t0, t1] w K :=
  ⟨by kernel_rfl, calls_of_F (fn := fn22) (nt := 18) (rs := [4]) mixed fnAt22 (by kernel_rfl) (by kernel_rfl) (by kernel_rfl) (Nat.le_of_ble_eq_true (by kernel_rfl)) clock_Clocks_At_ok (clock_Clocks_At_eq t0 t1 w K) h⟩

/-- (*paceline/clock.Clocks).Bound -/
def clock_Clocks_Bound (t0 : Value) (w : World) (K : KV) : Prop :=
  al (zeroD prog 3) 3 w fun t3 w =>
  stN 1 t3 (Value.int IntKind.i64 1125899906842624) w fun _ w =>
  ncP t0 <|
  fld 0 t0 w fun t10 w =>
  ld1 t10 w fun t11 w =>
  rgM prog 100 t11 w fun t12 w =>
  lp [] w (b0 fun w g1 =>
  nxM prog t12 false 0 w fun t13 w =>
  xt 0 t13 w fun t14 w =>
  iff' t14
  (enM prog t12 w fun t15 w =>
  xt 1 t15 w fun t16 w =>
  clV prog (Value.func (Fn.func 54) #[] #[t3]) #[t16] w fun _ w =>
  g1 [] w)
  (ld1 t3 w fun t20 w =>
  K t20 w))
theorem clock_Clocks_Bound_eq (t0 : Value) (w : World) (K : KV) : clock_Clocks_Bound t0 w K = fnW prog 21 [2] (match fn23.body with | some c => c | none => .skip) #[t0] w K := by kernel_rfl
theorem clock_Clocks_Bound_ok : fnOk prog 21 [2] (match fn23.body with | some c => c | none => .skip) = true := by kernel_rfl
theorem clock_Clocks_Bound_calls {t0 : Value} {w : World} {K : KV} (h : clock_Clocks_Bound t0 w K) : Cl prog 23 #[t0] w K :=
  ⟨by kernel_rfl, calls_of_F (fn := fn23) (nt := 21) (rs := [2]) mixed fnAt23 (by kernel_rfl) (by kernel_rfl) (by kernel_rfl) (Nat.le_of_ble_eq_true (by kernel_rfl)) clock_Clocks_Bound_ok (clock_Clocks_Bound_eq t0 w K) h⟩

/-- paceline/link.New -/
def link_New (t0 t1 : Value) (w : World) (K : KV) : Prop :=
  bi .lss .i64 t0 (Value.int IntKind.i64 1) w fun t7 w =>
  gd t7 false (fun k => k t0 w) w fun t9 w =>
  gd t7 false (fun k => bi .gtr .i64 t9 (Value.int IntKind.i64 8) w k) w fun t10 w =>
  pk t7 (Value.bool true) t10 w fun t11 w =>
  gd t11 false (fun k => k t1 w) w fun t13 w =>
  gd t11 false (fun k => bi .lss .i64 t13 (Value.int IntKind.i64 1) w k) w fun t14 w =>
  pk t11 (Value.bool true) t14 w fun t15 w =>
  gd t15 false (fun k => k t1 w) w fun t17 w =>
  gd t15 false (fun k => bi .gtr .i64 t17 (Value.int IntKind.i64 16) w k) w fun t18 w =>
  pk t15 (Value.bool true) t18 w fun t19 w =>
  iff' t19
  (K (Value.tuple #[(Value.pointer none), (Value.int IntKind.i64 1)]) w)
  (bld (zeroD prog 111) #[(0, 1), (1, 1), (2, 8320)] [(0, t0), (1, t1)] w fun t22 w =>
  al (Value.cells t22) 111 w fun t23 w =>
  K (Value.tuple #[t23, (Value.int IntKind.i64 0)]) w)
theorem link_New_eq (t0 t1 : Value) (w : World) (K : KV) : link_New t0 t1 w K = fnW prog 24 [4, 5] (match fn24.body with | some c => c | none => .skip) #[t0, t1] w K := by kernel_rfl
theorem link_New_ok : fnOk prog 24 [4, 5] (match fn24.body with | some c => c | none => .skip) = true := by kernel_rfl
theorem link_New_calls {t0 t1 : Value} {w : World} {K : KV} (h : link_New t0 t1 w K) : Cl prog 24 #[t0, t1] w K :=
  ⟨by kernel_rfl, calls_of_F (fn := fn24) (nt := 24) (rs := [4, 5]) mixed fnAt24 (by kernel_rfl) (by kernel_rfl) (by kernel_rfl) (Nat.le_of_ble_eq_true (by kernel_rfl)) link_New_ok (link_New_eq t0 t1 w K) h⟩

/-- (*paceline/link.Net).Send -/
def link_Net_Send (t0 t1 t2 t3 : Value) (w : World) (K : KV) : Prop :=
  al (Value.cells t3) 55 w fun t7 w =>
  Cl prog 55 #[t0, t1, t2] w fun t13 w =>
  bn .eql t13 w fun t16 w =>
  gd t16 false (fun k => fld 0 t7 w k) w fun t18 w =>
  gd t16 false (fun k => ld1 t18 w k) w fun t19 w =>
  gd t16 false (fun k => bi .lss .i64 t19 (Value.int IntKind.i64 0) w k) w fun t20 w =>
  pk t16 (Value.bool true) t20 w fun t21 w =>
  gd t21 false (fun k => fld 0 t7 w k) w fun t23 w =>
  gd t21 false (fun k => ld1 t23 w k) w fun t24 w =>
  gd t21 false (fun k => bi .gtr .i64 t24 (Value.int IntKind.i64 2) w k) w fun t25 w =>
  pk t21 (Value.bool true) t25 w fun t26 w =>
  gd t26 false (fun k => fld 7 t7 w k) w fun t28 w =>
  gd t26 false (fun k => ld1 t28 w k) w fun t29 w =>
  gd t26 false (fun k => bO prog .shr 3 (Operand.tmp 29) (Operand.const (Value.int IntKind.u64 1)) t29 (Value.int IntKind.u64 1) w k) w fun t30 w =>
  gd t26 false (fun k => bi .neq .i64 t30 (Value.int IntKind.i64 0) w k) w fun t31 w =>
  pk t26 (Value.bool true) t31 w fun t32 w =>
  iff' t32
  (K (Value.int IntKind.i64 1) w)
  (dr w fun w =>
  ncP t13 <|
  fld 129 t13 w fun t36 _ =>
  ld1 t36 w fun t37 _ =>
  ncP t0 <|
  fld 1 t0 w fun t40 _ =>
  ld1 t40 w fun t41 _ =>
  bi .eql .i64 t37 t41 w fun t42 _ =>
  iff' t42
  (K (Value.int IntKind.i64 2) w)
  (dr w fun w =>
  ncP t13 <|
  fld 128 t13 w fun t46 _ =>
  ld1 t46 w fun t47 _ =>
  ncP t13 <|
  fld 129 t13 w fun t50 _ =>
  ld1 t50 w fun t51 _ =>
  bi .add .i64 t47 t51 w fun t52 _ =>
  bi .rem .i64 t52 (Value.int IntKind.i64 16) w fun t53 _ =>
  ldN 8 t7 w fun t54 _ =>
  ncP t13 <|
  fld 0 t13 w fun t56 _ =>
  ixA 16 8 t56 t53 w fun t57 _ =>
  stN 8 t57 t54 w fun _ w =>
  ncP t13 <|
  fld 129 t13 w fun t60 w =>
  ld1 t60 w fun t61 w =>
  bi .add .i64 t61 (Value.int IntKind.i64 1) w fun t62 w =>
  ncP t13 <|
  fld 129 t13 w fun t64 w =>
  stN 1 t64 t62 w fun _ w =>
  K (Value.int IntKind.i64 0) w))
theorem link_Net_Send_eq (t0 t1 t2 t3 : Value) (w : World) (K : KV) : link_Net_Send t0 t1 t2 t3 w K = fnW prog 65 [8] (match fn25.body with | some c => c | none => .skip) #[t0, t1, t2, t3] w K := by kernel_rfl
theorem link_Net_Send_ok : fnOk prog 65 [8] (match fn25.body with | some c => c | none => .skip) = true := by kernel_rfl
theorem link_Net_Send_calls {t0 t1 t2 t3 : Value} {w : World} {K : KV} (h : link_Net_Send t0 t1 t2 t3 w K) : Cl prog 25 #[t0, t1, t2, t3] w K :=
  ⟨by kernel_rfl, calls_of_F (fn := fn25) (nt := 65) (rs := [8]) mixed fnAt25 (by kernel_rfl) (by kernel_rfl) (by kernel_rfl) (Nat.le_of_ble_eq_true (by kernel_rfl)) link_Net_Send_ok (link_Net_Send_eq t0 t1 t2 t3 w K) h⟩

/-- (*paceline/link.Net).Recv -/
def link_Net_Recv (t0 t1 t2 : Value) (w : World) (K : KV) : Prop :=
  al (zeroD prog 55) 55 w fun t6 w =>
  Cl prog 56 #[t0, t1, t2] w fun t15 w =>
  xt 0 t15 w fun t16 w =>
  xt 1 t15 w fun t17 w =>
  al (zeroD prog 55) 55 w fun t8 w =>
  stN 8 t8 t16 w fun _ w =>
  J0 (fun w =>
  ldN 8 t8 w fun t39 w =>
  stN 8 t6 t39 w fun _ w =>
  ldN 8 t6 w fun r0 _ =>
  K (Value.tuple #[r0, t17]) w) fun k1 =>
  iff' t17
  (Cl prog 55 #[t0, t1, t2] w fun t22 w =>
  ncP t22 <|
  fld 128 t22 w fun t26 w =>
  ld1 t26 w fun t27 w =>
  bi .add .i64 t27 (Value.int IntKind.i64 1) w fun t28 w =>
  bi .rem .i64 t28 (Value.int IntKind.i64 16) w fun t29 w =>
  ncP t22 <|
  fld 128 t22 w fun t31 w =>
  stN 1 t31 t29 w fun _ w =>
  ncP t22 <|
  fld 129 t22 w fun t34 w =>
  ld1 t34 w fun t35 w =>
  bi .sub .i64 t35 (Value.int IntKind.i64 1) w fun t36 w =>
  ncP t22 <|
  fld 129 t22 w fun t38 w =>
  stN 1 t38 t36 w fun _ w =>
  k1 w)
  (k1 w)
theorem link_Net_Recv_eq (t0 t1 t2 : Value) (w : World) (K : KV) : link_Net_Recv t0 t1 t2 w K = fnWC prog 41 [(6, some 55), (7, none)] (match fn26.body with | some c => c | none => .skip) #[t0, t1, t2] w K := by kernel_rfl
theorem link_Net_Recv_ok : fnOkC prog 41 [(6, some 55), (7, none)] (match fn26.body with | some c => c | none => .skip) = true := by kernel_rfl
theorem link_Net_Recv_calls {t0 t1 t2 : Value} {w : World} {K : KV} (h : link_Net_Recv t0 t1 t2 w K) : Cl prog 26 #[t0, t1, t2] w K :=
  ⟨by kernel_rfl, calls_of_FC (fn := fn26) (nt := 41) (rs := [(6, some 55), (7, none)]) mixed fnAt26 (by kernel_rfl) (by kernel_rfl) (by kernel_rfl) (Nat.le_of_ble_eq_true (by kernel_rfl)) link_Net_Recv_ok (link_Net_Recv_eq t0 t1 t2 w K) h⟩

end Go.Proofs.Ytiiekfcfledkhaa
