/- Printed by prt.py: the Go functions of this seat as shallow predicate transformers. Conditions: none. -/
import Derived.Test.YtcocbmbadigjbaaEngO
import Derived.Test.YtcocbmbadigjbaaEngY
import Derived.Test.YtcocbmbadigjbaaPfHead
import Derived.KernelRfl
namespace Go.Proofs.Ytcocbmbadigjbaa
open Go Go.E
set_option linter.unusedVariables false
set_option maxRecDepth 100000
/-- (*paceline/link.Net).First -/
def link_Net_First (t0 t1 t2 : Value) (w : World) (K : KV) : Prop :=
  al (zeroD prog 33) 33 w fun t6 w =>
  Cl prog 24 #[t0, t1, t2] w fun t12 w =>
  bn .eql t12 w fun t14 w =>
  gd t14 false (fun k => k t12 w) w fun t16 w =>
  gd t14 false (fun k => nc t16 w k) w fun t17 w =>
  gd t14 false (fun k => fld 129 t17 w k) w fun t18 w =>
  gd t14 false (fun k => ld1 t18 w k) w fun t19 w =>
  gd t14 false (fun k => bi .eql .i64 t19 (Value.int IntKind.i64 0) w k) w fun t20 w =>
  pk t14 (Value.bool true) t20 w fun t21 w =>
  iff' t21
  (bld (zeroD prog 33) #[(0, 1), (1, 6), (7, 1)] [] w fun t22 w =>
  stN 8 t6 t22 w fun _ w =>
  ldN 8 t6 w fun r0 _ =>
  K (Value.tuple #[r0, (Value.bool false)]) w)
  (dr w fun w =>
  ncP t12 <|
  fld 128 t12 w fun t26 _ =>
  ld1 t26 w fun t27 _ =>
  ncP t12 <|
  fld 0 t12 w fun t29 _ =>
  ixA 16 8 t29 t27 w fun t30 _ =>
  ldN 8 t30 w fun t31 _ =>
  stN 8 t6 t31 w fun _ w =>
  ldN 8 t6 w fun r0 _ =>
  K (Value.tuple #[r0, (Value.bool true)]) w)
theorem link_Net_First_eq (t0 t1 t2 : Value) (w : World) (K : KV) : link_Net_First t0 t1 t2 w K = fnWC prog 32 [(6, some 33), (7, none)] (match fn15.body with | some c => c | none => .skip) #[t0, t1, t2] w K := by kernel_rfl
theorem link_Net_First_ok : fnOkC prog 32 [(6, some 33), (7, none)] (match fn15.body with | some c => c | none => .skip) = true := by kernel_rfl
theorem link_Net_First_calls {t0 t1 t2 : Value} {w : World} {K : KV} (h : link_Net_First t0 t1 t2 w K) : Cl prog 15 #[t0, t1, t2] w K :=
  Cl.mk (by kernel_rfl) (calls_of_FC (fn := fn15) (nt := 32) (rs := [(6, some 33), (7, none)]) mixed fnAt15 (by kernel_rfl) (by kernel_rfl) (by kernel_rfl) (Nat.le_of_ble_eq_true (by kernel_rfl)) link_Net_First_ok (link_Net_First_eq t0 t1 t2 w K) h)

/-- (*paceline/pacelineref10.Net).First -/
def pacelineref10_Net_First (t0 t1 t2 : Value) (w : World) (K : KV) : Prop :=
  al (zeroD prog 33) 33 w fun t6 w =>
  dr w fun w =>
  Cl prog 27 #[t0, t1, t2] w fun t11 w =>
  bnot t11 w fun t12 _ =>
  gd t12 false (fun k => k t0 w) w fun t14 _ =>
  gd t12 false (fun k => nc t14 w k) w fun t15 _ =>
  gd t12 false (fun k => fld 2 t15 w k) w fun t16 _ =>
  gd t12 false (fun k => ld1 t16 w k) w fun t17 _ =>
  gd t12 false (fun k => k t1 w) w fun t18 _ =>
  gd t12 false (fun k => k t0 w) w fun t19 _ =>
  gd t12 false (fun k => nc t19 w k) w fun t20 _ =>
  gd t12 false (fun k => fld 0 t20 w k) w fun t21 _ =>
  gd t12 false (fun k => ld1 t21 w k) w fun t22 _ =>
  gd t12 false (fun k => bi .mul .i64 t18 t22 w k) w fun t23 _ =>
  gd t12 false (fun k => k t2 w) w fun t24 _ =>
  gd t12 false (fun k => bi .add .i64 t23 t24 w k) w fun t25 _ =>
  gd t12 false (fun k => ixS 1 t17 t25 w k) w fun t26 _ =>
  gd t12 false (fun k => ld1 t26 w k) w fun t27 _ =>
  gd t12 false (fun k => lnS t27 w k) w fun t28 _ =>
  gd t12 false (fun k => bi .eql .i64 t28 (Value.int IntKind.i64 0) w k) w fun t29 _ =>
  pk t12 (Value.bool true) t29 w fun t30 _ =>
  iff' t30
  (bld (zeroD prog 33) #[(0, 1), (1, 6), (7, 1)] [] w fun t31 w =>
  stN 8 t6 t31 w fun _ w =>
  ldN 8 t6 w fun r0 _ =>
  K (Value.tuple #[r0, (Value.bool false)]) w)
  (dr w fun w =>
  ncP t0 <|
  fld 2 t0 w fun t34 _ =>
  ld1 t34 w fun t35 _ =>
  ncP t0 <|
  fld 0 t0 w fun t39 _ =>
  ld1 t39 w fun t40 _ =>
  bi .mul .i64 t1 t40 w fun t41 _ =>
  bi .add .i64 t41 t2 w fun t43 _ =>
  ixS 1 t35 t43 w fun t44 _ =>
  ld1 t44 w fun t45 _ =>
  ixS 8 t45 (Value.int IntKind.i64 0) w fun t46 _ =>
  ldN 8 t46 w fun t47 _ =>
  stN 8 t6 t47 w fun _ w =>
  ldN 8 t6 w fun r0 _ =>
  K (Value.tuple #[r0, (Value.bool true)]) w)
theorem pacelineref10_Net_First_eq (t0 t1 t2 : Value) (w : World) (K : KV) : pacelineref10_Net_First t0 t1 t2 w K = fnWC prog 48 [(6, some 33), (7, none)] (match fn16.body with | some c => c | none => .skip) #[t0, t1, t2] w K := by kernel_rfl
theorem pacelineref10_Net_First_ok : fnOkC prog 48 [(6, some 33), (7, none)] (match fn16.body with | some c => c | none => .skip) = true := by kernel_rfl
theorem pacelineref10_Net_First_calls {t0 t1 t2 : Value} {w : World} {K : KV} (h : pacelineref10_Net_First t0 t1 t2 w K) : Cl prog 16 #[t0, t1, t2] w K :=
  Cl.mk (by kernel_rfl) (calls_of_FC (fn := fn16) (nt := 48) (rs := [(6, some 33), (7, none)]) mixed fnAt16 (by kernel_rfl) (by kernel_rfl) (by kernel_rfl) (Nat.le_of_ble_eq_true (by kernel_rfl)) pacelineref10_Net_First_ok (pacelineref10_Net_First_eq t0 t1 t2 w K) h)

/-- (*paceline/pacelineref10.Net).Recv -/
def pacelineref10_Net_Recv (t0 t1 t2 : Value) (w : World) (K : KV) : Prop :=
  al (zeroD prog 33) 33 w fun t6 w =>
  Cl prog 16 #[t0, t1, t2] w fun t15 w =>
  xt 0 t15 w fun t16 w =>
  xt 1 t15 w fun t17 w =>
  al (zeroD prog 33) 33 w fun t8 w =>
  stN 8 t8 t16 w fun _ w =>
  J0 (fun w =>
  ldN 8 t8 w fun t50 w =>
  stN 8 t6 t50 w fun _ w =>
  ldN 8 t6 w fun r0 _ =>
  K (Value.tuple #[r0, t17]) w) fun k1 =>
  iff' t17
  (bsl 33 8 0 #[] [] w fun t19 w =>
  dr w fun w =>
  ncP t0 <|
  fld 2 t0 w fun t22 _ =>
  ld1 t22 w fun t23 _ =>
  ncP t0 <|
  fld 0 t0 w fun t27 _ =>
  ld1 t27 w fun t28 _ =>
  bi .mul .i64 t1 t28 w fun t29 _ =>
  bi .add .i64 t29 t2 w fun t31 _ =>
  ncP t0 <|
  fld 2 t0 w fun t35 _ =>
  ld1 t35 w fun t36 _ =>
  ncP t0 <|
  fld 0 t0 w fun t40 _ =>
  ld1 t40 w fun t41 _ =>
  bi .mul .i64 t1 t41 w fun t42 _ =>
  bi .add .i64 t42 t2 w fun t44 _ =>
  ixS 1 t36 t44 w fun t45 _ =>
  ld1 t45 w fun t46 _ =>
  slc 8 t46 (some (Value.int IntKind.i64 1)) none w fun t47 _ =>
  apS prog #[27, 27] 27 t19 t47 w fun t48 w =>
  (ld1 t27 w (fun v' w'' => v' = t28 ∧ w'' = w)) ∧ ((ld1 t22 w (fun v' w'' => v' = t23 ∧ w'' = w)) ∧ (ixS 1 t23 t31 w fun t49 _ =>
  stN 1 t49 t48 w fun _ w =>
  k1 w)))
  (k1 w)
theorem pacelineref10_Net_Recv_eq (t0 t1 t2 : Value) (w : World) (K : KV) : pacelineref10_Net_Recv t0 t1 t2 w K = fnWC prog 52 [(6, some 33), (7, none)] (match fn17.body with | some c => c | none => .skip) #[t0, t1, t2] w K := by kernel_rfl
theorem pacelineref10_Net_Recv_ok : fnOkC prog 52 [(6, some 33), (7, none)] (match fn17.body with | some c => c | none => .skip) = true := by kernel_rfl
theorem pacelineref10_Net_Recv_calls {t0 t1 t2 : Value} {w : World} {K : KV} (h : pacelineref10_Net_Recv t0 t1 t2 w K) : Cl prog 17 #[t0, t1, t2] w K :=
  Cl.mk (by kernel_rfl) (calls_of_FC (fn := fn17) (nt := 52) (rs := [(6, some 33), (7, none)]) mixed fnAt17 (by kernel_rfl) (by kernel_rfl) (by kernel_rfl) (Nat.le_of_ble_eq_true (by kernel_rfl)) pacelineref10_Net_Recv_ok (pacelineref10_Net_Recv_eq t0 t1 t2 w K) h)

/-- (*paceline/link.Net).Len -/
def link_Net_Len (t0 t1 t2 : Value) (w : World) (K : KV) : Prop :=
  Cl prog 24 #[t0, t1, t2] w fun t11 w =>
  bn .neq t11 w fun t13 w =>
  iff' t13
  (ncP t11 <|
  fld 129 t11 w fun t16 w =>
  ld1 t16 w fun t17 w =>
  K t17 w)
  (K (Value.int IntKind.i64 0) w)
theorem link_Net_Len_eq (t0 t1 t2 : Value) (w : World) (K : KV) : link_Net_Len t0 t1 t2 w K = fnW prog 18 [6] (match fn18.body with | some c => c | none => .skip) #[t0, t1, t2] w K := by kernel_rfl
theorem link_Net_Len_ok : fnOk prog 18 [6] (match fn18.body with | some c => c | none => .skip) = true := by kernel_rfl
theorem link_Net_Len_calls {t0 t1 t2 : Value} {w : World} {K : KV} (h : link_Net_Len t0 t1 t2 w K) : Cl prog 18 #[t0, t1, t2] w K :=
  Cl.mk (by kernel_rfl) (calls_of_F (fn := fn18) (nt := 18) (rs := [6]) mixed fnAt18 (by kernel_rfl) (by kernel_rfl) (by kernel_rfl) (Nat.le_of_ble_eq_true (by kernel_rfl)) link_Net_Len_ok (link_Net_Len_eq t0 t1 t2 w K) h)

/-- (*paceline/pacelineref10.Net).Len -/
def pacelineref10_Net_Len (t0 t1 t2 : Value) (w : World) (K : KV) : Prop :=
  Cl prog 27 #[t0, t1, t2] w fun t10 w =>
  bnot t10 w fun t11 w =>
  iff' t11
  (K (Value.int IntKind.i64 0) w)
  (dr w fun w =>
  ncP t0 <|
  fld 2 t0 w fun t14 _ =>
  ld1 t14 w fun t15 _ =>
  ncP t0 <|
  fld 0 t0 w fun t19 _ =>
  ld1 t19 w fun t20 _ =>
  bi .mul .i64 t1 t20 w fun t21 _ =>
  bi .add .i64 t21 t2 w fun t23 _ =>
  ixS 1 t15 t23 w fun t24 _ =>
  ld1 t24 w fun t25 _ =>
  lnS t25 w fun t26 _ =>
  K t26 w)
theorem pacelineref10_Net_Len_eq (t0 t1 t2 : Value) (w : World) (K : KV) : pacelineref10_Net_Len t0 t1 t2 w K = fnW prog 27 [6] (match fn19.body with | some c => c | none => .skip) #[t0, t1, t2] w K := by kernel_rfl
theorem pacelineref10_Net_Len_ok : fnOk prog 27 [6] (match fn19.body with | some c => c | none => .skip) = true := by kernel_rfl
theorem pacelineref10_Net_Len_calls {t0 t1 t2 : Value} {w : World} {K : KV} (h : pacelineref10_Net_Len t0 t1 t2 w K) : Cl prog 19 #[t0, t1, t2] w K :=
  Cl.mk (by kernel_rfl) (calls_of_F (fn := fn19) (nt := 27) (rs := [6]) mixed fnAt19 (by kernel_rfl) (by kernel_rfl) (by kernel_rfl) (Nat.le_of_ble_eq_true (by kernel_rfl)) pacelineref10_Net_Len_ok (pacelineref10_Net_Len_eq t0 t1 t2 w K) h)

/-- (*paceline/pacelineref10.Net).Room -/
def pacelineref10_Net_Room (t0 t1 t2 : Value) (w : World) (K : KV) : Prop :=
  Cl prog 27 #[t0, t1, t2] w fun t10 w =>
  bnot t10 w fun t11 w =>
  iff' t11
  (K (Value.int IntKind.i64 0) w)
  (dr w fun w =>
  ncP t0 <|
  fld 1 t0 w fun t14 _ =>
  ld1 t14 w fun t15 _ =>
  ncP t0 <|
  fld 2 t0 w fun t18 _ =>
  ld1 t18 w fun t19 _ =>
  ncP t0 <|
  fld 0 t0 w fun t23 _ =>
  ld1 t23 w fun t24 _ =>
  bi .mul .i64 t1 t24 w fun t25 _ =>
  bi .add .i64 t25 t2 w fun t27 _ =>
  ixS 1 t19 t27 w fun t28 _ =>
  ld1 t28 w fun t29 _ =>
  lnS t29 w fun t30 _ =>
  bi .sub .i64 t15 t30 w fun t31 _ =>
  K t31 w)
theorem pacelineref10_Net_Room_eq (t0 t1 t2 : Value) (w : World) (K : KV) : pacelineref10_Net_Room t0 t1 t2 w K = fnW prog 32 [6] (match fn20.body with | some c => c | none => .skip) #[t0, t1, t2] w K := by kernel_rfl
theorem pacelineref10_Net_Room_ok : fnOk prog 32 [6] (match fn20.body with | some c => c | none => .skip) = true := by kernel_rfl
theorem pacelineref10_Net_Room_calls {t0 t1 t2 : Value} {w : World} {K : KV} (h : pacelineref10_Net_Room t0 t1 t2 w K) : Cl prog 20 #[t0, t1, t2] w K :=
  Cl.mk (by kernel_rfl) (calls_of_F (fn := fn20) (nt := 32) (rs := [6]) mixed fnAt20 (by kernel_rfl) (by kernel_rfl) (by kernel_rfl) (Nat.le_of_ble_eq_true (by kernel_rfl)) pacelineref10_Net_Room_ok (pacelineref10_Net_Room_eq t0 t1 t2 w K) h)

end Go.Proofs.Ytcocbmbadigjbaa
