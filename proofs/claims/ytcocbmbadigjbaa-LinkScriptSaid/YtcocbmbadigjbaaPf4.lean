/- Printed by prt.py: the Go functions of this seat as shallow predicate transformers. Conditions: none. -/
import Derived.Test.YtcocbmbadigjbaaEngO
import Derived.Test.YtcocbmbadigjbaaEngY
import Derived.Test.YtcocbmbadigjbaaPfHead
import Derived.KernelRfl
namespace Go.Proofs.Ytcocbmbadigjbaa
open Go Go.E
set_option linter.unusedVariables false
set_option maxRecDepth 100000
/-- (*paceline/pacelineref10.Net).is -/
def pacelineref10_Net_is (t0 t1 t2 : Value) (w : World) (K : KV) : Prop :=
  bi .geq .i64 t1 (Value.int IntKind.i64 0) w fun t8 w =>
  gd t8 true (fun k => k t1 w) w fun t10 w =>
  gd t8 true (fun k => k t0 w) w fun t11 w =>
  gd t8 true (fun k => nc t11 w k) w fun t12 w =>
  gd t8 true (fun k => fld 0 t12 w k) w fun t13 w =>
  gd t8 true (fun k => ld1 t13 w k) w fun t14 w =>
  gd t8 true (fun k => bi .lss .i64 t10 t14 w k) w fun t15 w =>
  pk t8 t15 (Value.bool false) w fun t16 w =>
  gd t16 true (fun k => k t2 w) w fun t18 w =>
  gd t16 true (fun k => bi .geq .i64 t18 (Value.int IntKind.i64 0) w k) w fun t19 w =>
  pk t16 t19 (Value.bool false) w fun t20 w =>
  gd t20 true (fun k => k t2 w) w fun t22 w =>
  gd t20 true (fun k => k t0 w) w fun t23 w =>
  gd t20 true (fun k => nc t23 w k) w fun t24 w =>
  gd t20 true (fun k => fld 0 t24 w k) w fun t25 w =>
  gd t20 true (fun k => ld1 t25 w k) w fun t26 w =>
  gd t20 true (fun k => bi .lss .i64 t22 t26 w k) w fun t27 w =>
  pk t20 t27 (Value.bool false) w fun t28 w =>
  gd t28 true (fun k => k t1 w) w fun t30 w =>
  gd t28 true (fun k => k t2 w) w fun t31 w =>
  gd t28 true (fun k => bi .neq .i64 t30 t31 w k) w fun t32 w =>
  pk t28 t32 (Value.bool false) w fun t33 w =>
  K t33 w
theorem pacelineref10_Net_is_eq (t0 t1 t2 : Value) (w : World) (K : KV) : pacelineref10_Net_is t0 t1 t2 w K = fnW prog 34 [6] (match fn27.body with | some c => c | none => .skip) #[t0, t1, t2] w K := by kernel_rfl
theorem pacelineref10_Net_is_ok : fnOk prog 34 [6] (match fn27.body with | some c => c | none => .skip) = true := by kernel_rfl
theorem pacelineref10_Net_is_calls {t0 t1 t2 : Value} {w : World} {K : KV} (h : pacelineref10_Net_is t0 t1 t2 w K) : Cl prog 27 #[t0, t1, t2] w K :=
  Cl.mk (by kernel_rfl) (calls_of_F (fn := fn27) (nt := 34) (rs := [6]) mixed fnAt27 (by kernel_rfl) (by kernel_rfl) (by kernel_rfl) (Nat.le_of_ble_eq_true (by kernel_rfl)) pacelineref10_Net_is_ok (pacelineref10_Net_is_eq t0 t1 t2 w K) h)

/-- paceline/pacelineref01.Least -/
def pacelineref01_Least (t0 : Value) (w : World) (K : KV) : Prop :=
  lp [(Value.int IntKind.i64 1125899906842624), (Value.int IntKind.i64 0)] w (b2 fun t3 t4 w g1 =>
  lnS t0 w fun t7 w =>
  bi .lss .i64 t4 t7 w fun t8 w =>
  iff' t8
  (ixS 1 t0 t4 w fun t14 w =>
  ld1 t14 w fun t15 w =>
  Cl prog 31 #[t15] w fun t16 w =>
  mnI .i64 t3 t16 w fun t17 w =>
  bi .add .i64 t4 (Value.int IntKind.i64 1) w fun t10 w =>
  g1 [t17, t10] w)
  (K t3 w))
theorem pacelineref01_Least_eq (t0 : Value) (w : World) (K : KV) : pacelineref01_Least t0 w K = fnW prog 19 [2] (match fn28.body with | some c => c | none => .skip) #[t0] w K := by kernel_rfl
theorem pacelineref01_Least_ok : fnOk prog 19 [2] (match fn28.body with | some c => c | none => .skip) = true := by kernel_rfl
theorem pacelineref01_Least_calls {t0 : Value} {w : World} {K : KV} (h : pacelineref01_Least t0 w K) : Cl prog 28 #[t0] w K :=
  Cl.mk (by kernel_rfl) (calls_of_F (fn := fn28) (nt := 19) (rs := [2]) mixed fnAt28 (by kernel_rfl) (by kernel_rfl) (by kernel_rfl) (Nat.le_of_ble_eq_true (by kernel_rfl)) pacelineref01_Least_ok (pacelineref01_Least_eq t0 w K) h)

/-- (*paceline/link.Net).items$1 -/
def link_Net_items_1 (t0 t1 : Value) (w : World) (K : KV) : Prop :=
  ld1 t1 w fun t8 w =>
  ncP t8 <|
  fld 0 t8 w fun t10 w =>
  ld1 t10 w fun t11 w =>
  lp [(Value.int IntKind.i64 0), (Value.int IntKind.i64 0)] w (b2 fun t3 t12 w g1 =>
  bi .lss .i64 t12 t11 w fun t13 w =>
  iff' t13
  (ld1 t1 w fun t15 w =>
  ncP t15 <|
  fld 0 t15 w fun t17 w =>
  ld1 t17 w fun t18 w =>
  lp [t3, (Value.int IntKind.i64 0)] w (b2 fun t3_1 t19 w g2 =>
  bi .lss .i64 t19 t18 w fun t20 w =>
  iff' t20
  (ld1 t1 w fun t22 w =>
  ncP t22 <|
  fld 2 t22 w fun t26 w =>
  ixA 8 1040 t26 t12 w fun t27 w =>
  ixA 8 130 t27 t19 w fun t28 w =>
  ncP t28 <|
  fld 129 t28 w fun t31 w =>
  ld1 t31 w fun t32 w =>
  lp [t3_1, (Value.int IntKind.i64 0)] w (b2 fun t3_2 t33 w g3 =>
  bi .lss .i64 t33 t32 w fun t34 w =>
  iff' t34
  (dr w fun w =>
  ncP t28 <|
  fld 128 t28 w fun t41 _ =>
  ld1 t41 w fun t42 _ =>
  bi .add .i64 t42 t33 w fun t44 _ =>
  bi .rem .i64 t44 (Value.int IntKind.i64 16) w fun t45 _ =>
  ncP t28 <|
  fld 0 t28 w fun t47 _ =>
  ixA 16 8 t47 t45 w fun t48 _ =>
  ldN 8 t48 w fun t49 _ =>
  clV prog t0 #[t3_2, t49] w fun t50 w =>
  bnot t50 w fun t51 _ =>
  iff' t51
  (K (Value.tuple #[]) w)
  (bi .add .i64 t3_2 (Value.int IntKind.i64 1) w fun t53 w =>
  bi .add .i64 t33 (Value.int IntKind.i64 1) w fun t54 w =>
  g3 [t53, t54] w))
  (bi .add .i64 t19 (Value.int IntKind.i64 1) w fun t55 w =>
  g2 [t3_2, t55] w)))
  (bi .add .i64 t12 (Value.int IntKind.i64 1) w fun t56 w =>
  g1 [t3_1, t56] w)))
  (K (Value.tuple #[]) w))
theorem link_Net_items_1_eq (t0 t1 : Value) (w : World) (K : KV) : link_Net_items_1 t0 t1 w K = fnW prog 57 [] (match fn29.body with | some c => c | none => .skip) #[t0, t1] w K := by kernel_rfl
theorem link_Net_items_1_ok : fnOk prog 57 [] (match fn29.body with | some c => c | none => .skip) = true := by kernel_rfl
theorem link_Net_items_1_calls {t0 t1 : Value} {w : World} {K : KV} (h : link_Net_items_1 t0 t1 w K) : Cl prog 29 #[t0, t1] w K :=
  Cl.mk (by kernel_rfl) (calls_of_F (fn := fn29) (nt := 57) (rs := []) mixed fnAt29 (by kernel_rfl) (by kernel_rfl) (by kernel_rfl) (Nat.le_of_ble_eq_true (by kernel_rfl)) link_Net_items_1_ok (link_Net_items_1_eq t0 t1 w K) h)

/-- paceline/vtime.clamp -/
def vtime_clamp (t0 : Value) (w : World) (K : KV) : Prop :=
  bi .lss .i64 t0 (Value.int IntKind.i64 0) w fun t5 w =>
  iff' t5
  (K (Value.int IntKind.i64 0) w)
  (bi .gtr .i64 t0 (Value.int IntKind.i64 1099511627776) w fun t8 w =>
  iff' t8
  (K (Value.int IntKind.i64 1125899906842624) w)
  (K t0 w))
theorem vtime_clamp_eq (t0 : Value) (w : World) (K : KV) : vtime_clamp t0 w K = fnW prog 10 [2] (match fn30.body with | some c => c | none => .skip) #[t0] w K := by kernel_rfl
theorem vtime_clamp_ok : fnOk prog 10 [2] (match fn30.body with | some c => c | none => .skip) = true := by kernel_rfl
theorem vtime_clamp_calls {t0 : Value} {w : World} {K : KV} (h : vtime_clamp t0 w K) : Cl prog 30 #[t0] w K :=
  Cl.mk (by kernel_rfl) (calls_of_F (fn := fn30) (nt := 10) (rs := [2]) mixed fnAt30 (by kernel_rfl) (by kernel_rfl) (by kernel_rfl) (Nat.le_of_ble_eq_true (by kernel_rfl)) vtime_clamp_ok (vtime_clamp_eq t0 w K) h)

/-- paceline/pacelineref01.time -/
def pacelineref01_time (t0 : Value) (w : World) (K : KV) : Prop :=
  bi .lss .i64 t0 (Value.int IntKind.i64 0) w fun t4 w =>
  iff' t4
  (K (Value.int IntKind.i64 0) w)
  (bi .gtr .i64 t0 (Value.int IntKind.i64 1099511627776) w fun t6 w =>
  iff' t6
  (K (Value.int IntKind.i64 1125899906842624) w)
  (K t0 w))
theorem pacelineref01_time_eq (t0 : Value) (w : World) (K : KV) : pacelineref01_time t0 w K = fnW prog 8 [2] (match fn31.body with | some c => c | none => .skip) #[t0] w K := by kernel_rfl
theorem pacelineref01_time_ok : fnOk prog 8 [2] (match fn31.body with | some c => c | none => .skip) = true := by kernel_rfl
theorem pacelineref01_time_calls {t0 : Value} {w : World} {K : KV} (h : pacelineref01_time t0 w K) : Cl prog 31 #[t0] w K :=
  Cl.mk (by kernel_rfl) (calls_of_F (fn := fn31) (nt := 8) (rs := [2]) mixed fnAt31 (by kernel_rfl) (by kernel_rfl) (by kernel_rfl) (Nat.le_of_ble_eq_true (by kernel_rfl)) pacelineref01_time_ok (pacelineref01_time_eq t0 w K) h)

end Go.Proofs.Ytcocbmbadigjbaa
