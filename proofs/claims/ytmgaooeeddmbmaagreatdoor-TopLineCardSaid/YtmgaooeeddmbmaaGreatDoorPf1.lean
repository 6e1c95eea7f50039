/- Printed by prt.py: the Go functions of this seat as shallow predicate transformers. Conditions: none. -/
import Derived.Test.YtmgaooeeddmbmaaGreatDoorEngO
import Derived.Test.YtmgaooeeddmbmaaGreatDoorPfHead
import Derived.KernelRfl
namespace Go.Proofs.YtmgaooeeddmbmaaGreatDoor
open Go Go.E
set_option linter.unusedVariables false
set_option maxRecDepth 100000
/-- (*paceline/pubsub.Table).Publish -/
def pubsub_Table_Publish (t0 t1 t2 t3 : Value) (w : World) (K : KV) : Prop :=
  Cl prog 35 #[t0, t1, t2] w fun t13 w =>
  bi .neq .i64 t13 (Value.int IntKind.i64 0) w fun t15 w =>
  iff' t15
  (K t13 w)
  (dr w fun w =>
  ncP t0 <|
  fld 1 t0 w fun t22 _ =>
  ixA 8 1 t22 t1 w fun t23 _ =>
  Cl prog 36 #[t3] w fun t18 w =>
  clV prog t18 #[t23, t2] w fun _ w =>
  K (Value.int IntKind.i64 0) w)
theorem pubsub_Table_Publish_eq (t0 t1 t2 t3 : Value) (w : World) (K : KV) : pubsub_Table_Publish t0 t1 t2 t3 w K = fnW prog 26 [8] (match fn20.body with | some c => c | none => .skip) #[t0, t1, t2, t3] w K := by kernel_rfl
theorem pubsub_Table_Publish_ok : fnOk prog 26 [8] (match fn20.body with | some c => c | none => .skip) = true := by kernel_rfl
theorem pubsub_Table_Publish_calls {t0 t1 t2 t3 : Value} {w : World} {K : KV} (h : pubsub_Table_Publish t0 t1 t2 t3 w K) : Cl prog 20 #[t0, t1, t2, t3] w K :=
  Cl.mk (by kernel_rfl) (calls_of_F (fn := fn20) (nt := 26) (rs := [8]) mixed fnAt20 (by kernel_rfl) (by kernel_rfl) (by kernel_rfl) (Nat.le_of_ble_eq_true (by kernel_rfl)) pubsub_Table_Publish_ok (pubsub_Table_Publish_eq t0 t1 t2 t3 w K) h)

/-- (*paceline/rti.Rti).subscribe -/
def rti_Rti_subscribe (t0 t1 t2 t3 : Value) (w : World) (K : KV) : Prop :=
  ncP t0 <|
  fld 1 t0 w fun t12 w =>
  ld1 t12 w fun t13 w =>
  Cl prog 37 #[t13, t1, t2, t3] w fun t17 w =>
  J0 (fun w =>
  K t17 w) fun k1 =>
  bi .neq .i64 t17 (Value.int IntKind.i64 0) w fun t35 w =>
  iff' t35
  (k1 w)
  (iff' t3
  (dr w fun w =>
  ncP t0 <|
  fld 2 t0 w fun t41 _ =>
  ixA 8 10 t41 t1 w fun t42 _ =>
  fld 9 t42 w fun t43 _ =>
  ld1 t43 w fun t44 _ =>
  cvI .u64 t2 w fun t46 _ =>
  ncP t0 <|
  fld 2 t0 w fun t50 _ =>
  bO prog .shl 50 (Operand.const (Value.int IntKind.u32 1)) (Operand.tmp 46) (Value.int IntKind.u32 1) t46 w fun t47 w =>
  (ld1 t43 w (fun v' w'' => v' = t44 ∧ w'' = w)) ∧ (bO prog .or 50 (Operand.tmp 44) (Operand.tmp 47) t44 t47 w fun t48 w =>
  ixA 8 10 t50 t1 w fun t51 _ =>
  fld 9 t51 w fun t52 _ =>
  stN 1 t52 t48 w fun _ w =>
  k1 w))
  (dr w fun w =>
  ncP t0 <|
  fld 2 t0 w fun t21 _ =>
  ixA 8 10 t21 t1 w fun t22 _ =>
  fld 9 t22 w fun t23 _ =>
  ld1 t23 w fun t24 _ =>
  cvI .u64 t2 w fun t26 _ =>
  ncP t0 <|
  fld 2 t0 w fun t30 _ =>
  bO prog .shl 50 (Operand.const (Value.int IntKind.u32 1)) (Operand.tmp 26) (Value.int IntKind.u32 1) t26 w fun t27 w =>
  (ld1 t23 w (fun v' w'' => v' = t24 ∧ w'' = w)) ∧ (bO prog .andNot 50 (Operand.tmp 24) (Operand.tmp 27) t24 t27 w fun t28 w =>
  ixA 8 10 t30 t1 w fun t31 _ =>
  fld 9 t31 w fun t32 _ =>
  stN 1 t32 t28 w fun _ w =>
  k1 w)))
theorem rti_Rti_subscribe_eq (t0 t1 t2 t3 : Value) (w : World) (K : KV) : rti_Rti_subscribe t0 t1 t2 t3 w K = fnW prog 54 [8] (match fn21.body with | some c => c | none => .skip) #[t0, t1, t2, t3] w K := by kernel_rfl
theorem rti_Rti_subscribe_ok : fnOk prog 54 [8] (match fn21.body with | some c => c | none => .skip) = true := by kernel_rfl
theorem rti_Rti_subscribe_calls {t0 t1 t2 t3 : Value} {w : World} {K : KV} (h : rti_Rti_subscribe t0 t1 t2 t3 w K) : Cl prog 21 #[t0, t1, t2, t3] w K :=
  Cl.mk (by kernel_rfl) (calls_of_F (fn := fn21) (nt := 54) (rs := [8]) mixed fnAt21 (by kernel_rfl) (by kernel_rfl) (by kernel_rfl) (Nat.le_of_ble_eq_true (by kernel_rfl)) rti_Rti_subscribe_ok (rti_Rti_subscribe_eq t0 t1 t2 t3 w K) h)

/-- paceline/vtime.Add -/
def vtime_Add (t0 t1 : Value) (w : World) (K : KV) : Prop :=
  Cl prog 38 #[t0] w fun t6 w =>
  Cl prog 38 #[t1] w fun t8 w =>
  bi .add .i64 t6 t8 w fun t9 w =>
  Cl prog 38 #[t9] w fun t10 w =>
  K t10 w
theorem vtime_Add_eq (t0 t1 : Value) (w : World) (K : KV) : vtime_Add t0 t1 w K = fnW prog 11 [4] (match fn22.body with | some c => c | none => .skip) #[t0, t1] w K := by kernel_rfl
theorem vtime_Add_ok : fnOk prog 11 [4] (match fn22.body with | some c => c | none => .skip) = true := by kernel_rfl
theorem vtime_Add_calls {t0 t1 : Value} {w : World} {K : KV} (h : vtime_Add t0 t1 w K) : Cl prog 22 #[t0, t1] w K :=
  Cl.mk (by kernel_rfl) (calls_of_F (fn := fn22) (nt := 11) (rs := [4]) mixed fnAt22 (by kernel_rfl) (by kernel_rfl) (by kernel_rfl) (Nat.le_of_ble_eq_true (by kernel_rfl)) vtime_Add_ok (vtime_Add_eq t0 t1 w K) h)

/-- (*paceline/rti.Rti).bound -/
def rti_Rti_bound (t0 t1 : Value) (w : World) (K : KV) : Prop :=
  Cl prog 27 #[t0] w fun t6 w =>
  Cl prog 39 #[t6, t1] w fun t8 w =>
  K t8 w
theorem rti_Rti_bound_eq (t0 t1 : Value) (w : World) (K : KV) : rti_Rti_bound t0 t1 w K = fnW prog 9 [4] (match fn23.body with | some c => c | none => .skip) #[t0, t1] w K := by kernel_rfl
theorem rti_Rti_bound_ok : fnOk prog 9 [4] (match fn23.body with | some c => c | none => .skip) = true := by kernel_rfl
theorem rti_Rti_bound_calls {t0 t1 : Value} {w : World} {K : KV} (h : rti_Rti_bound t0 t1 w K) : Cl prog 23 #[t0, t1] w K :=
  Cl.mk (by kernel_rfl) (calls_of_F (fn := fn23) (nt := 9) (rs := [4]) mixed fnAt23 (by kernel_rfl) (by kernel_rfl) (by kernel_rfl) (Nat.le_of_ble_eq_true (by kernel_rfl)) rti_Rti_bound_ok (rti_Rti_bound_eq t0 t1 w K) h)

/-- (*paceline/pubsub.Table).Route -/
def pubsub_Table_Route (t0 t1 t2 : Value) (w : World) (K : KV) : Prop :=
  Cl prog 35 #[t0, t1, t2] w fun t15 w =>
  bi .neq .i64 t15 (Value.int IntKind.i64 0) w fun t17 w =>
  iff' t17
  (K (Value.tuple #[(Value.slice none 0 0), t15]) w)
  (Cl prog 40 #[t0, t1, t2] w fun t22 w =>
  bnot t22 w fun t23 w =>
  iff' t23
  (K (Value.tuple #[(Value.slice none 0 0), (Value.int IntKind.i64 211)]) w)
  (ncP t0 <|
  fld 9 t0 w fun t26 w =>
  ldN 8 t26 w fun t27 w =>
  lp [(Value.slice none 0 0), (Value.int IntKind.i64 0)] w (b2 fun t9 t28 w g1 =>
  bi .lss .i64 t28 (Value.int IntKind.i64 8) w fun t29 w =>
  iff' t29
  (J1 (fun t9_1 w =>
  bi .add .i64 t28 (Value.int IntKind.i64 1) w fun t51 w =>
  g1 [t9_1, t51] w) fun k2 =>
  ixV prog 80 t27 t28 w fun t31 w =>
  bi .neq .i64 t28 t1 w fun t34 w =>
  gd t34 true (fun k => k t31 w) w fun t36 w =>
  gd t34 true (fun k => k t0 w) w fun t37 w =>
  gd t34 true (fun k => nc t37 w k) w fun t38 w =>
  gd t34 true (fun k => fld 0 t38 w k) w fun t39 w =>
  gd t34 true (fun k => ld1 t39 w k) w fun t40 w =>
  gd t34 true (fun k => k t2 w) w fun t41 w =>
  gd t34 true (fun k => ixS 1 t40 t41 w k) w fun t42 w =>
  gd t34 true (fun k => ld1 t42 w k) w fun t43 w =>
  gd t34 true (fun k => bO prog .and 50 (Operand.tmp 36) (Operand.tmp 43) t36 t43 w k) w fun t44 w =>
  gd t34 true (fun k => bi .neq .u32 t44 (Value.int IntKind.u32 0) w k) w fun t45 w =>
  pk t34 t45 (Value.bool false) w fun t46 w =>
  iff' t46
  (bsl 3 1 1 (zeroD prog 3) [(0, t28)] w fun t49 w =>
  apS prog #[23, 23] 23 t9 t49 w fun t50 w =>
  k2 t50 w)
  (k2 t9 w))
  (K (Value.tuple #[t9, (Value.int IntKind.i64 0)]) w))))
theorem pubsub_Table_Route_eq (t0 t1 t2 : Value) (w : World) (K : KV) : pubsub_Table_Route t0 t1 t2 w K = fnW prog 53 [6, 7] (match fn24.body with | some c => c | none => .skip) #[t0, t1, t2] w K := by kernel_rfl
theorem pubsub_Table_Route_ok : fnOk prog 53 [6, 7] (match fn24.body with | some c => c | none => .skip) = true := by kernel_rfl
theorem pubsub_Table_Route_calls {t0 t1 t2 : Value} {w : World} {K : KV} (h : pubsub_Table_Route t0 t1 t2 w K) : Cl prog 24 #[t0, t1, t2] w K :=
  Cl.mk (by kernel_rfl) (calls_of_F (fn := fn24) (nt := 53) (rs := [6, 7]) mixed fnAt24 (by kernel_rfl) (by kernel_rfl) (by kernel_rfl) (Nat.le_of_ble_eq_true (by kernel_rfl)) pubsub_Table_Route_ok (pubsub_Table_Route_eq t0 t1 t2 w K) h)

/-- (*paceline/prio.Queue).Len -/
def prio_Queue_Len (t0 : Value) (w : World) (K : KV) : Prop :=
  ncP t0 <|
  fld 1 t0 w fun t5 w =>
  ld1 t5 w fun t6 w =>
  lnS t6 w fun t7 w =>
  K t7 w
theorem prio_Queue_Len_eq (t0 : Value) (w : World) (K : KV) : prio_Queue_Len t0 w K = fnW prog 8 [2] (match fn25.body with | some c => c | none => .skip) #[t0] w K := by kernel_rfl
theorem prio_Queue_Len_ok : fnOk prog 8 [2] (match fn25.body with | some c => c | none => .skip) = true := by kernel_rfl
theorem prio_Queue_Len_calls {t0 : Value} {w : World} {K : KV} (h : prio_Queue_Len t0 w K) : Cl prog 25 #[t0] w K :=
  Cl.mk (by kernel_rfl) (calls_of_F (fn := fn25) (nt := 8) (rs := [2]) mixed fnAt25 (by kernel_rfl) (by kernel_rfl) (by kernel_rfl) (Nat.le_of_ble_eq_true (by kernel_rfl)) prio_Queue_Len_ok (prio_Queue_Len_eq t0 w K) h)

/-- paceline/lbts.Outputs -/
def lbts_Outputs_r (t1 t3 t4 t5 t10 : Value) (g : Again) (w : World) (K : KV) : Prop :=
  clV prog t10 #[] w fun t56 w =>
  bi .geq .i64 t56 (Value.int IntKind.i64 0) w fun t58 w =>
  iff' t58
  (ld1 t4 w fun t59 w =>
  ixS 1 t59 t56 w fun t61 w =>
  stN 1 t61 (Value.bool false) w fun _ w =>
  ld1 t1 w fun t62 w =>
  lnS t62 w fun t63 w =>
  lp [(Value.int IntKind.i64 0)] w (b1 fun t64 w g1 =>
  bi .lss .i64 t64 t63 w fun t65 w =>
  iff' t65
  (J0 (fun w =>
  bi .add .i64 t64 (Value.int IntKind.i64 1) w fun t97 w =>
  g1 [t97] w) fun k2 =>
  ixS 7 t62 t64 w fun t67 w =>
  ldN 7 t67 w fun t68 w =>
  al (zeroD prog 101) 101 w fun t13 w =>
  stN 7 t13 t68 w fun _ w =>
  ld1 t4 w fun t69 w =>
  ixS 1 t69 t64 w fun t71 w =>
  ld1 t71 w fun t72 w =>
  gd t72 true (fun k => k t5 w) w fun t74 w =>
  gd t72 true (fun k => k t64 w) w fun t75 w =>
  gd t72 true (fun k => ixS 1 t74 t75 w k) w fun t76 w =>
  gd t72 true (fun k => ld1 t76 w k) w fun t77 w =>
  pk t72 t77 (Value.bool false) w fun t78 w =>
  iff' t78
  (dr w fun w =>
  ld1 t3 w fun t79 _ =>
  ld1 t3 w fun t81 _ =>
  ixS 1 t81 t64 w fun t83 _ =>
  ld1 t83 w fun t84 _ =>
  ldN 7 t13 w fun t85 _ =>
  fld 2 t13 w fun t86 _ =>
  ld1 t86 w fun t87 _ =>
  ld1 t3 w fun t89 _ =>
  ixS 1 t89 t56 w fun t91 _ =>
  ld1 t91 w fun t92 _ =>
  Cl prog 44 #[t87] w fun t88 w =>
  (ld1 t91 w (fun v' w'' => v' = t92 ∧ w'' = w)) ∧ ((ld1 t3 w (fun v' w'' => v' = t89 ∧ w'' = w)) ∧ ((ldN 7 t13 w (fun v' w'' => v' = t85 ∧ w'' = w)) ∧ ((ld1 t83 w (fun v' w'' => v' = t84 ∧ w'' = w)) ∧ ((ld1 t3 w (fun v' w'' => v' = t81 ∧ w'' = w)) ∧ ((ld1 t3 w (fun v' w'' => v' = t79 ∧ w'' = w)) ∧ (mxI .i64 t88 t92 w fun t93 w =>
  (ldN 7 t13 w (fun v' w'' => v' = t85 ∧ w'' = w)) ∧ ((ld1 t83 w (fun v' w'' => v' = t84 ∧ w'' = w)) ∧ ((ld1 t3 w (fun v' w'' => v' = t81 ∧ w'' = w)) ∧ ((ld1 t3 w (fun v' w'' => v' = t79 ∧ w'' = w)) ∧ (Cl prog 42 #[t85, t93] w fun t94 w =>
  (ld1 t83 w (fun v' w'' => v' = t84 ∧ w'' = w)) ∧ ((ld1 t3 w (fun v' w'' => v' = t81 ∧ w'' = w)) ∧ ((ld1 t3 w (fun v' w'' => v' = t79 ∧ w'' = w)) ∧ (mnI .i64 t84 t94 w fun t95 w =>
  (ld1 t3 w (fun v' w'' => v' = t79 ∧ w'' = w)) ∧ (ixS 1 t79 t64 w fun t96 _ =>
  stN 1 t96 t95 w fun _ w =>
  k2 w)))))))))))))))
  (k2 w))
  (g [t3, t4, t5, t10] w)))
  (ld1 t3 w fun t98 w =>
  K t98 w)
def lbts_Outputs (t0 : Value) (w : World) (K : KV) : Prop :=
  al (Value.cells t0) 70 w fun t1 w =>
  sg 4 (fun g =>
  ld1 t1 w fun t14 w =>
  lnS t14 w fun t15 w =>
  mkS prog 23 t15 t15 w fun t16 w =>
  al (zeroD prog 23) 23 w fun t3 w =>
  stN 1 t3 t16 w fun _ w =>
  ld1 t1 w fun t17 w =>
  lnS t17 w fun t18 w =>
  mkS prog 99 t18 t18 w fun t19 w =>
  al (zeroD prog 99) 99 w fun t4 w =>
  stN 1 t4 t19 w fun _ w =>
  ld1 t1 w fun t20 w =>
  lnS t20 w fun t21 w =>
  mkS prog 99 t21 t21 w fun t22 w =>
  ld1 t1 w fun t23 w =>
  lnS t23 w fun t24 w =>
  lp [(Value.int IntKind.i64 0)] w (b1 fun t25 w g3 =>
  bi .lss .i64 t25 t24 w fun t26 w =>
  iff' t26
  (J0 (fun w =>
  bi .add .i64 t25 (Value.int IntKind.i64 1) w fun t53 w =>
  g3 [t53] w) fun k4 =>
  ixS 7 t23 t25 w fun t28 w =>
  ldN 7 t28 w fun t29 w =>
  al (zeroD prog 101) 101 w fun t7 w =>
  stN 7 t7 t29 w fun _ w =>
  ld1 t3 w fun t30 w =>
  ixS 1 t30 t25 w fun t32 w =>
  stN 1 t32 (Value.int IntKind.i64 1125899906842624) w fun _ w =>
  fld 0 t7 w fun t33 w =>
  ld1 t33 w fun t34 w =>
  iff' t34
  (ldN 7 t7 w fun t36 w =>
  Cl prog 41 #[t36] w fun t37 w =>
  xt 0 t37 w fun t38 w =>
  xt 1 t37 w fun t39 w =>
  dr w fun w =>
  ld1 t3 w fun t40 _ =>
  ld1 t4 w fun t42 _ =>
  ldN 7 t7 w fun t46 _ =>
  Cl prog 42 #[t46, t38] w fun t48 w =>
  (ld1 t4 w (fun v' w'' => v' = t42 ∧ w'' = w)) ∧ ((ld1 t3 w (fun v' w'' => v' = t40 ∧ w'' = w)) ∧ (ixS 1 t40 t25 w fun t50 _ =>
  stN 1 t50 t48 w fun _ w =>
  (ld1 t4 w (fun v' w'' => v' = t42 ∧ w'' = w)) ∧ (ixS 1 t42 t25 w fun t51 _ =>
  stN 1 t51 (Value.bool true) w fun _ w =>
  ixS 1 t22 t25 w fun t52 _ =>
  stN 1 t52 t39 w fun _ w =>
  k4 w))))
  (k4 w))
  (lbts_Outputs_r t1 t3 t4 t22 (Value.func (Fn.func 43) #[] #[t1, t4, t3]) g w K))) (b4 fun t3_1 t4_1 t5 t10 w g => lbts_Outputs_r t1 t3_1 t4_1 t5 t10 g w K)
theorem lbts_Outputs_eq (t0 : Value) (w : World) (K : KV) : lbts_Outputs t0 w K = fnWG prog 99 [2] (gA fn26.body) (gC fn26.body) (gR fn26.body) #[t0] w K := by kernel_rfl
theorem lbts_Outputs_ok : fnOkG prog 99 [2] (gA fn26.body) (gC fn26.body) (gR fn26.body) = true := by kernel_rfl
theorem lbts_Outputs_calls {t0 : Value} {w : World} {K : KV} (h : lbts_Outputs t0 w K) : Cl prog 26 #[t0] w K :=
  Cl.mk (by kernel_rfl) (calls_of_FG (fn := fn26) (nt := 99) (rs := [2]) mixed fnAt26 (by kernel_rfl) (by kernel_rfl) (by kernel_rfl) (Nat.le_of_ble_eq_true (by kernel_rfl)) lbts_Outputs_ok (lbts_Outputs_eq t0 w K) h)

/-- (*paceline/rti.Rti).members -/
def rti_Rti_members (t0 : Value) (w : World) (K : KV) : Prop :=
  ncP t0 <|
  fld 2 t0 w fun t11 w =>
  ldN 80 t11 w fun t12 w =>
  lp [(Value.slice none 0 0), (Value.int IntKind.i64 0)] w (b2 fun t3 t13 w g1 =>
  bi .lss .i64 t13 (Value.int IntKind.i64 8) w fun t14 w =>
  iff' t14
  (ixV prog 53 t12 t13 w fun t15 w =>
  al (zeroD prog 52) 52 w fun t5 w =>
  stN 10 t5 t15 w fun _ w =>
  fld 7 t5 w fun t17 w =>
  ld1 t17 w fun t18 w =>
  Cl prog 45 #[t18] w fun t19 w =>
  xt 0 t19 w fun t20 w =>
  xt 1 t19 w fun t21 w =>
  al (zeroD prog 42) 42 w fun t7 w =>
  stN 6 t7 t20 w fun _ w =>
  J1 (fun t6 w =>
  fld 3 t5 w fun t27 w =>
  ld1 t27 w fun t28 w =>
  bi .gtr .i64 t28 (Value.int IntKind.i64 0) w fun t29 w =>
  fld 1 t5 w fun t30 w =>
  ld1 t30 w fun t31 w =>
  fld 2 t5 w fun t32 w =>
  ld1 t32 w fun t33 w =>
  fld 3 t5 w fun t34 w =>
  ld1 t34 w fun t35 w =>
  fld 4 t5 w fun t36 w =>
  ld1 t36 w fun t37 w =>
  fld 5 t5 w fun t38 w =>
  ld1 t38 w fun t39 w =>
  bld (zeroD prog 101) #[(0, 1), (1, 1), (2, 1), (3, 1), (4, 1), (5, 1), (6, 1)] [(0, t29), (1, t31), (2, t33), (3, t35), (4, t37), (5, t39), (6, t6)] w fun t41 w =>
  bsl 101 7 1 (zeroD prog 101) [(0, t41)] w fun t42 w =>
  apS prog #[70, 70] 70 t3 t42 w fun t43 w =>
  bi .add .i64 t13 (Value.int IntKind.i64 1) w fun t44 w =>
  g1 [t43, t44] w) fun k2 =>
  iff' t21
  (fld 0 t7 w fun t23 w =>
  fld 0 t23 w fun t24 w =>
  ld1 t24 w fun t25 w =>
  k2 t25 w)
  (k2 (Value.int IntKind.i64 1125899906842624) w))
  (K t3 w))
theorem rti_Rti_members_eq (t0 : Value) (w : World) (K : KV) : rti_Rti_members t0 w K = fnW prog 46 [2] (match fn27.body with | some c => c | none => .skip) #[t0] w K := by kernel_rfl
theorem rti_Rti_members_ok : fnOk prog 46 [2] (match fn27.body with | some c => c | none => .skip) = true := by kernel_rfl
theorem rti_Rti_members_calls {t0 : Value} {w : World} {K : KV} (h : rti_Rti_members t0 w K) : Cl prog 27 #[t0] w K :=
  Cl.mk (by kernel_rfl) (calls_of_F (fn := fn27) (nt := 46) (rs := [2]) mixed fnAt27 (by kernel_rfl) (by kernel_rfl) (by kernel_rfl) (Nat.le_of_ble_eq_true (by kernel_rfl)) rti_Rti_members_ok (rti_Rti_members_eq t0 w K) h)

/-- (*paceline/prio.Queue).Push -/
def prio_Queue_Push (t0 t1 : Value) (w : World) (K : KV) : Prop :=
  al (Value.cells t1) 42 w fun t3 w =>
  dr w fun w =>
  ncP t0 <|
  fld 2 t0 w fun t10 _ =>
  ld1 t10 w fun t11 _ =>
  fld 0 t3 w fun t12 _ =>
  ldN 3 t12 w fun t13 _ =>
  lkM prog 84 t11 t13 true w fun t14 w =>
  xt 0 t14 w fun _ _ =>
  xt 1 t14 w fun t16 _ =>
  iff' t16
  (K (Value.int IntKind.i64 3) w)
  (dr w fun w =>
  ncP t0 <|
  fld 1 t0 w fun t20 _ =>
  ld1 t20 w fun t21 _ =>
  lnS t21 w fun t22 _ =>
  ncP t0 <|
  fld 0 t0 w fun t25 _ =>
  ld1 t25 w fun t26 _ =>
  bi .geq .i64 t22 t26 w fun t27 _ =>
  iff' t27
  (K (Value.int IntKind.i64 2) w)
  (bld (zeroD prog 106) #[(0, 1)] [(0, t0)] w fun t29 w =>
  ldN 6 t3 w fun t31 w =>
  Cl prog 46 #[(Value.iface 106 t29), (Value.iface 42 t31)] w fun _ w =>
  K (Value.int IntKind.i64 0) w))
theorem prio_Queue_Push_eq (t0 t1 : Value) (w : World) (K : KV) : prio_Queue_Push t0 t1 w K = fnW prog 34 [4] (match fn28.body with | some c => c | none => .skip) #[t0, t1] w K := by kernel_rfl
theorem prio_Queue_Push_ok : fnOk prog 34 [4] (match fn28.body with | some c => c | none => .skip) = true := by kernel_rfl
theorem prio_Queue_Push_calls {t0 t1 : Value} {w : World} {K : KV} (h : prio_Queue_Push t0 t1 w K) : Cl prog 28 #[t0, t1] w K :=
  Cl.mk (by kernel_rfl) (calls_of_F (fn := fn28) (nt := 34) (rs := [4]) mixed fnAt28 (by kernel_rfl) (by kernel_rfl) (by kernel_rfl) (Nat.le_of_ble_eq_true (by kernel_rfl)) prio_Queue_Push_ok (prio_Queue_Push_eq t0 t1 w K) h)

/-- (*paceline/prio.Queue).List -/
def prio_Queue_List (t0 : Value) (w : World) (K : KV) : Prop :=
  ncP t0 <|
  fld 1 t0 w fun t6 w =>
  ld1 t6 w fun t7 w =>
  Cl prog 47 #[t7] w fun t8 w =>
  Cl prog 48 #[t8, (Value.func (.func 49) #[] #[])] w fun _ w =>
  K t8 w
theorem prio_Queue_List_eq (t0 : Value) (w : World) (K : KV) : prio_Queue_List t0 w K = fnW prog 12 [2] (match fn29.body with | some c => c | none => .skip) #[t0] w K := by kernel_rfl
theorem prio_Queue_List_ok : fnOk prog 12 [2] (match fn29.body with | some c => c | none => .skip) = true := by kernel_rfl
theorem prio_Queue_List_calls {t0 : Value} {w : World} {K : KV} (h : prio_Queue_List t0 w K) : Cl prog 29 #[t0] w K :=
  Cl.mk (by kernel_rfl) (calls_of_F (fn := fn29) (nt := 12) (rs := [2]) mixed fnAt29 (by kernel_rfl) (by kernel_rfl) (by kernel_rfl) (Nat.le_of_ble_eq_true (by kernel_rfl)) prio_Queue_List_ok (prio_Queue_List_eq t0 w K) h)

/-- paceline/grant.Decide -/
def grant_Decide (t0 t1 t2 t3 t4 : Value) (w : World) (K : KV) : Prop :=
  J0 (fun w =>
  K (Value.tuple #[(Value.bool false), (Value.int IntKind.i64 0), (Value.int IntKind.i64 0)]) w) fun k1 =>
  bi .eql .i64 t0 (Value.int IntKind.i64 1) w fun t18 w =>
  iff' t18
  (bi .gtr .i64 t3 t1 w fun t21 w =>
  iff' t21
  (Cl prog 51 #[t4, t1] w fun t25 w =>
  K (Value.tuple #[(Value.bool true), t1, t25]) w)
  (k1 w))
  (bi .eql .i64 t0 (Value.int IntKind.i64 2) w fun t27 w =>
  iff' t27
  (Cl prog 52 #[t1, t2, t3, t4] w fun t32 w =>
  xt 0 t32 w fun t33 w =>
  xt 1 t32 w fun t34 w =>
  xt 2 t32 w fun t35 w =>
  K (Value.tuple #[t33, t34, t35]) w)
  (bi .eql .i64 t0 (Value.int IntKind.i64 3) w fun t37 w =>
  iff' t37
  (mnI .i64 t1 t3 w fun t40 w =>
  lnS t4 w fun t43 w =>
  mnI .i64 t43 (Value.int IntKind.i64 1) w fun t44 w =>
  slc 1 t4 none (some t44) w fun t45 w =>
  lnS t45 w fun t46 w =>
  lp [t40, (Value.int IntKind.i64 0)] w (b2 fun t13 t47 w g2 =>
  bi .lss .i64 t47 t46 w fun t48 w =>
  iff' t48
  (ixS 1 t45 t47 w fun t49 w =>
  ld1 t49 w fun t50 w =>
  mnI .i64 t13 t50 w fun t53 w =>
  bi .add .i64 t47 (Value.int IntKind.i64 1) w fun t54 w =>
  g2 [t53, t54] w)
  (mxI .i64 t2 t13 w fun t57 w =>
  lnS t4 w fun t59 w =>
  K (Value.tuple #[(Value.bool true), t57, t59]) w)))
  (k1 w)))
theorem grant_Decide_eq (t0 t1 t2 t3 t4 : Value) (w : World) (K : KV) : grant_Decide t0 t1 t2 t3 t4 w K = fnW prog 60 [10, 11, 12] (match fn30.body with | some c => c | none => .skip) #[t0, t1, t2, t3, t4] w K := by kernel_rfl
theorem grant_Decide_ok : fnOk prog 60 [10, 11, 12] (match fn30.body with | some c => c | none => .skip) = true := by kernel_rfl
theorem grant_Decide_calls {t0 t1 t2 t3 t4 : Value} {w : World} {K : KV} (h : grant_Decide t0 t1 t2 t3 t4 w K) : Cl prog 30 #[t0, t1, t2, t3, t4] w K :=
  Cl.mk (by kernel_rfl) (calls_of_F (fn := fn30) (nt := 60) (rs := [10, 11, 12]) mixed fnAt30 (by kernel_rfl) (by kernel_rfl) (by kernel_rfl) (Nat.le_of_ble_eq_true (by kernel_rfl)) grant_Decide_ok (grant_Decide_eq t0 t1 t2 t3 t4 w K) h)

/-- (*paceline/prio.Queue).Pop -/
def prio_Queue_Pop (t0 : Value) (w : World) (K : KV) : Prop :=
  al (zeroD prog 42) 42 w fun t2 w =>
  ncP t0 <|
  fld 1 t0 w fun t6 w =>
  ld1 t6 w fun t7 w =>
  lnS t7 w fun t8 w =>
  bi .eql .i64 t8 (Value.int IntKind.i64 0) w fun t9 w =>
  iff' t9
  (bld (zeroD prog 42) #[(0, 3), (3, 1), (4, 1), (5, 1)] [] w fun t10 w =>
  stN 6 t2 t10 w fun _ w =>
  ldN 6 t2 w fun r0 _ =>
  K (Value.tuple #[r0, (Value.bool false)]) w)
  (bld (zeroD prog 106) #[(0, 1)] [(0, t0)] w fun t12 w =>
  Cl prog 53 #[(Value.iface 106 t12)] w fun t14 w =>
  tyA prog t14 20 42 false w fun t15 w =>
  stN 6 t2 t15 w fun _ w =>
  ldN 6 t2 w fun r0 _ =>
  K (Value.tuple #[r0, (Value.bool true)]) w)
theorem prio_Queue_Pop_eq (t0 : Value) (w : World) (K : KV) : prio_Queue_Pop t0 w K = fnWC prog 16 [(2, some 42), (3, none)] (match fn31.body with | some c => c | none => .skip) #[t0] w K := by kernel_rfl
theorem prio_Queue_Pop_ok : fnOkC prog 16 [(2, some 42), (3, none)] (match fn31.body with | some c => c | none => .skip) = true := by kernel_rfl
theorem prio_Queue_Pop_calls {t0 : Value} {w : World} {K : KV} (h : prio_Queue_Pop t0 w K) : Cl prog 31 #[t0] w K :=
  Cl.mk (by kernel_rfl) (calls_of_FC (fn := fn31) (nt := 16) (rs := [(2, some 42), (3, none)]) mixed fnAt31 (by kernel_rfl) (by kernel_rfl) (by kernel_rfl) (Nat.le_of_ble_eq_true (by kernel_rfl)) prio_Queue_Pop_ok (prio_Queue_Pop_eq t0 w K) h)

/-- paceline/tree.Check -/
def tree_Check (t0 : Value) (w : World) (K : KV) : Prop :=
  lnS t0 w fun t7 w =>
  bi .lss .i64 t7 (Value.int IntKind.i64 1) w fun t9 w =>
  gd t9 false (fun k => k t7 w) w fun t11 w =>
  gd t9 false (fun k => bi .gtr .i64 t11 (Value.int IntKind.i64 16) w k) w fun t12 w =>
  pk t9 (Value.bool true) t12 w fun t13 w =>
  iff' t13
  (K (Value.int IntKind.i64 50) w)
  (lnS t0 w fun t15 w =>
  lp [(Value.int IntKind.i64 0)] w (b1 fun t16 w g1 =>
  bi .lss .i64 t16 t15 w fun t17 w =>
  iff' t17
  (ixS 1 t0 t16 w fun t19 w =>
  ld1 t19 w fun t20 w =>
  bi .lss .i64 t20 (Value.int IntKind.i64 (-1)) w fun t22 w =>
  gd t22 false (fun k => k t20 w) w fun t24 w =>
  gd t22 false (fun k => k t16 w) w fun t25 w =>
  gd t22 false (fun k => bi .geq .i64 t24 t25 w k) w fun t26 w =>
  pk t22 (Value.bool true) t26 w fun t27 w =>
  iff' t27
  (K (Value.int IntKind.i64 50) w)
  (bi .add .i64 t16 (Value.int IntKind.i64 1) w fun t28 w =>
  g1 [t28] w))
  (K (Value.int IntKind.i64 0) w)))
theorem tree_Check_eq (t0 : Value) (w : World) (K : KV) : tree_Check t0 w K = fnW prog 29 [2] (match fn32.body with | some c => c | none => .skip) #[t0] w K := by kernel_rfl
theorem tree_Check_ok : fnOk prog 29 [2] (match fn32.body with | some c => c | none => .skip) = true := by kernel_rfl
theorem tree_Check_calls {t0 : Value} {w : World} {K : KV} (h : tree_Check t0 w K) : Cl prog 32 #[t0] w K :=
  Cl.mk (by kernel_rfl) (calls_of_F (fn := fn32) (nt := 29) (rs := [2]) mixed fnAt32 (by kernel_rfl) (by kernel_rfl) (by kernel_rfl) (Nat.le_of_ble_eq_true (by kernel_rfl)) tree_Check_ok (tree_Check_eq t0 w K) h)

/-- (*paceline/pubsub.Table).check -/
def pubsub_Table_check (t0 t1 t2 : Value) (w : World) (K : KV) : Prop :=
  bi .lss .i64 t1 (Value.int IntKind.i64 0) w fun t9 w =>
  gd t9 false (fun k => k t1 w) w fun t11 w =>
  gd t9 false (fun k => bi .geq .i64 t11 (Value.int IntKind.i64 8) w k) w fun t12 w =>
  pk t9 (Value.bool true) t12 w fun t13 w =>
  iff' t13
  (K (Value.int IntKind.i64 1) w)
  (bi .lss .i64 t2 (Value.int IntKind.i64 0) w fun t16 w =>
  gd t16 false (fun k => k t2 w) w fun t18 w =>
  gd t16 false (fun k => k t0 w) w fun t19 w =>
  gd t16 false (fun k => nc t19 w k) w fun t20 w =>
  gd t16 false (fun k => fld 0 t20 w k) w fun t21 w =>
  gd t16 false (fun k => ld1 t21 w k) w fun t22 w =>
  gd t16 false (fun k => lnS t22 w k) w fun t23 w =>
  gd t16 false (fun k => bi .geq .i64 t18 t23 w k) w fun t24 w =>
  pk t16 (Value.bool true) t24 w fun t25 w =>
  iff' t25
  (K (Value.int IntKind.i64 81) w)
  (K (Value.int IntKind.i64 0) w))
theorem pubsub_Table_check_eq (t0 t1 t2 : Value) (w : World) (K : KV) : pubsub_Table_check t0 t1 t2 w K = fnW prog 26 [6] (match fn35.body with | some c => c | none => .skip) #[t0, t1, t2] w K := by kernel_rfl
theorem pubsub_Table_check_ok : fnOk prog 26 [6] (match fn35.body with | some c => c | none => .skip) = true := by kernel_rfl
theorem pubsub_Table_check_calls {t0 t1 t2 : Value} {w : World} {K : KV} (h : pubsub_Table_check t0 t1 t2 w K) : Cl prog 35 #[t0, t1, t2] w K :=
  Cl.mk (by kernel_rfl) (calls_of_F (fn := fn35) (nt := 26) (rs := [6]) mixed fnAt35 (by kernel_rfl) (by kernel_rfl) (by kernel_rfl) (Nat.le_of_ble_eq_true (by kernel_rfl)) pubsub_Table_check_ok (pubsub_Table_check_eq t0 t1 t2 w K) h)

/-- paceline/pubsub.turn -/
def pubsub_turn (t0 : Value) (w : World) (K : KV) : Prop :=
  iff' t0
  (K (Value.func (.func 60) #[] #[]) w)
  (K (Value.func (.func 61) #[] #[]) w)
theorem pubsub_turn_eq (t0 : Value) (w : World) (K : KV) : pubsub_turn t0 w K = fnW prog 4 [2] (match fn36.body with | some c => c | none => .skip) #[t0] w K := by kernel_rfl
theorem pubsub_turn_ok : fnOk prog 4 [2] (match fn36.body with | some c => c | none => .skip) = true := by kernel_rfl
theorem pubsub_turn_calls {t0 : Value} {w : World} {K : KV} (h : pubsub_turn t0 w K) : Cl prog 36 #[t0] w K :=
  Cl.mk (by kernel_rfl) (calls_of_F (fn := fn36) (nt := 4) (rs := [2]) mixed fnAt36 (by kernel_rfl) (by kernel_rfl) (by kernel_rfl) (Nat.le_of_ble_eq_true (by kernel_rfl)) pubsub_turn_ok (pubsub_turn_eq t0 w K) h)

/-- (*paceline/pubsub.Table).Subscribe -/
def pubsub_Table_Subscribe (t0 t1 t2 t3 : Value) (w : World) (K : KV) : Prop :=
  Cl prog 35 #[t0, t1, t2] w fun t13 w =>
  bi .neq .i64 t13 (Value.int IntKind.i64 0) w fun t15 w =>
  iff' t15
  (K t13 w)
  (dr w fun w =>
  ncP t0 <|
  fld 9 t0 w fun t22 _ =>
  ixA 8 1 t22 t1 w fun t23 _ =>
  Cl prog 36 #[t3] w fun t18 w =>
  clV prog t18 #[t23, t2] w fun _ w =>
  K (Value.int IntKind.i64 0) w)
theorem pubsub_Table_Subscribe_eq (t0 t1 t2 t3 : Value) (w : World) (K : KV) : pubsub_Table_Subscribe t0 t1 t2 t3 w K = fnW prog 26 [8] (match fn37.body with | some c => c | none => .skip) #[t0, t1, t2, t3] w K := by kernel_rfl
theorem pubsub_Table_Subscribe_ok : fnOk prog 26 [8] (match fn37.body with | some c => c | none => .skip) = true := by kernel_rfl
theorem pubsub_Table_Subscribe_calls {t0 t1 t2 t3 : Value} {w : World} {K : KV} (h : pubsub_Table_Subscribe t0 t1 t2 t3 w K) : Cl prog 37 #[t0, t1, t2, t3] w K :=
  Cl.mk (by kernel_rfl) (calls_of_F (fn := fn37) (nt := 26) (rs := [8]) mixed fnAt37 (by kernel_rfl) (by kernel_rfl) (by kernel_rfl) (Nat.le_of_ble_eq_true (by kernel_rfl)) pubsub_Table_Subscribe_ok (pubsub_Table_Subscribe_eq t0 t1 t2 t3 w K) h)

end Go.Proofs.YtmgaooeeddmbmaaGreatDoor
