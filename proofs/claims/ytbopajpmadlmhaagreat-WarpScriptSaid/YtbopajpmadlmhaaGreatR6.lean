/- Texts of the proof, joined: Errs, PastR, SoloU, SoloX. Conditions: none. -/
import Derived.Test.YtbopajpmadlmhaaGreatR5
import Derived.Stop.Asserts
import Derived.Lib.IfaceEq
section
namespace Go.Proofs.YtbopajpmadlmhaaGreat
open Go Go.E
set_option maxRecDepth 100000
variable {e w : World} {L Q R : List HP} {K : KV} {S : HP}

theorem bO_run {op : BinOp} {t : TypeId} {xo yo : Operand} {x y v : Value} (h1 : (eqGuard op t xo yo x y).run prog w = .ok () w) (h2 : (binOp op t x y).run prog w = .ok v w) (hk : K v w) : bO prog op t xo yo x y w K :=
  ex_oV (w' := w) (v := v) (by simp only [Sem.run_bind, h1, Result.andThen_ok, h2]) hk
noncomputable def lacksB (t a : TypeId) : Bool := match prog.underlying a, prog.info? t, prog.info? a with
  | some (.interface want), some i, some j => !(Go.lacking want i.methods).isEmpty && (match j.zero with | some .nilIface => true | _ => false)
  | _, _, _ => false
noncomputable def hasB (t a : TypeId) : Bool := match prog.underlying a, prog.info? t with
  | some (.interface want), some i => (Go.lacking want i.methods).isEmpty
  | _, _ => false
theorem tyA_lacks {t a xt : TypeId} {v : Value} (h : lacksB t a = true) (hk : K (.tuple #[.nilIface, .bool false]) w) : tyA prog (.iface t v) xt a true w K := by
  unfold lacksB at h
  split at h
  · rename_i want i j hu hi hj
    rw [Bool.and_eq_true] at h
    have hz : j.zero = some .nilIface := by
      have := h.2
      split at this
      · assumption
      · cases this
    refine ex_oV (w' := w) (v := .tuple #[.nilIface, .bool false]) ?_ hk
    exact run_typeAssert_lacks hu hi hj hz fun e => by rw [e] at h; simp at h
  · cases h
theorem tyA_has {t a xt : TypeId} {v : Value} (h : hasB t a = true) (hk : K (.tuple #[.iface t v, .bool true]) w) : tyA prog (.iface t v) xt a true w K := by
  unfold hasB at h
  split at h
  · rename_i want i hu hi
    refine ex_oV (w' := w) (v := .tuple #[.iface t v, .bool true]) ?_ hk
    exact run_typeAssert_has hu hi (List.isEmpty_iff.1 h)
  · cases h
theorem isTypeOf (v : Value) (w : World) : (Extern.ReflectliteType.typeOf #[.iface 30 v]).run prog w = .ok (.iface 241 (.agg #[typeHandle prog 30])) w := by kernel_rfl
theorem typeOf_s {n : Value} (hk : K (.iface 241 (.agg #[typeHandle prog 30])) w) : Cl prog 150 #[.iface 30 n] w K := by
  have h8 := @run_callFunc_extern prog 150 _ Extern.ReflectliteType.typeOf Tryz.func150 (by kernel_rfl) (by kernel_rfl) (by kernel_rfl) (by kernel_rfl)
  unfold Cl
  refine ex_congr (s' := oV (pure (.iface 241 (.agg #[typeHandle prog 30])))) ?_ (ex_oV (w' := w) rfl hk)
  rw [h8]
  unfold oV
  simp only [Sem.run_bind, isTypeOf, Result.andThen_ok, Sem.run_pure]
theorem clI_run {P : Program} {x r : Value} {name : String} {args : Array Value} {w : World} {K : KV} (h : (invoke (.fn (.method name) #[]) (#[x] ++ args)).run P w = .ok (.value r) w) (hk : K r w) : clI P x name args w K := by
  unfold clI ex
  rw [h]
  exact hk
theorem runComp (w : World) : (invoke (.fn (.method "Comparable") #[]) (#[.iface 241 (.agg #[typeHandle prog 30])] ++ #[])).run prog w = .ok (.value (.bool true)) w := by kernel_rfl
theorem comp_s (hk : K (.bool true) w) : clI prog (.iface 241 (.agg #[typeHandle prog 30])) "Comparable" #[] w K :=
  @clI_run prog (.iface 241 (.agg #[typeHandle prog 30])) (.bool true) "Comparable" #[] w K (runComp w) hk

abbrev erV (t : Nat) : Value := .iface 206 (.pointer (some ⟨t, 0, none⟩))
abbrev noV (n : Int) : Value := .iface 30 (.int .i64 n)
def BT (t : Nat) (k : Key) (er : Int) : HP := blk t 208 (k.cs ++ [noV er])
theorem eqE_nil {n : Int} {xo yo : Operand} (hk : K (.bool false) w) : bO prog .eql 103 xo yo (noV n) .nilIface w K := ex_oV (w' := w) (v := .bool false) (by kernel_rfl) hk
theorem eqT_nil {t : Nat} {xo yo : Operand} (hk : K (.bool false) w) : bO prog .eql 103 xo yo (erV t) .nilIface w K := ex_oV (w' := w) (v := .bool false) (by kernel_rfl) hk
theorem neT_nil {t : Nat} {xo yo : Operand} (hk : K (.bool true) w) : bO prog .neq 103 xo yo (erV t) .nilIface w K := ex_oV (w' := w) (v := .bool true) (by kernel_rfl) hk
theorem neN_nil {a : Nat} (hk : K (.bool false) w) : bO prog .neq 103 (.tmp a) (.const .nilIface) .nilIface .nilIface w K := ex_oV (w' := w) (v := .bool false) (by kernel_rfl) hk
theorem eqN_nil {a : Nat} (hk : K (.bool true) w) : bO prog .eql 103 (.tmp a) (.const .nilIface) .nilIface .nilIface w K := ex_oV (w' := w) (v := .bool true) (by kernel_rfl) hk
theorem eqN_E {n : Int} {xo yo : Operand} (hk : K (.bool false) w) : bO prog .eql 103 xo yo .nilIface (noV n) w K := ex_oV (w' := w) (v := .bool false) (by kernel_rfl) hk
theorem eqT_E {t : Nat} {n : Int} {xo yo : Operand} (hk : K (.bool false) w) : bO prog .eql 103 xo yo (erV t) (noV n) w K := ex_oV (w' := w) (v := .bool false) (by kernel_rfl) hk
theorem eqE_E {a b : Int} {xo yo : Operand} (hk : K (.bool (a == b)) w) : bO prog .eql 103 xo yo (noV a) (noV b) w K :=
  bO_run (by kernel_rfl) (Lib.run_eql_iface_int w a b Tryz.underlying103 (by kernel_rfl) Tryz.underlying30) hk
theorem is_s {t : Nat} {k : Key} {er n : Int} (i : Nat) (hi : L[i]? = some (BT t k er)) (hS : Sat e w L) (hk : K (.bool (er == n)) w) : Cl prog 151 #[erV t, noV n, .bool true] w K := by
  refine errors_is_calls ?_
  unfold errors_is
  refine lpi1 (fun q x w' => ((q = 1 ∧ x = erV t) ∨ (q = 0 ∧ x = noV er)) ∧ w' = w) 1 ⟨.inl ⟨rfl, rfl⟩, rfl⟩ ?_
  rintro q x w' g ⟨hx, rfl⟩ hg
  refine gd_tt (gd_tt (gd_tt ?_))
  rcases hx with ⟨rfl, rfl⟩ | ⟨rfl, rfl⟩
  · refine eqT_E (pk_t (iff_f ?_))
    refine tyA_lacks (by kernel_rfl) (xt_02 (xt_12 ?_))
    refine gd_ft (gd_ft (gd_ft (pk_f (iff_f ?_))))
    refine tyA_has (by kernel_rfl) (xt_12 (xt_02 (iff_t ?_)))
    refine clI_s (f := 230) (rcv := .pointer (some ⟨t, 0, none⟩)) (by kernel_rfl) ?_
    refine warp_trouble_Unwrap_calls (t0 := .pointer (some ⟨t, 0, none⟩)) ?_
    unfold warp_trouble_Unwrap
    refine ncP_p (fld_at (ld1_at hS i hi (v := noV er) rfl ?_))
    refine eqE_nil (iff_f ?_)
    exact hg _ _ _ (by omega) ⟨.inr ⟨rfl, rfl⟩, rfl⟩
  · refine eqE_E (pk_t ?_)
    cases hb : (er == n) with
    | true => rw [hb] at hk; exact iff_t hk
    | false =>
      rw [hb] at hk
      refine iff_f (tyA_lacks (by kernel_rfl) (xt_02 (xt_12 ?_)))
      refine gd_ft (gd_ft (gd_ft (pk_f (iff_f ?_))))
      refine tyA_lacks (by kernel_rfl) (xt_12 (xt_02 (iff_f ?_)))
      exact tyA_lacks (by kernel_rfl) (xt_12 (xt_02 (iff_f hk)))
theorem Is_s {t : Nat} {k : Key} {er n : Int} (i : Nat) (hi : L[i]? = some (BT t k er)) (hS : Sat e w L) (hk : K (.bool (er == n)) w) : Cl prog 105 #[erV t, noV n] w K := by
  refine errors_Is_calls ?_
  unfold errors_Is
  refine eqT_nil (gd_ff (gd_ff (eqE_nil (pk_f (iff_f ?_)))))
  exact typeOf_s (comp_s (is_s i hi hS hk))
theorem Is_nil {n : Int} (hk : K (.bool false) w) : Cl prog 105 #[.nilIface, noV n] w K := by
  refine errors_Is_calls ?_
  unfold errors_Is
  exact eqN_nil (gd_tf (gd_tf (pk_t (iff_t (eqN_E hk)))))
def oneErr (er : Int) : Prop := er = 110 ∨ er = 3 ∨ er = 4 ∨ er = 2
theorem errno_s {t : Nat} {k : Key} {er : Int} (hS : Sat e w (BT t k er :: Q)) (he : oneErr er) (hk : ∀ w', Sat e w' Q → K (.int .i64 er) w') : Cl prog 50 #[erV t] w K := by
  refine warp_errno_calls ?_
  unfold warp_errno
  refine bsl_s (ints [110, 3, 4, 2]) hS (by kernel_rfl) fun b w2 h2 => ?_
  have hr : ∀ g, blk b 30 (ints [110, 3, 4, 2]) g → rdS 1 (intsK .i64) (.slice (some ⟨b, 0, none⟩) 4 4) [110, 3, 4, 2] g := blk_rdn (f := intsK .i64) [110, 3, 4, 2] rfl (Nat.le_refl _)
  refine lnS_rd h2 0 rfl hr ?_
  refine lpi1 (fun q x w' => ∃ j : Nat, x = .int .i64 j ∧ j ≤ 4 ∧ q = 4 - j ∧ (∀ n ∈ [(110 : Int), 3, 4, 2].take j, n ≠ er) ∧ w' = w2) 4 ⟨0, rfl, by omega, rfl, by simp, rfl⟩ ?_
  rintro q x w' g ⟨j, rfl, hj, rfl, hno, rfl⟩ hg
  refine lt_c (fun c => iff_t ?_) (fun c => iff_f ?_)
  · replace c : (j : Int) < 4 := c
    obtain ⟨n, hn⟩ := get_of_lt (l := [(110 : Int), 3, 4, 2]) (j := j) (by simp; omega)
    refine ixS_rd h2 0 rfl hr (fun _ => rfl) hn fun a ha => ld1_of h2 0 rfl ha (v := .int .i64 n) rfl ?_
    refine Is_s 1 rfl h2 ?_
    by_cases hen : er = n
    · rw [beq_iff_eq.2 hen]
      refine iff_t ?_
      rw [← hen]
      exact hk _ h2.drop.drop
    · rw [beq_eq_false_iff_ne.2 hen]
      refine iff_f (inc_s (by omega) ?_)
      refine hg _ _ _ (by omega) ⟨j + 1, rfl, by omega, rfl, fun y hy => ?_, rfl⟩
      rw [take_snoc hn] at hy
      rcases List.mem_append.1 hy with h | h
      · exact hno y h
      · rw [List.mem_singleton.1 h]; exact fun h => hen h.symm
  · exfalso
    replace c : ¬ (j : Int) < 4 := c
    have ej : j = 4 := by omega
    subst ej
    rcases he with rfl | rfl | rfl | rfl
    · exact hno 110 (by decide) rfl
    · exact hno 3 (by decide) rfl
    · exact hno 4 (by decide) rfl
    · exact hno 2 (by decide) rfl
theorem errno_nil (hS : Sat e w Q) (hk : ∀ w', Sat e w' Q → K (.int .i64 0) w') : Cl prog 50 #[.nilIface] w K := by
  refine warp_errno_calls ?_
  unfold warp_errno
  refine bsl_s (ints [110, 3, 4, 2]) hS (by kernel_rfl) fun b w2 h2 => ?_
  have hr : ∀ g, blk b 30 (ints [110, 3, 4, 2]) g → rdS 1 (intsK .i64) (.slice (some ⟨b, 0, none⟩) 4 4) [110, 3, 4, 2] g := blk_rdn (f := intsK .i64) [110, 3, 4, 2] rfl (Nat.le_refl _)
  refine lnS_rd h2 0 rfl hr ?_
  refine lpi1 (fun q x w' => ∃ j : Nat, x = .int .i64 j ∧ j ≤ 4 ∧ q = 4 - j ∧ w' = w2) 4 ⟨0, rfl, by omega, rfl, rfl⟩ ?_
  rintro q x w' g ⟨j, rfl, hj, rfl, rfl⟩ hg
  refine lt_c (fun c => iff_t ?_) (fun c => iff_f (hk _ h2.drop))
  replace c : (j : Int) < 4 := c
  obtain ⟨n, hn⟩ := get_of_lt (l := [(110 : Int), 3, 4, 2]) (j := j) (by simp; omega)
  refine ixS_rd h2 0 rfl hr (fun _ => rfl) hn fun a ha => ld1_of h2 0 rfl ha (v := .int .i64 n) rfl ?_
  refine Is_nil (iff_f (inc_s (by omega) ?_))
  exact hg _ _ _ (by omega) ⟨j + 1, rfl, by omega, rfl, rfl⟩
theorem late_s {k : Key} {er : Int} (hS : Sat e w Q) (hk : ∀ t w', Sat e w' (BT t k er :: Q) → K (erV t) w') : Cl prog 100 #[.agg k.cs.toArray, .int .i64 er] w K := by
  refine warp_late_calls ?_
  unfold warp_late
  refine al_s (cs := k.cs) hS rfl fun b w1 h1 => ?_
  refine ldN_at h1 0 (vs := k.cs) rfl (by rfl) rfl ?_
  refine bld_s (k.cs ++ [noV er]) (by kernel_rfl) ?_
  refine al_s (cs := k.cs ++ [noV er]) h1 rfl fun t w2 h2 => ?_
  exact hk t _ (h2.selR [_, _] [_] [0] (by decide) rfl)
end Go.Proofs.YtbopajpmadlmhaaGreat
end
section
namespace Go.Proofs.YtbopajpmadlmhaaGreat
open Go Go.E
set_option maxRecDepth 100000
variable {e w : World} {L Q R : List HP} {K : KV} {S S2 : HP}

abbrev DER (v : Value) (xs : List EnX) : HP := ownS 140 10 EnX.cs v xs
abbrev PB (p : Nat) (fl : Int) (lv : Value) : HP := blk p 130 [.int .i64 fl, lv]
def IsPastR (p : Nat) (fl : Int) (l : List En) : HP := hex fun v : PV => sepL [pur (v.xs.map EnX.e = l ∧ PastOk l), PB p fl v.lv, DER v.lv v.xs, sepL (v.xs.map eOwn)]
theorem pastR_of {p : Nat} {fl : Int} {l : List En} (h : Sat e w (IsPastR p fl l :: R)) : ∃ lv xs, (xs.map EnX.e = l ∧ PastOk l) ∧ Sat e w (PB p fl lv :: DER lv xs :: sepL (xs.map eOwn) :: R) := by
  obtain ⟨v, h0⟩ := h.ex
  exact ⟨v.lv, v.xs, Sat.pure h0.split⟩
theorem pastR_mk {p : Nat} {fl : Int} {l : List En} {lv : Value} {xs : List EnX} (hp : xs.map EnX.e = l ∧ PastOk l) (h : Sat e w (PB p fl lv :: DER lv xs :: sepL (xs.map eOwn) :: R)) : Sat e w (IsPastR p fl l :: R) :=
  .mk_ex ⟨lv, xs⟩ (.join (l' := [_, _, _, _]) (.mk_pure hp h))
def IsEnsR (v : Value) (l : List En) : HP := hex fun xs : List EnX => sepL [pur (xs.map EnX.e = l), DER v xs, sepL (xs.map eOwn)]
theorem ensR_of {v : Value} {l : List En} (h : Sat e w (IsEnsR v l :: R)) : ∃ xs, xs.map EnX.e = l ∧ Sat e w (DER v xs :: sepL (xs.map eOwn) :: R) := by
  obtain ⟨xs, h0⟩ := h.ex
  exact ⟨xs, Sat.pure h0.split⟩
theorem ensR_mk {v : Value} {xs : List EnX} (h : Sat e w (DER v xs :: sepL (xs.map eOwn) :: R)) : Sat e w (IsEnsR v (xs.map EnX.e) :: R) := .mk_ex xs (.join (l' := [_, _, _]) (.mk_pure rfl h))

theorem ref13_New_s (hS : Sat e w R) (hk : ∀ p w', Sat e w' (IsPastR p 0 [] :: R) → K (.pointer (some ⟨p, 0, none⟩)) w') : Cl prog 72 #[] w K := by
  refine pacelineref13_New_calls ?_
  unfold pacelineref13_New
  refine bld_s [.int .i64 0, .slice none 0 0] (by kernel_rfl) ?_
  refine al_s (cs := [.int .i64 0, .slice none 0 0]) hS rfl fun p w1 h1 => ?_
  refine hk p _ (pastR_mk (lv := .slice none 0 0) (xs := []) ⟨rfl, .nil, by simp, by simp⟩ ?_)
  have h2 : Sat e w1 (sepL [] :: PB p 0 (.slice none 0 0) :: R) := Sat.join (l' := []) h1
  have h3 := h2.own_nil 140 10 EnX.cs
  exact h3.selR [_, _, _] [_, _, _] [2, 0, 1] (by decide) rfl
theorem last13_s {p b : Nat} {fl : Int} {lv : Value} {xs : List EnX} {x : EnX} {F : Value → World → Prop} (h2 : ∀ y, xs.getLast? = some y → KeyLt y.m.key x.m.key) (hS : Sat e w (blk b 140 x.cs :: PB p fl lv :: DER lv xs :: Q)) (hl : xs.length ≤ 1000) (hk : ∀ w', Sat e w' (blk b 140 x.cs :: PB p fl lv :: DER lv xs :: Q) → F (.bool false) w') :
    bi .gtr .i64 (.int .i64 (xs.length : Int)) (Value.int IntKind.i64 0) w fun t22 _ =>
    gd t22 true (fun k => k (.pointer (some ⟨p, 0, none⟩)) w) w fun t24 _ =>
    gd t22 true (fun k => nc t24 w k) w fun t25 _ =>
    gd t22 true (fun k => fld 1 t25 w k) w fun t26 _ =>
    gd t22 true (fun k => ld1 t26 w k) w fun t27 _ =>
    gd t22 true (fun k => k (.int .i64 (xs.length : Int)) w) w fun t28 _ =>
    gd t22 true (fun k => bi .sub .i64 t28 (Value.int IntKind.i64 1) w k) w fun t29 _ =>
    gd t22 true (fun k => ixS 10 t27 t29 w k) w fun t30 _ =>
    gd t22 true (fun k => fld 0 t30 w k) w fun t31 _ =>
    gd t22 true (fun k => fld 0 t31 w k) w fun t32 _ =>
    gd t22 true (fun k => ldN 3 t32 w k) w fun t33 _ =>
    gd t22 true (fun k => fld 0 (.pointer (some ⟨b, 0, none⟩)) w k) w fun t34 _ =>
    gd t22 true (fun k => fld 0 t34 w k) w fun t35 _ =>
    gd t22 true (fun k => ldN 3 t35 w k) w fun t36 _ =>
    gd t22 true (fun k => Cl prog 29 #[t33, t36] w k) w fun t37 w =>
    gd t22 true (fun k => bi .geq .i64 t37 (Value.int IntKind.i64 0) w k) w fun t38 _ =>
    pk t22 t38 (Value.bool false) w fun t39 _ => F t39 w := by
  refine gt_c (fun c => ?_) (fun c => ?_)
  · obtain ⟨y, hy⟩ := get_of_lt (l := xs) (j := xs.length - 1) (by omega)
    have hlast : xs.getLast? = some y := by rw [List.getLast?_eq_getElem?]; exact hy
    refine gd_tt (gd_tt (nc_p (gd_tt (fld_at (gd_tt (ld1_at hS 1 rfl (v := lv) rfl (gd_tt (gd_tt (sub_s (by omega) (by omega) ?_))))))))) 
    rw [show (xs.length : Int) - 1 = ((xs.length - 1 : Nat) : Int) from by omega]
    refine gd_tt (ixS_rd hS 2 rfl (fun g hg => own_rd hg) (fun _ => rfl) hy fun a ha => gd_tt (fld_of ha fun a1 ha1 => gd_tt (fld_of ha1 fun a2 ha2 => gd_tt (ldN_sub hS 2 rfl ha2 (us := y.m.key.cs) rfl rfl ?_))))
    refine gd_tt (fld_at (gd_tt (fld_at (gd_tt (ldN_at hS 0 (vs := x.m.key.cs) rfl (by rfl) rfl (gd_tt ?_))))))
    refine ref01_Cmp_s hS fun w2 h3 => ?_
    have hlt := cmpK_lt.2 (h2 y hlast)
    exact gd_tt (ge_f (by omega) (pk_t (hk _ h3)))
  · exact gd_ft (gd_ft (gd_ft (gd_ft (gd_ft (gd_ft (gd_ft (gd_ft (gd_ft (gd_ft (gd_ft (gd_ft (gd_ft (gd_ft (gd_ft (pk_f (hk _ hS))))))))))))))))
theorem ref13_Push_s {p : Nat} {fl : Int} {lv : Value} {xs : List EnX} {x : EnX} (hov : flat x.ov = true) (hfx : ∀ y ∈ xs, flat y.ov = true) (h1 : ¬ x.m.key.T < fl) (h2 : ∀ y, xs.getLast? = some y → KeyLt y.m.key x.m.key) (h3 : xs.length < 64)
    (hS : Sat e w (PB p fl lv :: DER lv xs :: Q)) (hk : ∀ lv' w', Sat e w' (PB p fl lv' :: DER lv' (xs ++ [x]) :: Q) → K (.int .i64 0) w') : Cl prog 82 #[.pointer (some ⟨p, 0, none⟩), .agg x.cs.toArray] w K := by
  refine pacelineref13_Past_Push_calls ?_
  unfold pacelineref13_Past_Push
  refine al_s (cs := x.cs) hS rfl fun b w1 h4 => ?_
  refine dr_s h4 fun w2 h5 => ?_
  refine fld_at (fld_at (fld_at (ld1_at h5 0 rfl (v := .int .i64 x.m.key.T) rfl ?_)))
  refine ncP_p (fld_at (ld1_at h5 1 rfl (v := .int .i64 fl) rfl (lt_f h1 (iff_f ?_))))
  refine ncP_p (fld_at (ld1_at h5 1 rfl (v := lv) rfl ?_))
  refine lnS_rd h5 2 rfl (fun g hg => own_rd hg) ?_
  refine dr_s h5 fun w3 h6 => ?_
  refine last13_s h2 h6 (by omega) fun w4 h7 => ?_
  refine iff_f (ge_f (by omega) (iff_f ?_))
  refine bsl0 h7 EnX.cs fun v42 w5 h8 => ?_
  refine ncP_p (fld_at (ld1_at h8 2 rfl (v := lv) rfl ?_))
  refine apS_ownM te_128 te_128.und (f := EnX.cs) (m := xs) (fun _ => rfl) (fun y hy => EnX.flat (hfx y hy)) (h8.selR [_, _, _, _] [_, _, _, _] [0, 3, 1, 2] (by decide) rfl) (fun g hg => own_rd hg) (by simp; omega) fun v48 w6 h9 => ?_
  rw [List.nil_append] at h9
  refine ldN_at h9 2 (vs := x.cs) rfl (by rfl) rfl ?_
  refine bsl1 (vs := x.cs) rfl rfl h9 fun bb w7 h10 => ?_
  refine apS_ownM te_128 te_128.und (f := EnX.cs) (m := [x]) (fun _ => rfl) (fun y hy c hc => by rw [List.mem_singleton.1 hy] at hc; exact EnX.flat hov c hc) h10.swap (blk_rd1 (f := EnX.cs) (x := x) (Nat.le_refl _)) (by simp; omega) fun lv' w8 h11 => ?_
  have q1 := h11.own_cells 0 rfl
  refine ncP_p (fld_at (stN_at h11 4 rfl (vs := [lv']) q1.1 rfl (Nat.le_of_ble_eq_true rfl) (fun c hc => by rw [List.mem_singleton.1 hc]; exact q1.2) (cs' := [.int .i64 fl, lv']) (by rfl) fun w9 h12 => ?_))
  exact hk lv' _ (h12.selR [_, _, _, _, _] [_, _] [4, 0] (by decide) rfl)
theorem parts_gen {α : Type} {p : α → Bool} : ∀ {l : List α}, (l.Pairwise fun a b => p b = true → p a = true) → l.filter p ++ l.filter (fun x => !p x) = l
  | [], _ => rfl
  | a :: l, h => by
    obtain ⟨h1, h2⟩ := List.pairwise_cons.1 h
    have ih := parts_gen h2
    cases hp : p a with
    | true => rw [List.filter_cons_of_pos hp, List.filter_cons_of_neg (by rw [hp]; decide), List.cons_append, ih]
    | false =>
      have h3 : l.filter p = [] := List.filter_eq_nil_iff.2 fun x hx hpx => by rw [h1 x hx hpx] at hp; cases hp
      have h4 : l.filter (fun x => !p x) = l := by rw [h3, List.nil_append] at ih; exact ih
      rw [List.filter_cons_of_neg (by rw [hp]; decide), List.filter_cons_of_pos (by rw [hp]; rfl), h3, h4]
      rfl
theorem push13 {v y : Value} {xs : List EnX} {x : EnX} {zero : Array Value} (hx : flat x.ov = true) (hl : xs.length ≤ 1000) (hy : y.cells.toList = x.cs) (hS : Sat e w (DER v xs :: Q)) (hk : ∀ v' w', Sat e w' (DER v' (xs ++ [x]) :: Q) → K v' w') :
    bsl 140 10 1 zero [(0, y)] w fun t w => apS prog #[128, 128] 128 v t w K := by
  refine bsl1 (vs := x.cs) hy rfl hS fun bb w7 h10 => ?_
  refine apS_ownM te_128 te_128.und (f := EnX.cs) (m := [x]) (fun _ => rfl) (fun y hy c hc => by rw [List.mem_singleton.1 hy] at hc; exact EnX.flat hx c hc) h10.swap (blk_rd1 (f := EnX.cs) (x := x) (Nat.le_refl _)) (by simp; omega) fun lv' w8 h11 => ?_
  exact hk _ _ (h11.swap.drop)
theorem ref13_Back_s {p : Nat} {fl : Int} {l : List En} {k : Key} (hS : Sat e w (IsPastR p fl l :: Q)) (hk : ∀ v w', Sat e w' (IsEnsR v (goneL k l).reverse :: IsPastR p fl (keepE k l) :: Q) → K v w') :
    Cl prog 130 #[.pointer (some ⟨p, 0, none⟩), .agg k.cs.toArray] w K := by
  refine pacelineref13_Past_Back_calls ?_
  unfold pacelineref13_Past_Back
  obtain ⟨lv, xs, hp, h0⟩ := pastR_of hS
  have hxl : xs.length ≤ 64 := by have := hp.2.len; rw [← hp.1, List.length_map] at this; exact this
  have hfl : ∀ x ∈ xs, flat x.ov = true := fun x hx => en_flat 2 h0 rfl hx
  obtain ⟨P, hP⟩ : ∃ P : EnX → Bool, P = fun x => decide (KeyLt x.m.key k) := ⟨_, rfl⟩
  have hPk : ∀ x : EnX, P x = decide (KeyLt x.m.key k) := fun x => by rw [hP]
  have hup : xs.Pairwise fun a b => KeyLt a.m.key b.m.key := by
    have h1 := hp.2.up
    rw [← hp.1] at h1
    have h2 := List.pairwise_map.1 h1
    exact h2
  have hparts : xs.filter P ++ xs.filter (fun x => !P x) = xs := parts_gen (hup.imp fun {a b} hab hb => by
    rw [hPk, decide_eq_true_iff] at *
    exact hab.trans hb)
  have ef : xs.map EnX.e = l := hp.1
  have ek : (xs.filter P).map EnX.e = keepE k l := by rw [← ef, hP]; unfold keepE; rw [List.filter_map]; rfl
  have eg : (xs.filter fun x => !P x).map EnX.e = goneL k l := by rw [← ef, hP]; unfold goneL; rw [List.filter_map]; rfl
  refine al_s (cs := k.cs) h0 rfl fun b w1 h1 => ?_
  refine bsl0 h1 EnX.cs fun t9 w2 h2 => ?_
  refine bsl0 h2 EnX.cs fun t10 w3 h3 => ?_
  refine lpi2 (fun q t6 t7 w => ∃ j : Nat, j ≤ xs.length ∧ t7 = .int .i64 j ∧ q = xs.length - j ∧ Sat e w (DER t6 ((xs.take j).filter P) :: DER t9 [] :: blk b 35 k.cs :: PB p fl lv :: DER lv xs :: sepL (xs.map eOwn) :: Q)) xs.length ⟨0, Nat.zero_le _, rfl, rfl, h3⟩ ?_
  rintro q t6 _ w g1 ⟨j, hj, rfl, rfl, h4⟩ hg
  refine ncP_p (fld_at (ld1_at h4 3 rfl (v := lv) rfl ?_))
  refine lnS_rd h4 4 rfl (fun g hg => own_rd hg) ?_
  refine lt_c (fun c => iff_t ?_) (fun c => iff_f ?_)
  · obtain ⟨x, hx⟩ := get_of_lt (l := xs) (j := j) (by omega)
    have hfil : ((xs.take j).filter P).length ≤ 64 := Nat.le_trans (List.length_filter_le _ _) (by rw [List.length_take]; omega)
    refine J1.cut (fun t6 w => Sat e w (DER t6 ((xs.take (j + 1)).filter P) :: DER t9 [] :: blk b 35 k.cs :: PB p fl lv :: DER lv xs :: sepL (xs.map eOwn) :: Q)) (fun k2 hcut => ?_) (fun t6 w h6 => ?_)
    · rw [filter_snoc hx] at hcut
      refine dr_s h4 fun w4 h5 => ?_
      refine ncP_p (fld_at (ld1_at h5 3 rfl (v := lv) rfl ?_))
      refine ixS_rd h5 4 rfl (fun g hg => own_rd hg) (fun _ => rfl) hx fun a ha => fld_of ha fun a1 ha1 => fld_of ha1 fun a2 ha2 => ldN_sub h5 4 rfl ha2 (us := x.m.key.cs) rfl rfl ?_
      refine ldN_at h5 2 (vs := k.cs) rfl (by rfl) rfl ?_
      refine ref01_Cmp_s h5 fun w5 h6 => ?_
      refine lt_c (fun c2 => iff_t ?_) (fun c2 => iff_f ?_)
      · rw [show P x = true from by rw [hPk]; exact decide_eq_true (cmpK_lt.1 c2)] at hcut
        refine ncP_p (fld_at (ld1_at h6 3 rfl (v := lv) rfl ?_))
        refine ixS_rd h6 4 rfl (fun g hg => own_rd hg) (fun _ => rfl) hx fun a ha => ldN_of h6 4 rfl ha rfl ?_
        refine push13 (x := x) (hfl x (List.mem_of_getElem? hx)) (by omega) rfl h6 fun v' w7 h7 => ?_
        exact hcut _ _ h7
      · rw [show P x = false from by rw [hPk]; exact decide_eq_false fun h => c2 (cmpK_lt.2 h)] at hcut
        refine hcut _ _ ?_
        rw [if_neg (by decide), List.append_nil]
        exact h6
    · refine inc_s (by omega) ?_
      exact hg _ _ _ _ (by omega) ⟨j + 1, by omega, rfl, rfl, h6⟩
  · obtain rfl : j = xs.length := by omega
    rw [List.take_length] at h4
    obtain ⟨m, hm⟩ : ∃ m, m = (xs.filter P).length := ⟨_, rfl⟩
    have hml : m ≤ xs.length := by rw [hm]; exact List.length_filter_le _ _
    have hdrop : xs.drop m = xs.filter fun x => !P x := by
      conv => lhs; rw [← hparts]
      rw [hm, List.drop_left]
    refine ncP_p (fld_at (ld1_at h4 3 rfl (v := lv) rfl ?_))
    refine lnS_rd h4 4 rfl (fun g hg => own_rd hg) ?_
    refine sub_s (by omega) (by omega) ?_
    refine lpi2 (fun q t5 t8 w => ∃ i : Nat, m ≤ i ∧ i ≤ xs.length ∧ t8 = .int .i64 ((i : Int) - 1) ∧ q = i ∧ Sat e w (DER t5 (xs.drop i).reverse :: DER t6 (xs.filter P) :: blk b 35 k.cs :: PB p fl lv :: DER lv xs :: sepL (xs.map eOwn) :: Q)) xs.length
      ⟨xs.length, hml, Nat.le_refl _, rfl, rfl, by rw [List.drop_length]; exact h4.swap⟩ ?_
    rintro q t5 _ w g3 ⟨i, hi1, hi2, rfl, hq, h5⟩ hg3
    refine lnS_rd h5 1 rfl (fun g hg => own_rd hg) ?_
    refine ge_c (fun c1 => iff_t ?_) (fun c1 => iff_f ?_)
    · obtain ⟨i', rfl⟩ : ∃ i', i = i' + 1 := ⟨i - 1, by omega⟩
      obtain ⟨x, hx⟩ := get_of_lt (l := xs) (j := i') (by omega)
      rw [show ((i' + 1 : Nat) : Int) - 1 = (i' : Int) from by omega] at c1 ⊢
      refine ncP_p (fld_at (ld1_at h5 3 rfl (v := lv) rfl ?_))
      refine ixS_rd h5 4 rfl (fun g hg => own_rd hg) (fun _ => rfl) hx fun a ha => ldN_of h5 4 rfl ha rfl ?_
      refine push13 (x := x) (hfl x (List.mem_of_getElem? hx)) (by rw [List.length_reverse, List.length_drop]; omega) rfl h5 fun v' w7 h7 => ?_
      refine sub_s (by omega) (by omega) ?_
      refine hg3 _ _ _ _ (by omega) ⟨i', by omega, by omega, rfl, rfl, ?_⟩
      rw [drop_cons hx, List.reverse_cons]
      exact h7
    · obtain rfl : i = m := by omega
      have q3 := h5.own_cells 1 rfl
      refine ncP_p (fld_at (stN_at h5 3 rfl (vs := [t6]) q3.1 rfl (Nat.le_of_ble_eq_true rfl) (fun c hc => by rw [List.mem_singleton.1 hc]; exact q3.2) (cs' := [.int .i64 fl, t6]) (by rfl) fun w5 h6 => ?_))
      replace h6 : Sat e w5 (DER t5 (xs.drop i).reverse :: DER t6 (xs.filter P) :: blk b 35 k.cs :: PB p fl t6 :: DER lv xs :: sepL (xs.map eOwn) :: Q) := h6
      rw [hdrop] at h6
      rw [show xs.map eOwn = (xs.filter P).map eOwn ++ (xs.filter fun x => !P x).map eOwn from by rw [← List.map_append, hparts]] at h6
      have h7 := sepL_parts (h6.pick 5 rfl)
      have h8 := sepL_perm (b := (xs.filter fun x => !P x).reverse.map eOwn) (by rw [List.map_reverse]; exact (List.reverse_perm _).symm) h7.swap
      replace h8 : Sat e w5 (sepL ((xs.filter fun x => !P x).reverse.map eOwn) :: sepL ((xs.filter P).map eOwn) :: DER t5 (xs.filter fun x => !P x).reverse :: DER t6 (xs.filter P) :: blk b 35 k.cs :: PB p fl t6 :: DER lv xs :: Q) := h8
      have h9 := pastR_mk (fl := fl) (lv := t6) (xs := xs.filter P) (l := keepE k l) ⟨ek, hp.2.sub List.filter_sublist⟩ (h8.selR [_, _, _, _, _, _, _] [_, _, _, _, _] [5, 3, 1, 2, 0] (by decide) rfl)
      have h10 := ensR_mk (v := t5) (xs := (xs.filter fun x => !P x).reverse) (h9.selR [_, _, _] [_, _, _] [1, 2, 0] (by decide) rfl)
      rw [show (xs.filter fun x => !P x).reverse.map EnX.e = (goneL k l).reverse from by rw [List.map_reverse, eg]] at h10
      exact hk _ _ h10
theorem ref13_Settle_s {p : Nat} {fl : Int} {l : List En} {t : Int} (hS : Sat e w (IsPastR p fl l :: Q)) (hk : ∀ v w', Sat e w' (IsEnsR v (frontE t l) :: IsPastR p (max fl t) (backE t l) :: Q) → K v w') :
    Cl prog 84 #[.pointer (some ⟨p, 0, none⟩), .int .i64 t] w K := by
  refine pacelineref13_Past_Settle_calls ?_
  unfold pacelineref13_Past_Settle
  obtain ⟨lv, xs, hp, h0⟩ := pastR_of hS
  have hxl : xs.length ≤ 64 := by have := hp.2.len; rw [← hp.1, List.length_map] at this; exact this
  have hfl : ∀ x ∈ xs, flat x.ov = true := fun x hx => en_flat 2 h0 rfl hx
  obtain ⟨P, hP⟩ : ∃ P : EnX → Bool, P = fun x => decide (x.m.key.T < t) := ⟨_, rfl⟩
  have hPk : ∀ x : EnX, P x = decide (x.m.key.T < t) := fun x => by rw [hP]
  have ef : xs.map EnX.e = l := hp.1
  have ek : (xs.filter P).map EnX.e = frontE t l := by rw [← ef, hP]; unfold frontE; rw [List.filter_map]; rfl
  have eg : (xs.filter fun x => !P x).map EnX.e = backE t l := by rw [← ef, hP]; unfold backE; rw [List.filter_map]; rfl
  refine bsl0 h0 EnX.cs fun t8 w2 h2 => ?_
  refine bsl0 h2 EnX.cs fun t9 w3 h3 => ?_
  refine lpi3 (fun q t5 t6 t7 w => ∃ j : Nat, j ≤ xs.length ∧ t7 = .int .i64 j ∧ q = xs.length - j ∧ Sat e w (DER t6 ((xs.take j).filter fun x => !P x) :: DER t5 ((xs.take j).filter P) :: PB p fl lv :: DER lv xs :: sepL (xs.map eOwn) :: Q)) xs.length ⟨0, Nat.zero_le _, rfl, rfl, h3⟩ ?_
  rintro q t5 t6 _ w g1 ⟨j, hj, rfl, rfl, h4⟩ hg
  refine ncP_p (fld_at (ld1_at h4 2 rfl (v := lv) rfl ?_))
  refine lnS_rd h4 3 rfl (fun g hg => own_rd hg) ?_
  refine lt_c (fun c => iff_t ?_) (fun c => iff_f ?_)
  · obtain ⟨x, hx⟩ := get_of_lt (l := xs) (j := j) (by omega)
    have hfil : ((xs.take j).filter P).length ≤ 64 := Nat.le_trans (List.length_filter_le _ _) (by rw [List.length_take]; omega)
    have hfil2 : ((xs.take j).filter fun x => !P x).length ≤ 64 := Nat.le_trans (List.length_filter_le _ _) (by rw [List.length_take]; omega)
    refine J2.cut (fun t5 t6 w => Sat e w (DER t6 ((xs.take (j + 1)).filter fun x => !P x) :: DER t5 ((xs.take (j + 1)).filter P) :: PB p fl lv :: DER lv xs :: sepL (xs.map eOwn) :: Q)) (fun k2 hcut => ?_) (fun t5 t6 w h6 => ?_)
    · rw [filter_snoc hx, filter_snoc hx] at hcut
      refine ncP_p (fld_at (ld1_at h4 2 rfl (v := lv) rfl ?_))
      refine ixS_rd h4 3 rfl (fun g hg => own_rd hg) (fun _ => rfl) hx fun a ha => fld_of ha fun a1 ha1 => fld_of ha1 fun a2 ha2 => fld_of ha2 fun a3 ha3 => ld1_of h4 3 rfl ha3 (v := .int .i64 x.m.key.T) rfl ?_
      refine lt_c (fun c2 => iff_t ?_) (fun c2 => iff_f ?_)
      · rw [show P x = true from by rw [hPk]; exact decide_eq_true c2] at hcut
        refine ncP_p (fld_at (ld1_at h4 2 rfl (v := lv) rfl ?_))
        refine ixS_rd h4 3 rfl (fun g hg => own_rd hg) (fun _ => rfl) hx fun a ha => ldN_of h4 3 rfl ha rfl ?_
        refine push13 (x := x) (hfl x (List.mem_of_getElem? hx)) (by omega) rfl h4.swap fun v' w7 h7 => ?_
        refine hcut _ _ _ ?_
        rw [if_neg (show ¬ (!true) = true by decide), List.append_nil]
        exact h7.swap
      · rw [show P x = false from by rw [hPk]; exact decide_eq_false c2] at hcut
        refine ncP_p (fld_at (ld1_at h4 2 rfl (v := lv) rfl ?_))
        refine ixS_rd h4 3 rfl (fun g hg => own_rd hg) (fun _ => rfl) hx fun a ha => ldN_of h4 3 rfl ha rfl ?_
        refine push13 (x := x) (hfl x (List.mem_of_getElem? hx)) (by omega) rfl h4 fun v' w7 h7 => ?_
        refine hcut _ _ _ ?_
        rw [if_neg (show ¬ false = true by decide), List.append_nil]
        exact h7
    · refine inc_s (by omega) ?_
      exact hg _ _ _ _ _ (by omega) ⟨j + 1, by omega, rfl, rfl, h6⟩
  · obtain rfl : j = xs.length := by omega
    rw [List.take_length] at h4
    have q3 := h4.own_cells 0 rfl
    refine ncP_p (fld_at (stN_at h4 2 rfl (vs := [t6]) q3.1 rfl (Nat.le_of_ble_eq_true rfl) (fun c hc => by rw [List.mem_singleton.1 hc]; exact q3.2) (cs' := [.int .i64 fl, t6]) (by rfl) fun w5 h6 => ?_))
    refine ncP_p (fld_at (ld1_at h6 2 rfl (v := .int .i64 fl) rfl (max_s ?_)))
    refine ncP_p (fld_at (stN_at h6 2 rfl (vs := ints [max fl t]) rfl rfl (Nat.le_of_ble_eq_true rfl) (ints_flat _) (cs' := [.int .i64 (max fl t), t6]) (by rfl) fun w6 h7 => ?_))
    replace h7 : Sat e w6 (DER t6 (xs.filter fun x => !P x) :: DER t5 (xs.filter P) :: PB p (max fl t) t6 :: DER lv xs :: sepL (xs.map eOwn) :: Q) := h7
    have h8 := sepL_perm (b := (xs.filter P).map eOwn ++ (xs.filter fun x => !P x).map eOwn) (by rw [← List.map_append]; exact ((List.filter_append_perm P xs).map eOwn).symm) (h7.pick 4 rfl)
    have h9 := sepL_parts h8
    replace h9 : Sat e w6 (sepL ((xs.filter P).map eOwn) :: sepL ((xs.filter fun x => !P x).map eOwn) :: DER t6 (xs.filter fun x => !P x) :: DER t5 (xs.filter P) :: PB p (max fl t) t6 :: DER lv xs :: Q) := h9
    have h10 := pastR_mk (fl := max fl t) (lv := t6) (xs := xs.filter fun x => !P x) (l := backE t l) ⟨eg, hp.2.sub List.filter_sublist⟩ (h9.selR [_, _, _, _, _, _] [_, _, _, _, _] [4, 2, 1, 3, 0] (by decide) rfl)
    have h11 := ensR_mk (v := t5) (xs := xs.filter P) (h10.selR [_, _, _] [_, _, _] [1, 2, 0] (by decide) rfl)
    rw [ek] at h11
    exact hk _ _ h11
end Go.Proofs.YtbopajpmadlmhaaGreat
end
section
namespace Go.Proofs.YtbopajpmadlmhaaGreat
open Go Go.E
set_option maxRecDepth 100000
variable {e w : World} {L Q : List HP} {K : KV} {S S2 : HP}

structure FedS where
  st : Int
  sent : Int
  lv : Value
  log : List Done
def FedS.cs (f : FedS) : List Value := [.int .i64 f.st, .int .i64 f.sent, f.lv]
def FedS.a (f : FedS) : FA := ⟨f.st, f.sent, f.log⟩
end Go.Proofs.YtbopajpmadlmhaaGreat
namespace Go.Proofs.YtbopajpmadlmhaaGreat
open Go Go.E
set_option maxRecDepth 100000
variable {e w : World} {L Q : List HP} {K : KV} {S S2 : HP}

end Go.Proofs.YtbopajpmadlmhaaGreat
namespace Go.Proofs.YtbopajpmadlmhaaGreat
open Go Go.E
set_option maxRecDepth 100000
variable {e w : World} {L Q : List HP} {K : KV} {S S2 : HP}

end Go.Proofs.YtbopajpmadlmhaaGreat
namespace Go.Proofs.YtbopajpmadlmhaaGreat
open Go Go.E
set_option maxRecDepth 100000
variable {e w : World} {L Q : List HP} {K : KV} {S S2 : HP}

def w0 : Wd := ⟨[-1], [⟨0, 1, 0, [], [0], [], [⟨0, 4, 2⟩]⟩, ⟨0, 1, 3, [], [], [0], []⟩], 9⟩
theorem MLt.time {a b : Msg} (h : MLt a b) : a.key.T ≤ b.key.T := by
  rcases h with h | h
  · unfold KeyLt at h; omega
  · rw [h.1]; omega
end Go.Proofs.YtbopajpmadlmhaaGreat
namespace Go.Proofs.YtbopajpmadlmhaaGreat
open Go Go.E
set_option maxRecDepth 100000
variable {e w : World} {L Q : List HP} {K : KV} {S S2 : HP}

end Go.Proofs.YtbopajpmadlmhaaGreat
namespace Go.Proofs.YtbopajpmadlmhaaGreat
open Go Go.E
set_option maxRecDepth 100000
variable {e w : World} {L Q : List HP} {K : KV} {S S2 : HP}

end Go.Proofs.YtbopajpmadlmhaaGreat
end
section
namespace Go.Proofs.YtbopajpmadlmhaaGreat
open Go Go.E
set_option maxRecDepth 100000
variable {e w : World} {L R : List HP} {K : KV} {S S2 : HP}

theorem ref05_Above_s {v : Value} {ps : List Int} {a : Int} (i : Nat) (hi : L[i]? = some S) (hS : Sat e w L) (hr : ∀ g, S g → rdS 1 (intsK .i64) v ps g) (ht : okTree ps) (ha : 0 ≤ a ∧ a < ps.length)
    (hk : ∀ v w', Sat e w' (ownS 3 1 (intsK .i64) v (above ps a) :: L) → K v w') : Cl prog 126 #[v, .int .i64 a] w K := by
  refine pacelineref05_Above_calls ?_
  unfold pacelineref05_Above
  refine bsl0 hS (intsK .i64) fun v0 w1 h1 => ?_
  have hi1 : ∀ X : HP, (X :: L)[i + 1]? = some S := fun X => by simpa using hi
  refine ref05_Check_s (i + 1) (hi1 _) h1 hr ?_
  have htE : treeE ps = 0 := by unfold treeE; exact if_pos ht
  rw [htE]
  refine ne_f rfl (gd_ff (gd_ff (lt_f (by omega) (pk_f (gd_ff (gd_ff (gd_ff (lnS_rd h1 (i + 1) (hi1 _) hr ?_))))))))
  refine gd_ff (ge_f (by omega) (pk_f (iff_f ?_)))
  have hpl := ht.2.1
  refine lpi2 (fun q t1 t5 w => ∃ (z : Int) (acc : List Int), t1 = .int .i64 z ∧ q = (z + 1).toNat ∧ -1 ≤ z ∧ z < ps.length ∧ acc.length + (z + 1).toNat ≤ 17 ∧ (∃ n : Nat, z < n ∧ acc ++ upL ps n z = above ps a) ∧ Sat e w (ownS 3 1 (intsK .i64) t5 acc :: L)) (a + 1).toNat
    ⟨a, [], rfl, rfl, by omega, ha.2, by simp; omega, ⟨a.toNat + 1, by omega, rfl⟩, h1⟩ ?_
  rintro q _ t5 w g ⟨z, acc, rfl, rfl, hz1, hzl, hacc, ⟨n, hzn, heq⟩, h2⟩ hg
  refine ge_c (fun c1 => iff_t ?_) (fun c1 => iff_f ?_)
  · obtain ⟨m, rfl⟩ : ∃ m, n = m + 1 := ⟨n - 1, by omega⟩
    rw [upL_succ, if_neg (by omega)] at heq
    obtain ⟨y, hy⟩ := get_of_lt (l := ps) (j := z.toNat) (by omega)
    have hzN : z = ((z.toNat : Nat) : Int) := by omega
    have hp := ht.2.2 z.toNat y hy
    have hgd : ps.getD z.toNat (-1) = y := by rw [List.getD_eq_getElem?_getD, hy]; rfl
    rw [hgd] at heq
    refine push1 te_24 (f := intsK .i64) (fun _ => rfl) (fun _ _ h => by simp [intsK] at h; subst h; rfl) h2 (x := z) rfl (by omega) fun v' w8 h8 => ?_
    rw [show Value.int .i64 z = .int .i64 ((z.toNat : Nat) : Int) from by rw [← hzN]]
    refine ixS_rd h8 (i + 1) (hi1 _) hr (fun _ => rfl) hy fun q hq => ?_
    refine ld1_of h8 (i + 1) (hi1 _) hq (v := .int .i64 y) rfl ?_
    refine hg (y + 1).toNat _ _ _ (by omega) ⟨y, acc ++ [z], rfl, rfl, by omega, by omega, by rw [List.length_append, List.length_singleton]; omega, ⟨m, by omega, ?_⟩, h8⟩
    rw [List.append_assoc]
    exact heq
  · rw [upL_neg ps (by omega), List.append_nil] at heq
    refine hk _ _ ?_
    rw [← heq]
    exact h2
theorem hears_above (ps : List Int) (c : Int) (f : Fed) : hearsB ps c f = (above ps c).any fun s => decide (s ∈ f.Subs) := by
  unfold hearsB
  rw [Bool.eq_iff_iff, List.any_eq_true, List.any_eq_true]
  constructor
  · rintro ⟨s, h1, h2⟩
    exact ⟨s, of_decide_eq_true h2, decide_eq_true h1⟩
  · rintro ⟨s, h1, h2⟩
    exact ⟨s, of_decide_eq_true h2, decide_eq_true h1⟩
theorem upL_len (ps : List Int) : ∀ (n : Nat) (a : Int), (upL ps n a).length ≤ n
  | 0, _ => Nat.le_refl _
  | n + 1, a => by
    rw [upL_succ]
    split
    · simp
    · have := upL_len ps n (ps.getD a.toNat (-1))
      rw [List.length_cons]
      omega
theorem ref08_Routes_s {x : WdX} {f c : Int} (i : Nat) (hi : L[i]? = some S) (hS : Sat e w L) (hr : ∀ g, S g → RdWd x g) (hs : x.short) (ht : okTree x.Parents) (hc : 0 ≤ c ∧ c < x.Parents.length)
    (hk : ∀ v w', Sat e w' (ownS 3 1 (intsK .i64) v (routesL x.w.Parents f c x.w.Feds) :: L) → K v w') : Cl prog 67 #[.agg x.cs.toArray, .int .i64 f, .int .i64 c] w K := by
  refine pacelineref08_Routes_calls ?_
  unfold pacelineref08_Routes
  refine al_s (cs := x.cs) hS rfl fun b w1 h1 => ?_
  refine fld_at (ld1_at h1 0 rfl (v := x.pv) rfl ?_)
  refine ref05_Above_s (i + 1) (by simpa using hi) h1 (fun g hg => (hr g hg).par) ht hc fun av w2 h2 => ?_
  have hal : (above x.Parents c).length ≤ 1000 := by
    have h3 := upL_len x.Parents (c.toNat + 1) c
    have h4 := ht.2.1
    unfold above
    omega
  have hab := fun f => hears_above x.Parents c f
  generalize above x.Parents c = ab at h2 hal hab
  refine bsl0 h2 (intsK .i64) fun v0 w3 h3 => ?_
  have hfl := hs.feds
  refine lpi2 (fun q t7 t13 w => ∃ j : Nat, j ≤ x.Feds.length ∧ t13 = .int .i64 j ∧ q = x.Feds.length - j ∧ Sat e w (ownS 3 1 (intsK .i64) t7 (routesL x.Parents f c ((x.Feds.take j).map FedX.f)) :: ownS 3 1 (intsK .i64) av ab :: blk b 27 x.cs :: L)) x.Feds.length
    ⟨0, Nat.zero_le _, rfl, rfl, h3⟩ ?_
  rintro q t7 _ w g ⟨j, hj, rfl, rfl, h4⟩ hg
  have hi3 : (ownS 3 1 (intsK .i64) t7 (routesL x.Parents f c ((x.Feds.take j).map FedX.f)) :: ownS 3 1 (intsK .i64) av ab :: blk b 27 x.cs :: L)[i + 3]? = some S := by simpa using hi
  refine fld_at (ld1_at h4 2 rfl (v := x.fv) rfl ?_)
  refine lnS_rd h4 (i + 3) hi3 (fun g hg => (hr g hg).feds) ?_
  refine lt_c (fun c0 => iff_t ?_) (fun c0 => iff_f ?_)
  · obtain ⟨fd, hf⟩ := get_of_lt (l := x.Feds) (j := j) (by omega)
    have hfm := List.mem_of_getElem? hf
    have hlen : ((x.Feds.take j).map FedX.f).length = j := by rw [List.length_map, List.length_take]; omega
    have hsn : routesL x.Parents f c ((x.Feds.take (j + 1)).map FedX.f) = routesL x.Parents f c ((x.Feds.take j).map FedX.f) ++ if (j : Int) ≠ f ∧ hearsB x.Parents c fd.f = true then [(j : Int)] else [] := by
      rw [take_snoc hf, List.map_append, List.map_singleton, routesL_snoc, hlen]
    have hrl := routesL_len x.Parents f c ((x.Feds.take j).map FedX.f)
    rw [hlen] at hrl
    refine J1.cut (fun t7 w => Sat e w (ownS 3 1 (intsK .i64) t7 (routesL x.Parents f c ((x.Feds.take (j + 1)).map FedX.f)) :: ownS 3 1 (intsK .i64) av ab :: blk b 27 x.cs :: L)) (fun k2 hcut => ?_) (fun t7 w h5 => ?_)
    · rw [hsn, hab] at hcut
      refine lpi2 (fun q t10 t11 w => ∃ n : Nat, n ≤ ab.length ∧ t11 = .int .i64 n ∧ q = ab.length - n ∧ t10 = .bool ((ab.take n).any fun s => decide (s ∈ fd.f.Subs)) ∧ Sat e w (ownS 3 1 (intsK .i64) t7 (routesL x.Parents f c ((x.Feds.take j).map FedX.f)) :: ownS 3 1 (intsK .i64) av ab :: blk b 27 x.cs :: L)) ab.length
        ⟨0, Nat.zero_le _, rfl, rfl, by simp, h4⟩ ?_
      rintro q _ _ w g2 ⟨n, hn, rfl, rfl, rfl, h5⟩ hg2
      refine lnS_rd h5 1 rfl (fun g hg => own_rd hg) ?_
      refine lt_c (fun c1 => iff_t ?_) (fun c1 => iff_f ?_)
      · obtain ⟨s, hsn2⟩ := get_of_lt (l := ab) (j := n) (by omega)
        refine dr_s h5 fun w6 h6 => ?_
        have hgo : ∀ w', Sat e w' (ownS 3 1 (intsK .i64) t7 (routesL x.Parents f c ((x.Feds.take j).map FedX.f)) :: ownS 3 1 (intsK .i64) av ab :: blk b 27 x.cs :: L) → bi .add .i64 (.int .i64 n) (.int .i64 1) w' fun t29 w => g2 [.bool ((ab.take (n + 1)).any fun s => decide (s ∈ fd.f.Subs)), t29] w := fun w' h' => by
          refine inc_s (by omega) ?_
          exact hg2 _ _ _ _ (by omega) ⟨n + 1, by omega, rfl, rfl, rfl, h'⟩
        have hst : ((ab.take (n + 1)).any fun s => decide (s ∈ fd.f.Subs)) = (((ab.take n).any fun s => decide (s ∈ fd.f.Subs)) || decide (s ∈ fd.f.Subs)) := by
          rw [take_snoc hsn2, List.any_append]
          simp
        rw [hst] at hgo
        cases hb : (ab.take n).any fun s => decide (s ∈ fd.f.Subs) with
        | true =>
          rw [hb] at hgo
          repeat (first | refine gd_tt ?_ | refine gd_ff ?_ | refine gd_tf ?_ | refine gd_ft ?_ | refine gd_u ?_ | refine pk_t ?_ | refine pk_f ?_ | refine iff_t ?_ | refine iff_f ?_ | refine not_t ?_ | refine not_f ?_ | refine beq_s ?_ | refine bne_s ?_ | refine ncP_p ?_ | refine nc_p ?_ | refine fld_at ?_ | refine xt_02 ?_ | refine xt_12 ?_ | refine xt_03 ?_ | refine xt_13 ?_ | refine xt_23 ?_ | refine eq_t (by omega) ?_ | refine eq_f (by omega) ?_ | refine ne_t (by omega) ?_ | refine ne_f (by omega) ?_ | refine lt_t (by omega) ?_ | refine lt_f (by omega) ?_ | refine gt_t (by omega) ?_ | refine gt_f (by omega) ?_ | refine ge_t (by omega) ?_ | refine ge_f (by omega) ?_ | refine le_t (by omega) ?_ | refine le_f (by omega) ?_)
          exact hgo _ h6
        | false =>
          rw [hb] at hgo
          refine gd_ff (fld_at (gd_ff (ld1_at h6 2 rfl (v := x.fv) rfl (gd_ff ?_))))
          refine gd_ff (ixS_rd h6 (i + 3) hi3 (fun g hg => (hr g hg).feds) (fun _ => rfl) hf fun a ha => ?_)
          refine gd_ff (fld_of ha fun a1 ha1 => gd_ff (ld1_of h6 (i + 3) hi3 ha1 (v := fd.sv) rfl ?_))
          refine gd_ff (gd_ff (gd_ff (ixS_rd h6 1 rfl (fun g hg => own_rd hg) (fun _ => rfl) hsn2 fun a ha => ?_)))
          refine gd_ff (ld1_of h6 1 rfl ha (v := .int .i64 s) rfl (gd_ff ?_))
          refine ref05_Has_s (i + 3) hi3 h6 (fun g hg => ((hr g hg).fed fd hfm).subs) (by have := (hs.fed fd hfm).subs; omega) ?_
          refine pk_f ?_
          exact hgo _ h6
      · have en : n = ab.length := by omega
        rw [en, List.take_length]
        have hskip : ¬ ((j : Int) ≠ f ∧ (ab.any fun s => decide (s ∈ fd.f.Subs)) = true) → k2 t7 w := fun h => by
          rw [if_neg h, List.append_nil] at hcut
          exact hcut _ _ h5
        refine ne_c (fun c2 => ?_) (fun c2 => ?_)
        · refine gd_tt ?_
          cases hb : ab.any fun s => decide (s ∈ fd.f.Subs) with
          | true =>
            refine pk_t (iff_t ?_)
            refine push1 te_24 (f := intsK .i64) (fun _ => rfl) (fun _ _ h => by simp [intsK] at h; subst h; rfl) h5 (x := (j : Int)) rfl (by omega) fun v' w8 h8 => ?_
            refine hcut _ _ ?_
            rw [if_pos ⟨c2, hb⟩]
            exact h8
          | false =>
            refine pk_t (iff_f (hskip fun h => ?_))
            rw [hb] at h
            cases h.2
        · repeat (first | refine gd_tt ?_ | refine gd_ff ?_ | refine gd_tf ?_ | refine gd_ft ?_ | refine gd_u ?_ | refine pk_t ?_ | refine pk_f ?_ | refine iff_t ?_ | refine iff_f ?_ | refine not_t ?_ | refine not_f ?_ | refine beq_s ?_ | refine bne_s ?_ | refine ncP_p ?_ | refine nc_p ?_ | refine fld_at ?_ | refine xt_02 ?_ | refine xt_12 ?_ | refine xt_03 ?_ | refine xt_13 ?_ | refine xt_23 ?_ | refine eq_t (by omega) ?_ | refine eq_f (by omega) ?_ | refine ne_t (by omega) ?_ | refine ne_f (by omega) ?_ | refine lt_t (by omega) ?_ | refine lt_f (by omega) ?_ | refine gt_t (by omega) ?_ | refine gt_f (by omega) ?_ | refine ge_t (by omega) ?_ | refine ge_f (by omega) ?_ | refine le_t (by omega) ?_ | refine le_f (by omega) ?_)
          exact hskip fun h => h.1 c2
    · refine inc_s (by omega) ?_
      exact hg _ _ _ _ (by omega) ⟨j + 1, by omega, rfl, rfl, h5⟩
  · have ej : j = x.Feds.length := by omega
    rw [ej, List.take_length] at h4
    exact hk _ _ (h4.selR [_, _, _] [_] [0] (by decide) rfl)

theorem ref07_Sent_s {f seq now body : Int} {o : Out} (hS : Sat e w L) (hk : ∀ w', Sat e w' L → K (.agg (sentM f seq now body o).cs.toArray) w') :
    Cl prog 66 #[.int .i64 f, .int .i64 seq, .int .i64 now, .int .i64 body, .agg o.cs.toArray] w K := by
  refine pacelineref07_Sent_calls ?_
  unfold pacelineref07_Sent
  refine al_s (cs := o.cs) hS rfl fun t9 w1 h1 => ?_
  rw [zero_37]
  refine al_s (cs := Msg.zero.cs) h1 rfl fun t10 w2 h2 => ?_
  refine rem_s (by decide) ?_
  obtain ⟨k1, a1, a2, a3⟩ := tmodK body
  generalize hr1 : body.tmod 1000 = r1 at a1 a2 a3
  refine fld_at (ld1_at h2 1 rfl (v := .int .i64 o.Add) rfl ?_)
  refine rem_s (by decide) ?_
  obtain ⟨k2, b1, b2, b3⟩ := tmodK o.Add
  generalize hr2 : o.Add.tmod 1000 = r2 at b1 b2 b3
  refine add_s (by omega) (by omega) ?_
  refine rem_s (by decide) ?_
  obtain ⟨k3, c1, c2, c3⟩ := tmodK (r1 + r2)
  generalize hr3 : (r1 + r2).tmod 1000 = r3 at c1 c2 c3
  refine add_s (by omega) (by omega) ?_
  refine dr_s h2 fun w3 h3 => ?_
  refine fld_at (ld1_at h3 1 rfl (v := .int .i64 o.Delay) rfl ?_)
  refine fld_at (ld1_at h3 1 rfl (v := .int .i64 o.Class) rfl ?_)
  refine rem_s (by decide) ?_
  rw [Int.tmod_eq_emod_of_nonneg (by omega)]
  refine ref01_Add_s ?_
  have oC : ld1 (.pointer (some ⟨t9, 0 + 0, none⟩)) w3 (fun v' w'' => v' = .int .i64 o.Class ∧ w'' = w3) := ld1_at h3 1 rfl (v := .int .i64 o.Class) rfl ⟨rfl, rfl⟩
  refine ⟨oC, bld_s (ints [addT now o.Delay, f, seq]) (by kernel_rfl) ⟨oC, ?_⟩⟩
  rw [show (r3 + 1000) % 1000 = (body + o.Add) % 1000 from by omega]
  refine bld_s (sentM f seq now body o).cs (by kernel_rfl) ?_
  refine stN_at h3 0 rfl (vs := (sentM f seq now body o).cs) rfl rfl (by simp [ints, Msg.ns, Msg.zero]) (ints_flat _) (cs' := (sentM f seq now body o).cs) (by rfl) fun w4 h4 => ?_
  refine ldN_at h4 0 (vs := (sentM f seq now body o).cs) rfl (by rfl) rfl ?_
  exact hk _ h4.drop.drop

theorem ref08_Spread_s {x : WdX} {f seq now body : Int} {v : Value} {outs : List Out} (i k : Nat) (hi : L[i]? = some S) (hk2 : L[k]? = some S2) (hS : Sat e w L) (hr : ∀ g, S g → RdWd x g) (hr2 : ∀ g, S2 g → rdS 3 Out.cs v outs g) (hs : x.short) (ht : okTree x.Parents)
    (ho : ∀ o ∈ outs, okSend x.Parents.length o) (hl : outs.length ≤ 1000) (hq : 0 ≤ seq ∧ seq ≤ 1125899906842624)
    (hk : ∀ v w', Sat e w' (ownS 37 6 Msg.cs v (spreadL x.w.Parents x.w.Feds f seq now body outs) :: L) → K v w') : Cl prog 26 #[.agg x.cs.toArray, .int .i64 f, .int .i64 seq, .int .i64 now, .int .i64 body, v] w K := by
  refine pacelineref08_Spread_calls ?_
  unfold pacelineref08_Spread
  refine al_s (cs := x.cs) hS rfl fun b w1 h1 => ?_
  have hi1 : (blk b 27 x.cs :: L)[i + 1]? = some S := by simpa using hi
  have hk1 : (blk b 27 x.cs :: L)[k + 1]? = some S2 := by simpa using hk2
  have hfl := hs.feds
  rw [zero_37]
  refine bsl0 h1 Msg.cs fun v0 w1b h1b => ?_
  have hflat := wd_cells i hi hS hr
  refine lpi2 (fun q t13 t21 w => ∃ j : Nat, j ≤ outs.length ∧ t21 = .int .i64 j ∧ q = outs.length - j ∧ Sat e w (ownS 37 6 Msg.cs t13 (spreadL x.w.Parents x.w.Feds f seq now body (outs.take j)) :: blk b 27 x.cs :: L)) outs.length
    ⟨0, Nat.zero_le _, rfl, rfl, h1b⟩ ?_
  rintro q t13 _ w g ⟨j, hj, rfl, rfl, h2⟩ hg
  refine lnS_rd h2 (k + 2) (by simpa using hk2) hr2 ?_
  refine lt_c (fun c0 => iff_t ?_) (fun c0 => iff_f ?_)
  · obtain ⟨o, hoj⟩ := get_of_lt (l := outs) (j := j) (by omega)
    obtain ⟨o1, o2, o3⟩ := ho o (List.mem_of_getElem? hoj)
    have hlen : (outs.take j).length = j := by rw [List.length_take]; omega
    have hsn : spreadL x.w.Parents x.w.Feds f seq now body (outs.take (j + 1)) = spreadL x.w.Parents x.w.Feds f seq now body (outs.take j) ++ (routesL x.w.Parents f o.Class x.w.Feds).map fun to => { sentM f (seq + j) now body o with To := to } := by
      rw [take_snoc hoj, spreadL_snoc, hlen]
    have hsl := spreadL_len x.w.Parents x.w.Feds f seq now body (outs.take j)
    have hfl2 : x.w.Feds.length ≤ 1000 := by simp only [WdX.w, List.length_map]; exact hfl
    rw [hlen] at hsl
    have hsl2 : j * x.w.Feds.length ≤ 1000 * 1000 := Nat.mul_le_mul (by omega) hfl2
    have hi2 : (ownS 37 6 Msg.cs t13 (spreadL x.w.Parents x.w.Feds f seq now body (outs.take j)) :: blk b 27 x.cs :: L)[i + 2]? = some S := by simpa using hi
    have hk3 : (ownS 37 6 Msg.cs t13 (spreadL x.w.Parents x.w.Feds f seq now body (outs.take j)) :: blk b 27 x.cs :: L)[k + 2]? = some S2 := by simpa using hk2
    refine add_s (by omega) (by omega) ?_
    refine ixS_rd h2 (k + 2) hk3 hr2 (fun _ => rfl) hoj fun a ha => ?_
    refine ldN_of h2 (k + 2) hk3 ha rfl ?_
    refine ref07_Sent_s h2 fun w5 h5 => ?_
    refine al_s (cs := Msg.zero.cs) h5 rfl fun tm w6 h6 => ?_
    generalize hm : sentM f (seq + j) now body o = m at hsn h6 ⊢
    have hmc : m.Class = o.Class := by rw [← hm]; rfl
    refine stN_at h6 0 rfl (vs := m.cs) rfl rfl (by decide) (ints_flat _) (cs' := m.cs) (by rfl) fun w7 h7 => ?_
    refine ldN_at h7 2 (vs := x.cs) rfl (by rfl) rfl ?_
    refine fld_at (ld1_at h7 0 rfl (v := .int .i64 m.Class) rfl ?_)
    rw [hmc]
    refine ref08_Routes_s (x := x) (i + 3) (by simpa using hi) h7 hr hs ht ⟨o1, o2⟩ fun tv w8 h8 => ?_
    generalize hrt : routesL x.w.Parents f o.Class x.w.Feds = rt at hsn h8 ⊢
    have hrtl : rt.length ≤ 1000 := by rw [← hrt]; exact Nat.le_trans (routesL_len _ _ _ _) hfl2
    refine lpi2 (fun q t13 t40 w => ∃ (n : Nat) (m' : Msg), n ≤ rt.length ∧ t40 = .int .i64 n ∧ q = rt.length - n ∧ (∀ to, { m' with To := to } = { m with To := to }) ∧
        Sat e w (ownS 37 6 Msg.cs t13 (spreadL x.w.Parents x.w.Feds f seq now body (outs.take j) ++ (rt.take n).map fun to => { m with To := to }) :: ownS 3 1 (intsK .i64) tv rt :: blk tm 37 m'.cs :: blk b 27 x.cs :: L)) rt.length
      ⟨0, m, Nat.zero_le _, rfl, rfl, fun _ => rfl, by simpa using h8.selR [_, _, _, _] [_, _, _, _] [2, 0, 1, 3] (by decide) rfl⟩ ?_
    rintro q t13' _ w g2 ⟨n, m', hn, rfl, rfl, hmm, h9⟩ hg2
    refine lnS_rd h9 1 rfl (fun g hg => own_rd hg) ?_
    refine lt_c (fun c1 => iff_t ?_) (fun c1 => iff_f ?_)
    · obtain ⟨to, hto⟩ := get_of_lt (l := rt) (j := n) (by omega)
      refine ixS_rd h9 1 rfl (fun g hg => own_rd hg) (fun _ => rfl) hto fun a ha => ?_
      refine ld1_of h9 1 rfl ha (v := .int .i64 to) rfl ?_
      refine fld_at (stN_at h9 2 rfl (vs := ints [to]) rfl rfl (Nat.le_of_ble_eq_true rfl) (ints_flat _) (cs' := ({ m' with To := to } : Msg).cs) (by rfl) fun w10 h10 => ?_)
      refine ldN_at h10 2 (vs := ({ m' with To := to } : Msg).cs) rfl (by rfl) rfl ?_
      refine push1 te_33 (f := Msg.cs) (fun _ => rfl) (fun _ => ints_flat _) h10 (x := { m' with To := to }) rfl (by rw [List.length_append, List.length_map, List.length_take]; omega) fun v' w11 h11 => ?_
      refine inc_s (by omega) ?_
      refine hg2 _ _ _ _ (by omega) ⟨n + 1, { m' with To := to }, by omega, rfl, rfl, fun to' => hmm to', ?_⟩
      rw [take_snoc hto, List.map_append, ← List.append_assoc, List.map_singleton, ← hmm to]
      exact h11
    · have en : n = rt.length := by omega
      rw [en, List.take_length, ← hsn] at h9
      refine inc_s (by omega) ?_
      exact hg _ _ _ _ (by omega) ⟨j + 1, by omega, rfl, rfl, h9.selR [_, _, _, _] [_, _] [0, 3] (by decide) rfl⟩
  · have ej : j = outs.length := by omega
    rw [ej, List.take_length] at h2
    exact hk _ _ (h2.selR [_, _] [_] [0] (by decide) rfl)
theorem ref07_Step_s {v : Value} {l : List RuleX} {s c : Int} (hS : Sat e w (S :: R)) (hr : ∀ g, S g → RdRules v l g) (hl : l.length ≤ 1000) (hl2 : ∀ r ∈ l, r.Sends.length ≤ 1000)
    (hk : ∀ v' w', Sat e w' (ownS 87 3 Out.cs v' (stepR (l.map RuleX.r) s c).2 :: S :: R) → K (.tuple #[.int .i64 (stepR (l.map RuleX.r) s c).1, v']) w') : Cl prog 25 #[v, .int .i64 s, .int .i64 c] w K := by
  refine pacelineref07_Step_calls ?_
  unfold pacelineref07_Step
  refine ref07_Find_s 0 rfl hS (fun g hg => (hr g hg).s) (by omega) (fun hno => ?_) (fun j r hj hon hlo => ?_)
  · rw [stepR_none hno] at hk
    refine lt_t (by omega) (iff_t ?_)
    exact hk _ _ (hS.own_nil 87 3 Out.cs)
  · rw [stepR_some hj hon hlo] at hk
    have hrm := List.mem_of_getElem? hj
    refine lt_f (by omega) (iff_f ?_)
    refine bsl0 hS Out.cs fun v0 w1 h1 => ?_
    refine dr_s h1 fun w2 h2 => ?_
    refine ixS_rd h2 1 rfl (fun g hg => (hr g hg).s) (fun _ => rfl) hj fun a ha => ?_
    refine fld_of ha fun a1 ha1 => ?_
    refine ld1_of h2 1 rfl ha1 (v := .int .i64 r.Next) rfl ?_
    refine ixS_rd h2 1 rfl (fun g hg => (hr g hg).s) (fun _ => rfl) hj fun a2 ha2 => ?_
    refine fld_of ha2 fun a3 ha3 => ?_
    refine ld1_of h2 1 rfl ha3 (v := r.sv) rfl ?_
    refine apS_ownM te_61 und_61 (f := Out.cs) (m := r.Sends) (fun _ => rfl) (fun _ _ => ints_flat _) h2 (fun g hg => (hr g hg).e r hrm) (by have := hl2 r hrm; simp; omega) fun v' w6 h6 => ?_
    rw [List.nil_append] at h6
    exact ⟨ld1_of h6 1 rfl ha1 (v := .int .i64 r.Next) rfl ⟨rfl, rfl⟩, hk _ _ h6⟩

end Go.Proofs.YtbopajpmadlmhaaGreat
namespace Go.Proofs.YtbopajpmadlmhaaGreat
open Go Go.E
set_option maxRecDepth 100000
variable {e w : World} {L Q : List HP} {K : KV} {S S2 : HP}

end Go.Proofs.YtbopajpmadlmhaaGreat
namespace Go.Proofs.YtbopajpmadlmhaaGreat
open Go Go.E
set_option maxRecDepth 100000
variable {e w : World} {L Q : List HP} {K : KV} {S S2 : HP}

theorem Sat.unpick {X : HP} {l : List HP} (i : Nat) (hi : l[i]? = some S) (h : Sat e w (X :: S :: l.eraseIdx i)) : Sat e w (X :: l) := h.perm (List.Perm.cons X (pick_perm l i S hi).symm)
end Go.Proofs.YtbopajpmadlmhaaGreat
end
