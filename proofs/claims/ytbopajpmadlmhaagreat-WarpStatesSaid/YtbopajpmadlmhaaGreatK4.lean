/- Texts of the proof, joined: PastC, Errs. Conditions: none. -/
import Derived.Test.YtbopajpmadlmhaaGreatK3
import Derived.Stop.Asserts
import Derived.Lib.IfaceEq
section
namespace Go.Proofs.YtbopajpmadlmhaaGreat
open Go Go.E
set_option maxRecDepth 100000
variable {e w : World} {L Q R : List HP} {K : KV} {S S2 : HP}

abbrev DE (v : Value) (xs : List EnX) : HP := ownS 113 10 EnX.cs v xs
theorem cloneE_s {v : Value} {l : List EnX} (i : Nat) (hi : L[i]? = some S) (hl : l.length ≤ 1000000) (hff : ∀ x ∈ l, flat x.ov = true) (hS : Sat e w L) (hr : ∀ g, S g → rdS 10 EnX.cs v l g)
    (hk : ∀ v' w', Sat e w' (DE v' l :: L) → K v' w') : Cl prog 120 #[v] w K := by
  refine slices_Clone_past_Entry_past_Entry_calls ?_
  unfold slices_Clone_past_Entry_past_Entry
  have h0 := hS.pick i hi
  obtain ⟨A, c, rfl, _⟩ := h0.shape 0 rfl hr
  cases A with
  | none =>
    refine ex_oV (w' := w) (v := .bool true) (by kernel_rfl) ?_
    obtain rfl := rd_nil h0 hr
    exact iff_t (hk _ _ (unpick hi (h0.own_nil 113 10 EnX.cs)))
  | some a =>
    refine ex_oV (w' := w) (v := .bool false) (by kernel_rfl) ?_
    refine iff_f ?_
    refine bsl0 h0 EnX.cs fun v1 w2 h2 => ?_
    refine apS_ownM te_115 und_115 (f := EnX.cs) (fun _ => rfl) (fun x hx => EnX.flat (hff x hx)) h2 hr (by simp; omega) fun v2 w3 h3 => ?_
    rw [List.nil_append] at h3
    exact hk _ _ (unpick hi h3)
theorem reverseE_s {v : Value} {xs : List EnX} (hl : xs.length ≤ 1000000) (hff : ∀ x ∈ xs, flat x.ov = true) (hS : Sat e w (DE v xs :: Q)) (hk : ∀ w', Sat e w' (DE v xs.reverse :: Q) → K (.tuple #[]) w') :
    Cl prog 173 #[v] w K := by
  refine slices_Reverse_past_Entry_past_Entry_calls ?_
  unfold slices_Reverse_past_Entry_past_Entry
  refine lnS_rd hS 0 rfl (fun g hg => own_rd hg) ?_
  refine sub_s (by omega) (by omega) ?_
  refine lpi2 (fun q t2 t3 w => ∃ (i : Nat) (l : List EnX), 2 * i ≤ xs.length ∧ t2 = .int .i64 i ∧ t3 = .int .i64 ((xs.length : Int) - 1 - i) ∧ q = xs.length - i ∧ l.length = xs.length ∧ (∀ p, p < xs.length → l[p]? = if p < i ∨ xs.length ≤ p + i then xs[xs.length - 1 - p]? else xs[p]?) ∧ Sat e w (DE v l :: Q)) xs.length
    ⟨0, xs, by omega, rfl, by rw [Int.natCast_zero, Int.sub_zero], rfl, rfl, fun p hp => by rw [if_neg (by omega)], hS⟩ ?_
  rintro q _ _ w g ⟨i, l, hi2, rfl, rfl, rfl, hl2, hget, h2⟩ hg
  refine lt_c (fun c => iff_t ?_) (fun c => iff_f ?_)
  · obtain ⟨j, hj⟩ : ∃ j : Nat, (xs.length : Int) - 1 - i = j := ⟨xs.length - 1 - i, by omega⟩
    rw [hj] at c ⊢
    have hij : i < j := by omega
    have hjl : j = xs.length - 1 - i := by omega
    have gi := hget i (by omega)
    have gj := hget j (by omega)
    rw [if_neg (by omega)] at gi gj
    obtain ⟨x, hx⟩ := get_of_lt (l := xs) (j := i) (by omega)
    obtain ⟨y, hy⟩ := get_of_lt (l := xs) (j := j) (by omega)
    rw [hx] at gi
    rw [hy] at gj
    have fx := hff x (List.mem_of_getElem? hx)
    have fy := hff y (List.mem_of_getElem? hy)
    refine dr_s h2 fun w3 h3 => ?_
    refine ixS_rd h3 0 rfl (fun g hg => own_rd hg) (fun _ => rfl) gj fun a ha => ldN_of h3 0 rfl ha rfl ?_
    refine ixS_rd h3 0 rfl (fun g hg => own_rd hg) (fun _ => rfl) gi fun a ha => ldN_of h3 0 rfl ha rfl ?_
    refine st_own' h3 0 rfl (fun _ => rfl) (by omega) (x := y) rfl (EnX.flat fy) fun w4 h4 => ?_
    refine st_own' h4 0 rfl (fun _ => rfl) (by rw [List.length_set]; omega) (x := x) rfl (EnX.flat fx) fun w5 h5 => ?_
    refine add_s (by omega) (by omega) (sub_s (by omega) (by omega) ?_)
    refine hg _ _ _ _ (by omega) ⟨i + 1, (l.set i y).set j x, by omega, by rw [Int.natCast_add]; rfl, by rw [← hj, Int.natCast_add]; congr 1; omega, rfl, by rw [List.length_set, List.length_set]; exact hl2, fun p hp => ?_, h5⟩
    rw [List.getElem?_set, List.getElem?_set]
    by_cases h1 : j = p
    · subst h1
      rw [if_pos rfl, if_pos (by rw [List.length_set]; omega), if_pos (by omega), show xs.length - 1 - j = i from by omega, hx]
    · rw [if_neg h1]
      by_cases h6 : i = p
      · subst h6
        rw [if_pos rfl, if_pos (by omega), if_pos (by omega), ← hjl, hy]
      · rw [if_neg h6, hget p hp]
        by_cases h7 : p < i ∨ xs.length ≤ p + i
        · rw [if_pos h7, if_pos (by omega)]
        · rw [if_neg h7, if_neg (by omega)]
  · have he : l = xs.reverse := by
      apply List.ext_getElem?
      intro p
      by_cases hp : p < xs.length
      · rw [hget p hp, List.getElem?_reverse hp]
        by_cases h7 : p < i ∨ xs.length ≤ p + i
        · rw [if_pos h7]
        · rw [if_neg h7]
          congr 1
          omega
      · rw [List.getElem?_eq_none (by omega), List.getElem?_eq_none (by rw [List.length_reverse]; omega)]
    rw [he] at h2
    exact hk _ h2
def keepE (k : Key) (l : List En) : List En := l.filter fun x => decide (KeyLt x.m.key k)
def goneL (k : Key) (l : List En) : List En := l.filter fun x => !decide (KeyLt x.m.key k)
theorem PastOk.sub {l l' : List En} (h : PastOk l) (s : l'.Sublist l) : PastOk l' := ⟨h.up.sublist s, Nat.le_trans s.length_le h.len, fun x hx => h.outs x (s.subset hx)⟩
theorem cut_en {P : En → Bool} {xs : List EnX} {l : List En} {m : Nat} (he : xs.map EnX.e = l) (h1 : ∀ x ∈ xs.take m, P x.e = true) (h2 : ∀ x ∈ xs.drop m, P x.e = false) :
    (xs.take m).map EnX.e = l.filter P ∧ (xs.drop m).map EnX.e = l.filter fun x => !P x := by
  subst he
  constructor
  · conv => rhs; rw [← List.take_append_drop m xs]
    rw [List.map_append, List.filter_append, List.filter_eq_self.2 fun x hx => by obtain ⟨y, hy, rfl⟩ := List.mem_map.1 hx; exact h1 y hy, List.filter_eq_nil_iff.2 fun x hx => by obtain ⟨y, hy, rfl⟩ := List.mem_map.1 hx; rw [h2 y hy]; decide, List.append_nil]
  · conv => rhs; rw [← List.take_append_drop m xs]
    rw [List.map_append, List.filter_append, List.filter_eq_nil_iff.2 fun x hx => by obtain ⟨y, hy, rfl⟩ := List.mem_map.1 hx; rw [h1 y hy]; decide, List.filter_eq_self.2 fun x hx => by obtain ⟨y, hy, rfl⟩ := List.mem_map.1 hx; rw [h2 y hy]; rfl, List.nil_append]
theorem up_at {xs : List EnX} {l : List En} (he : xs.map EnX.e = l) (hp : PastOk l) {i j : Nat} {x y : EnX} (hij : i ≤ j) (hx : xs[i]? = some x) (hy : xs[j]? = some y) : x = y ∨ KeyLt x.m.key y.m.key := by
  rcases Nat.eq_or_lt_of_le hij with rfl | hlt
  · rw [hx] at hy; exact .inl (Option.some.inj hy)
  · right
    subst he
    have h1 := List.pairwise_map.1 hp.up
    obtain ⟨hi', rfl⟩ := List.getElem?_eq_some_iff.1 hx
    obtain ⟨hj', rfl⟩ := List.getElem?_eq_some_iff.1 hy
    exact List.pairwise_iff_getElem.1 h1 i j hi' hj' hlt

theorem past_Back_s {p : Nat} {fl : Int} {l : List En} {k : Key} (hS : Sat e w (IsPast p fl l :: Q)) (hk : ∀ v w', Sat e w' (IsEns v (goneL k l).reverse :: IsPast p fl (keepE k l) :: Q) → K v w') :
    Cl prog 146 #[.pointer (some ⟨p, 0, none⟩), .agg k.cs.toArray] w K := by
  refine past_Past_Back_calls ?_
  unfold past_Past_Back
  obtain ⟨lv, xs, hp, h0⟩ := past_of hS
  have hxl : xs.length ≤ 64 := by have := hp.2.len; rw [← hp.1, List.length_map] at this; exact this
  have hfl : ∀ x ∈ xs, flat x.ov = true := fun x hx => en_flat 2 h0 rfl hx
  refine al_s (cs := k.cs) h0 rfl fun b w1 h1 => ?_
  refine ldN_at h1 0 (vs := k.cs) rfl (by rfl) rfl ?_
  refine many_s (P := fun x => decide (KeyLt x.m.key k)) hxl ⟨rfl, rfl⟩ (fun i j x y hij hx hy hP => ?_) (fun x w L K h hk => aheadF_s x k h hk) (h1.selR [_, _, _, _] [_, _, _, _] [1, 2, 3, 0] (by decide) rfl) fun m w2 hm hlo hhi h2 => ?_
  · rw [decide_eq_true_iff] at *
    rcases up_at hp.1 hp.2 hij hx hy with rfl | hlt
    · exact hP
    · exact hlt.trans hP
  obtain ⟨c1, c2⟩ := cut_en (P := fun x => decide (KeyLt x.m.key k)) hp.1 hlo hhi
  refine ncP_p (fld_at (ld1_at h2 0 rfl (v := lv) rfl ?_))
  refine slc_from h2 1 rfl (fun g hg => own_rd hg) (fun _ => rfl) hm fun v1 hv1 => ?_
  refine cloneE_s 1 rfl (by rw [List.length_drop]; omega) (fun x hx => hfl x (List.mem_of_mem_drop hx)) h2 hv1 fun v2 w3 h3 => ?_
  refine reverseE_s (by rw [List.length_drop]; omega) (fun x hx => hfl x (List.mem_of_mem_drop hx)) h3 fun w4 h4 => ?_
  refine ncP_p (fld_at (ld1_at h4 1 rfl (v := lv) rfl ?_))
  refine slc_own h4 2 rfl (fun _ => rfl) hm fun v3 h5 => ?_
  replace h5 : Sat e w4 (DE v2 (xs.drop m).reverse :: blk p 157 [.int .i64 fl, lv] :: DE v3 (xs.take m) :: sepL (xs.map eOwn) :: blk b 35 k.cs :: Q) := h5
  have q3 := h5.own_cells 2 rfl
  refine ncP_p (fld_at (stN_at h5 1 rfl (vs := [v3]) q3.1 rfl (Nat.le_of_ble_eq_true rfl) (fun c hc => by rw [List.mem_singleton.1 hc]; exact q3.2) (cs' := [.int .i64 fl, v3]) (by rfl) fun w5 h6 => ?_))
  replace h6 : Sat e w5 (DE v2 (xs.drop m).reverse :: blk p 157 [.int .i64 fl, v3] :: DE v3 (xs.take m) :: sepL (xs.map eOwn) :: blk b 35 k.cs :: Q) := h6
  rw [show xs.map eOwn = (xs.take m).map eOwn ++ (xs.drop m).map eOwn from by rw [← List.map_append, List.take_append_drop]] at h6
  have h7 := sepL_parts (h6.pick 3 rfl)
  have h8 := sepL_perm (b := (xs.drop m).reverse.map eOwn) (by rw [List.map_reverse]; exact (List.reverse_perm _).symm) h7.swap
  replace h8 : Sat e w5 (sepL ((xs.drop m).reverse.map eOwn) :: sepL ((xs.take m).map eOwn) :: DE v2 (xs.drop m).reverse :: blk p 157 [.int .i64 fl, v3] :: DE v3 (xs.take m) :: blk b 35 k.cs :: Q) := h8
  have h9 := past_mk (fl := fl) (lv := v3) (xs := xs.take m) (l := keepE k l) ⟨c1, hp.2.sub List.filter_sublist⟩ (h8.selR [_, _, _, _, _, _] [_, _, _, _, _] [3, 4, 1, 2, 0] (by decide) rfl)
  have h10 := ens_mk (v := v2) (xs := (xs.drop m).reverse) (h9.selR [_, _, _] [_, _, _] [1, 2, 0] (by decide) rfl)
  rw [show (xs.drop m).reverse.map EnX.e = (goneL k l).reverse from by rw [List.map_reverse, c2]; rfl] at h10
  exact hk _ _ h10
end Go.Proofs.YtbopajpmadlmhaaGreat
end
section
namespace Go.Proofs.YtbopajpmadlmhaaGreat
open Go Go.E
set_option maxRecDepth 100000
variable {e w : World} {L Q R : List HP} {K : KV} {S : HP}

theorem bO_run {op : BinOp} {t : TypeId} {xo yo : Operand} {x y v : Value} (h1 : (eqGuard op t xo yo x y).run prog w = .ok () w) (h2 : (binOp op t x y).run prog w = .ok v w) (hk : K v w) : bO prog op t xo yo x y w K :=
  ex_oV (w' := w) (v := v) (by simp only [Sem.run_bind, h1, Result.andThen_ok, h2]) hk
noncomputable def lacksB (t a : TypeId) : Bool := match prog.underlying a, prog.info? t, prog.info? a with
  | some (.interface want), some i, some j => !(Go.lacking want i.methods).isEmpty && (match j.zero with | some .nilIface => true | _ => false)
  | _, _, _ => false
noncomputable def hasB (t a : TypeId) : Bool := match prog.underlying a, prog.info? t with
  | some (.interface want), some i => (Go.lacking want i.methods).isEmpty
  | _, _ => false
theorem tyA_lacks {t a xt : TypeId} {v : Value} (h : lacksB t a = true) (hk : K (.tuple #[.nilIface, .bool false]) w) : tyA prog (.iface t v) xt a true w K := by
  unfold lacksB at h
  split at h
  · rename_i want i j hu hi hj
    rw [Bool.and_eq_true] at h
    have hz : j.zero = some .nilIface := by
      have := h.2
      split at this
      · assumption
      · cases this
    refine ex_oV (w' := w) (v := .tuple #[.nilIface, .bool false]) ?_ hk
    exact run_typeAssert_lacks hu hi hj hz fun e => by rw [e] at h; simp at h
  · cases h
theorem tyA_has {t a xt : TypeId} {v : Value} (h : hasB t a = true) (hk : K (.tuple #[.iface t v, .bool true]) w) : tyA prog (.iface t v) xt a true w K := by
  unfold hasB at h
  split at h
  · rename_i want i hu hi
    refine ex_oV (w' := w) (v := .tuple #[.iface t v, .bool true]) ?_ hk
    exact run_typeAssert_has hu hi (List.isEmpty_iff.1 h)
  · cases h
theorem isTypeOf (v : Value) (w : World) : (Extern.ReflectliteType.typeOf #[.iface 30 v]).run prog w = .ok (.iface 241 (.agg #[typeHandle prog 30])) w := by kernel_rfl
theorem typeOf_s {n : Value} (hk : K (.iface 241 (.agg #[typeHandle prog 30])) w) : Cl prog 150 #[.iface 30 n] w K := by
  have h8 := @run_callFunc_extern prog 150 _ Extern.ReflectliteType.typeOf Tryz.func150 (by kernel_rfl) (by kernel_rfl) (by kernel_rfl) (by kernel_rfl)
  unfold Cl
  refine ex_congr (s' := oV (pure (.iface 241 (.agg #[typeHandle prog 30])))) ?_ (ex_oV (w' := w) rfl hk)
  rw [h8]
  unfold oV
  simp only [Sem.run_bind, isTypeOf, Result.andThen_ok, Sem.run_pure]
theorem clI_run {P : Program} {x r : Value} {name : String} {args : Array Value} {w : World} {K : KV} (h : (invoke (.fn (.method name) #[]) (#[x] ++ args)).run P w = .ok (.value r) w) (hk : K r w) : clI P x name args w K := by
  unfold clI ex
  rw [h]
  exact hk
theorem runComp (w : World) : (invoke (.fn (.method "Comparable") #[]) (#[.iface 241 (.agg #[typeHandle prog 30])] ++ #[])).run prog w = .ok (.value (.bool true)) w := by kernel_rfl
theorem comp_s (hk : K (.bool true) w) : clI prog (.iface 241 (.agg #[typeHandle prog 30])) "Comparable" #[] w K :=
  @clI_run prog (.iface 241 (.agg #[typeHandle prog 30])) (.bool true) "Comparable" #[] w K (runComp w) hk

/-! ### The node's own error -/
abbrev erV (t : Nat) : Value := .iface 206 (.pointer (some ⟨t, 0, none⟩))
abbrev noV (n : Int) : Value := .iface 30 (.int .i64 n)
def BT (t : Nat) (k : Key) (er : Int) : HP := blk t 208 (k.cs ++ [noV er])
theorem eqE_nil {n : Int} {xo yo : Operand} (hk : K (.bool false) w) : bO prog .eql 103 xo yo (noV n) .nilIface w K := ex_oV (w' := w) (v := .bool false) (by kernel_rfl) hk
theorem eqT_nil {t : Nat} {xo yo : Operand} (hk : K (.bool false) w) : bO prog .eql 103 xo yo (erV t) .nilIface w K := ex_oV (w' := w) (v := .bool false) (by kernel_rfl) hk
theorem neT_nil {t : Nat} {xo yo : Operand} (hk : K (.bool true) w) : bO prog .neq 103 xo yo (erV t) .nilIface w K := ex_oV (w' := w) (v := .bool true) (by kernel_rfl) hk
theorem neN_nil {a : Nat} (hk : K (.bool false) w) : bO prog .neq 103 (.tmp a) (.const .nilIface) .nilIface .nilIface w K := ex_oV (w' := w) (v := .bool false) (by kernel_rfl) hk
theorem eqN_nil {a : Nat} (hk : K (.bool true) w) : bO prog .eql 103 (.tmp a) (.const .nilIface) .nilIface .nilIface w K := ex_oV (w' := w) (v := .bool true) (by kernel_rfl) hk
theorem eqN_E {n : Int} {xo yo : Operand} (hk : K (.bool false) w) : bO prog .eql 103 xo yo .nilIface (noV n) w K := ex_oV (w' := w) (v := .bool false) (by kernel_rfl) hk
theorem eqT_E {t : Nat} {n : Int} {xo yo : Operand} (hk : K (.bool false) w) : bO prog .eql 103 xo yo (erV t) (noV n) w K := ex_oV (w' := w) (v := .bool false) (by kernel_rfl) hk
theorem eqE_E {a b : Int} {xo yo : Operand} (hk : K (.bool (a == b)) w) : bO prog .eql 103 xo yo (noV a) (noV b) w K :=
  bO_run (by kernel_rfl) (Lib.run_eql_iface_int w a b Tryz.underlying103 (by kernel_rfl) Tryz.underlying30) hk
theorem is_s {t : Nat} {k : Key} {er n : Int} (i : Nat) (hi : L[i]? = some (BT t k er)) (hS : Sat e w L) (hk : K (.bool (er == n)) w) : Cl prog 151 #[erV t, noV n, .bool true] w K := by
  refine errors_is_calls ?_
  unfold errors_is
  refine lpi1 (fun q x w' => ((q = 1 ∧ x = erV t) ∨ (q = 0 ∧ x = noV er)) ∧ w' = w) 1 ⟨.inl ⟨rfl, rfl⟩, rfl⟩ ?_
  rintro q x w' g ⟨hx, rfl⟩ hg
  refine gd_tt (gd_tt (gd_tt ?_))
  rcases hx with ⟨rfl, rfl⟩ | ⟨rfl, rfl⟩
  · refine eqT_E (pk_t (iff_f ?_))
    refine tyA_lacks (by kernel_rfl) (xt_02 (xt_12 ?_))
    refine gd_ft (gd_ft (gd_ft (pk_f (iff_f ?_))))
    refine tyA_has (by kernel_rfl) (xt_12 (xt_02 (iff_t ?_)))
    refine clI_s (f := 230) (rcv := .pointer (some ⟨t, 0, none⟩)) (by kernel_rfl) ?_
    refine warp_trouble_Unwrap_calls (t0 := .pointer (some ⟨t, 0, none⟩)) ?_
    unfold warp_trouble_Unwrap
    refine ncP_p (fld_at (ld1_at hS i hi (v := noV er) rfl ?_))
    refine eqE_nil (iff_f ?_)
    exact hg _ _ _ (by omega) ⟨.inr ⟨rfl, rfl⟩, rfl⟩
  · refine eqE_E (pk_t ?_)
    cases hb : (er == n) with
    | true => rw [hb] at hk; exact iff_t hk
    | false =>
      rw [hb] at hk
      refine iff_f (tyA_lacks (by kernel_rfl) (xt_02 (xt_12 ?_)))
      refine gd_ft (gd_ft (gd_ft (pk_f (iff_f ?_))))
      refine tyA_lacks (by kernel_rfl) (xt_12 (xt_02 (iff_f ?_)))
      exact tyA_lacks (by kernel_rfl) (xt_12 (xt_02 (iff_f hk)))
theorem Is_s {t : Nat} {k : Key} {er n : Int} (i : Nat) (hi : L[i]? = some (BT t k er)) (hS : Sat e w L) (hk : K (.bool (er == n)) w) : Cl prog 105 #[erV t, noV n] w K := by
  refine errors_Is_calls ?_
  unfold errors_Is
  refine eqT_nil (gd_ff (gd_ff (eqE_nil (pk_f (iff_f ?_)))))
  exact typeOf_s (comp_s (is_s i hi hS hk))
theorem Is_nil {n : Int} (hk : K (.bool false) w) : Cl prog 105 #[.nilIface, noV n] w K := by
  refine errors_Is_calls ?_
  unfold errors_Is
  exact eqN_nil (gd_tf (gd_tf (pk_t (iff_t (eqN_E hk)))))
def oneErr (er : Int) : Prop := er = 110 ∨ er = 3 ∨ er = 4 ∨ er = 2
theorem errno_s {t : Nat} {k : Key} {er : Int} (hS : Sat e w (BT t k er :: Q)) (he : oneErr er) (hk : ∀ w', Sat e w' Q → K (.int .i64 er) w') : Cl prog 50 #[erV t] w K := by
  refine warp_errno_calls ?_
  unfold warp_errno
  refine bsl_s (ints [110, 3, 4, 2]) hS (by kernel_rfl) fun b w2 h2 => ?_
  have hr : ∀ g, blk b 30 (ints [110, 3, 4, 2]) g → rdS 1 (intsK .i64) (.slice (some ⟨b, 0, none⟩) 4 4) [110, 3, 4, 2] g := blk_rdn (f := intsK .i64) [110, 3, 4, 2] rfl (Nat.le_refl _)
  refine lnS_rd h2 0 rfl hr ?_
  refine lpi1 (fun q x w' => ∃ j : Nat, x = .int .i64 j ∧ j ≤ 4 ∧ q = 4 - j ∧ (∀ n ∈ [(110 : Int), 3, 4, 2].take j, n ≠ er) ∧ w' = w2) 4 ⟨0, rfl, by omega, rfl, by simp, rfl⟩ ?_
  rintro q x w' g ⟨j, rfl, hj, rfl, hno, rfl⟩ hg
  refine lt_c (fun c => iff_t ?_) (fun c => iff_f ?_)
  · replace c : (j : Int) < 4 := c
    obtain ⟨n, hn⟩ := get_of_lt (l := [(110 : Int), 3, 4, 2]) (j := j) (by simp; omega)
    refine ixS_rd h2 0 rfl hr (fun _ => rfl) hn fun a ha => ld1_of h2 0 rfl ha (v := .int .i64 n) rfl ?_
    refine Is_s 1 rfl h2 ?_
    by_cases hen : er = n
    · rw [beq_iff_eq.2 hen]
      refine iff_t ?_
      rw [← hen]
      exact hk _ h2.drop.drop
    · rw [beq_eq_false_iff_ne.2 hen]
      refine iff_f (inc_s (by omega) ?_)
      refine hg _ _ _ (by omega) ⟨j + 1, rfl, by omega, rfl, fun y hy => ?_, rfl⟩
      rw [take_snoc hn] at hy
      rcases List.mem_append.1 hy with h | h
      · exact hno y h
      · rw [List.mem_singleton.1 h]; exact fun h => hen h.symm
  · exfalso
    replace c : ¬ (j : Int) < 4 := c
    have ej : j = 4 := by omega
    subst ej
    rcases he with rfl | rfl | rfl | rfl
    · exact hno 110 (by decide) rfl
    · exact hno 3 (by decide) rfl
    · exact hno 4 (by decide) rfl
    · exact hno 2 (by decide) rfl
theorem errno_nil (hS : Sat e w Q) (hk : ∀ w', Sat e w' Q → K (.int .i64 0) w') : Cl prog 50 #[.nilIface] w K := by
  refine warp_errno_calls ?_
  unfold warp_errno
  refine bsl_s (ints [110, 3, 4, 2]) hS (by kernel_rfl) fun b w2 h2 => ?_
  have hr : ∀ g, blk b 30 (ints [110, 3, 4, 2]) g → rdS 1 (intsK .i64) (.slice (some ⟨b, 0, none⟩) 4 4) [110, 3, 4, 2] g := blk_rdn (f := intsK .i64) [110, 3, 4, 2] rfl (Nat.le_refl _)
  refine lnS_rd h2 0 rfl hr ?_
  refine lpi1 (fun q x w' => ∃ j : Nat, x = .int .i64 j ∧ j ≤ 4 ∧ q = 4 - j ∧ w' = w2) 4 ⟨0, rfl, by omega, rfl, rfl⟩ ?_
  rintro q x w' g ⟨j, rfl, hj, rfl, rfl⟩ hg
  refine lt_c (fun c => iff_t ?_) (fun c => iff_f (hk _ h2.drop))
  replace c : (j : Int) < 4 := c
  obtain ⟨n, hn⟩ := get_of_lt (l := [(110 : Int), 3, 4, 2]) (j := j) (by simp; omega)
  refine ixS_rd h2 0 rfl hr (fun _ => rfl) hn fun a ha => ld1_of h2 0 rfl ha (v := .int .i64 n) rfl ?_
  refine Is_nil (iff_f (inc_s (by omega) ?_))
  exact hg _ _ _ (by omega) ⟨j + 1, rfl, by omega, rfl, rfl⟩
theorem late_s {k : Key} {er : Int} (hS : Sat e w Q) (hk : ∀ t w', Sat e w' (BT t k er :: Q) → K (erV t) w') : Cl prog 100 #[.agg k.cs.toArray, .int .i64 er] w K := by
  refine warp_late_calls ?_
  unfold warp_late
  refine al_s (cs := k.cs) hS rfl fun b w1 h1 => ?_
  refine ldN_at h1 0 (vs := k.cs) rfl (by rfl) rfl ?_
  refine bld_s (k.cs ++ [noV er]) (by kernel_rfl) ?_
  refine al_s (cs := k.cs ++ [noV er]) h1 rfl fun t w2 h2 => ?_
  exact hk t _ (h2.selR [_, _] [_] [0] (by decide) rfl)
end Go.Proofs.YtbopajpmadlmhaaGreat
end
