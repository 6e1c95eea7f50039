/- The engine, part Y: a range over a function. Conditions: the body is left at its end alone; no operation of the body's and the assignments' regions draws its order. -/
import Derived.Test.YtenglfaeohgkfaaGreatEngO
import Derived.Test.YtenglfaeohgkfaaGreatEngF
namespace Go.E
open Go.RowKit

/-! ### Rounds -/
def Ev.putL (ρ : Ev) : List (Nat × Value) → Ev
  | [] => ρ
  | (t, v) :: l => Ev.putL (ρ.upd t v) l
def bgn (l : Nat) (w : World) (K : World → Prop) : Prop := ∃ r, w.heap[l]? = some (.loop r) ∧ r.state = .ready ∧ K (w.putObj l (.loop { r with state := .busy }))
def edn (l : Nat) (w : World) (K : World → Prop) : Prop := ∃ r, w.heap[l]? = some (.loop r) ∧ K (w.putObj l (.loop { r with state := .ready, pending := none }))
def rdef (D : Nat) (w : World) (K : World → Prop) : Prop := w.heap[D]? = some (.deferred (some [])) ∧ K (w.putObj D (.deferred none))
def noK : KS := ⟨fun _ _ => False, fun _ _ _ => False, fun _ _ => False⟩
/-- One round. -/
def rdW (P : Program) (nt : Nat) (ps : List Nat) (as bd : Code) (ρ : Ev) (l : Nat) (args : Nat → Value) (w : World) (k : World → Prop) : Prop :=
  cw P nt 0 as (lv 0 bd 0 (fun _ => 0)) (fun _ => 0) ⟨fun ρ1 w1 => bgn l w1 fun w2 => cw P nt 0 bd 0 (fun _ => 0) ⟨fun _ w3 => edn l w3 k, fun _ _ _ => False, fun _ _ => False⟩ ρ1 w2, fun _ _ _ => False, fun _ _ => False⟩ (ρ.putL (ps.zip ((List.range ps.length).map args))) w
/-- What is live where rounds begin. -/
def lvR (as bd : Code) : Nat := lv 0 as (lv 0 bd 0 (fun _ => 0)) (fun _ => 0)
structure LoopFacts (nt : Nat) (ps : List Nat) (as bd : Code) (ρ : Ev) (r : Loop) : Prop where
  params : r.params = ps.toArray
  assign : r.assign = as
  body : r.body = bd
  size : r.tmps.size = nt
  agr : ∀ t, (lvR as bd).testBit t = true → r.tmps.getD t undef = ρ t
theorem LoopFacts.turn {nt : Nat} {ps : List Nat} {as bd : Code} {ρ : Ev} {r : Loop} (h : LoopFacts nt ps as bd ρ r) (st : LoopState) (pd : Option Code) : LoopFacts nt ps as bd ρ { r with state := st, pending := pd } :=
  ⟨h.params, h.assign, h.body, h.size, h.agr⟩

theorem foldl_agr {m nt : Nat} : ∀ (l : List (Nat × Value)) (tmps : Array Value) (ρ : Ev), (∀ x ∈ l, x.1 < nt) → AgrD [] nt m { tmps := tmps, defers := [] } ρ →
    AgrD [] nt m { tmps := l.foldl (fun (tmps : Array Value) (x : Nat × Value) => tmps.setIfInBounds x.1 x.2) tmps, defers := [] } (ρ.putL l)
  | [], _, _, _, h => h
  | (t, v) :: l, tmps, ρ, hl, h => by
    refine foldl_agr l (tmps.setIfInBounds t v) (ρ.upd t v) (fun x hx => hl x (List.mem_cons_of_mem _ hx)) ?_
    have h1 := (h.put (d := some t) (v := v) (fun t' ht => by cases ht; exact hl (t, v) List.mem_cons_self)).mono (m' := m) (fun t ht => by simp [ht])
    exact h1

section
variable {P : Program} {w : World} {K : KV}
theorem yield_ex (hm : P.follows .mixedOrders = true) {nt l : Nat} {ps : List Nat} {as bd : Code} {ρ : Ev} {r : Loop} {args : Array Value} (hr : w.heap[l]? = some (.loop r)) (hf : LoopFacts nt ps as bd ρ r) (hs : args.size = ps.length)
    (hps : ps.all (fun t => decide (t < nt)) = true) (hda : noDraw as = true) (hdb : noDraw bd = true) (hoa : cwOk P nt 0 as (lv 0 bd 0 (fun _ => 0)) (fun _ => 0) = true) (hob : cwOk P nt 0 bd 0 (fun _ => 0) = true)
    (h : rdW P nt ps as bd ρ l (fun i => args.getD i undef) w fun w' => K (.bool true) w') : ex P (Instr.yield l args) w K := by
  unfold ex
  rw [run_yield hr (by rw [hf.params]; simpa using hs)]
  show RoundIn Fence.wide 0 P l r.fn _ r.assign r.body w _
  rw [hf.assign, hf.body]
  refine roundIn_of_wpIn trivial ?_
  have hzip : (r.params.zip args).toList = ps.zip args.toList := by rw [hf.params, Array.toList_zip]
  have hargs : (List.range ps.length).map (fun i => args.getD i undef) = args.toList := by
    apply List.ext_getElem
    · simp [hs]
    · intro i h1 h2
      simp at h2
      simp [Array.getD_eq_getD_getElem?, h2]
  unfold rdW at h
  rw [hargs] at h
  have hag : AgrD [] nt (lvR as bd) { tmps := (r.params.zip args).foldl (fun tmps (x : Nat × Value) => tmps.setIfInBounds x.1 x.2) r.tmps, defers := [] } (ρ.putL (ps.zip args.toList)) := by
    rw [← Array.foldl_toList, hzip]
    refine foldl_agr _ _ _ (fun x hx => ?_) ⟨hf.size, rfl, hf.agr⟩
    exact of_decide_eq_true (List.all_eq_true.1 hps x.1 (List.of_mem_zip hx).1)
  refine cw_sound (ro := some l) hm as (lv 0 bd 0 (fun _ => 0)) (fun _ => 0) _ _ _ w _ (.inr hda) hoa hag ?_ ?_ ?_ h
  · rintro ρ1 a1 w1 ⟨r1, h1, h2, h3⟩ ha1 _
    refine ⟨_, run_beginRound h1 h2, ?_⟩
    refine cw_sound (ro := some l) hm bd 0 (fun _ => 0) _ _ _ _ _ (.inr hdb) hob ha1 ?_ ?_ ?_ h3
    · rintro ρ2 a2 w2 ⟨r2, h4, h5⟩ _ _
      exact ⟨_, _, run_endRound none h4, _, rfl, h5⟩
    · rintro _ _ _ _ hF _ _
      exact hF.elim
    · rintro _ _ _ hF _
      exact hF.elim
  · rintro _ _ _ _ hF _ _
    exact hF.elim
  · rintro _ _ _ hF _
    exact hF.elim

/-- The statement. -/
def rfW (P : Program) (gv : Value) (np : Nat) (Bd : Nat → (Nat → Value) → World → (World → Prop) → Prop) (w : World) (Kn : Nat → World → Prop) : Prop :=
  ∀ (LR : Loop → Prop), (∀ r st pd, LR r → LR { r with state := st, pending := pd }) →
    (∀ (r : Loop) (W : World) (l : Nat) (args : Array Value) (K : KV), LR r → W.heap[l]? = some (.loop r) → args.size = np → Bd l (fun i => args.getD i undef) W (fun W' => K (.bool true) W') → ex P (Instr.yield l args) W K) →
    ∀ r, LR r → r.state = .ready → r.pending = none →
    ∃ f2 first captured, gv = .func (.func f2) first captured ∧ hasBody P f2 = true ∧ Cl P f2 (first ++ #[.func (.yield (w.heap.size + 1)) #[] #[]] ++ captured) ((w.alloc (.deferred (some []))).alloc (.loop r)) fun _ w3 =>
      ∃ r', w3.heap[w.heap.size + 1]? = some (.loop r') ∧ r'.state ≠ .busy ∧ r'.pending = none ∧ Kn w.heap.size (w3.putObj (w.heap.size + 1) (.loop { r' with state := .exhausted }))

/-- A function that holds one range over a function. -/
def fnRF (P : Program) (nt : Nat) (rs : List Nat) (A B C E : Code) (g : Operand) (ps : List Nat) (as bd : Code) (args : Array Value) (w : World) (K : KV) : Prop :=
  let rl := bitsL rs
  let lE := lv rl E rl (fun _ => 0)
  let lC := lE ||| bitO g ||| lvR as bd
  let lB := lv rl C lC (fun _ => 0)
  let lA := lv rl B lB (fun _ => 0)
  cw P nt rl A lA (fun _ => 0) ⟨fun ρ w => cw P nt rl B lB (fun _ => 0) ⟨fun ρ w => cw P nt rl C lC (fun _ => 0) ⟨fun ρ w =>
    rfW P (ρ.opd g) ps.length (fun l args W k => rdW P nt ps as bd ρ l args W k) w fun D w =>
      cw P nt rl E rl (fun _ => 0) ⟨fun ρ' w' => rdef D w' fun w'' => K (retV rs ρ') w'', fun _ _ _ => False, fun _ _ => False⟩ ρ w,
    fun _ _ _ => False, fun _ _ => False⟩ ρ w, fun _ _ _ => False, fun _ _ => False⟩ ρ w, fun _ _ _ => False, fun _ _ => False⟩ (Ev.init args) w
def fnOkRF (P : Program) (nt : Nat) (rs : List Nat) (A B C E : Code) (g : Operand) (ps : List Nat) (as bd : Code) : Bool :=
  let rl := bitsL rs
  let lE := lv rl E rl (fun _ => 0)
  let lC := lE ||| bitO g ||| lvR as bd
  let lB := lv rl C lC (fun _ => 0)
  let lA := lv rl B lB (fun _ => 0)
  cwOk P nt rl A lA (fun _ => 0) && cwOk P nt rl B lB (fun _ => 0) && cwOk P nt rl C lC (fun _ => 0) && cwOk P nt rl E rl (fun _ => 0) &&
  ps.all (fun t => decide (t < nt)) && noDraw as && noDraw bd && cwOk P nt 0 as (lv 0 bd 0 (fun _ => 0)) (fun _ => 0) && cwOk P nt 0 bd 0 (fun _ => 0) && (match g with | .tmp _ => true | _ => false)

theorem calls_of_fnRF {f : FuncId} {fn : Func} {args : Array Value} {nt i : Nat} {rs : List Nat} {A B C E : Code} {g : Operand} {ps : List Nat} {as bd : Code} (hm : P.follows .mixedOrders = true)
    (hf : P.funcs[f]? = some fn) (hb : fn.body = some (.seq A (.seq B (.seq (.seq C (.block i (.rangeFunc g ps.toArray as bd))) (.seq E .ret))))) (hn : fn.ntmps = nt) (hr : fn.results = (rs.map ResultVar.tmp).toArray) (hargs : args.size ≤ nt)
    (hok : fnOkRF P nt rs A B C E g ps as bd = true) (h : fnRF P nt rs A B C E g ps as bd args w K) : CallsR P f args w K := by
  unfold fnOkRF at hok
  simp only [Bool.and_eq_true] at hok
  obtain ⟨⟨⟨⟨⟨⟨⟨⟨⟨hA, hB⟩, hC⟩, hE⟩, hps⟩, hda⟩, hdb⟩, hoa⟩, hob⟩, hg⟩ := hok
  refine callsIn_wide (n := 0).1 (callsIn_of_wp_marks hf hb trivial ?_ rfl)
  unfold fnRF at h
  have hno : ∀ {p : Prop}, False → p := fun h => h.elim
  refine wpIn_seq (cw_sound (ro := none) hm A _ _ _ _ _ w _ (.inl rfl) hA (⟨by simp [hn]; omega, rfl, fun t _ => ?_⟩ : AgrD [] nt _ _ (Ev.init args)) ?_ ?_ ?_ h)
  · simp only [Ev.init, Array.getD_eq_getD_getElem?, Array.getElem?_append]
    split
    · rfl
    · rename_i hge
      rw [Array.getElem?_eq_none (xs := args) (by omega)]
      cases hx : (Array.replicate (fn.ntmps - args.size) undef)[t - args.size]? with
      | none => rfl
      | some v =>
        simp only [Array.getElem?_replicate] at hx
        split at hx
        · cases hx; rfl
        · cases hx
  rotate_left
  · exact fun _ _ _ _ hF _ _ => hF.elim
  · exact fun _ _ _ hF _ => hF.elim
  intro ρ1 a1 w1 h1 ha1 _
  refine wpIn_seq (cw_sound (ro := none) hm B _ _ _ _ _ w1 _ (.inl rfl) hB ha1 ?_ ?_ ?_ h1)
  rotate_left
  · exact fun _ _ _ _ hF _ _ => hF.elim
  · exact fun _ _ _ hF _ => hF.elim
  intro ρ2 a2 w2 h2 ha2 _
  refine wpIn_seq (wpIn_seq (cw_sound (ro := none) hm C _ _ _ _ _ w2 _ (.inl rfl) hC ha2 ?_ ?_ ?_ h2))
  rotate_left
  · exact fun _ _ _ _ hF _ _ => hF.elim
  · exact fun _ _ _ hF _ => hF.elim
  intro ρ3 a3 w3 h3 ha3 _
  refine wpIn_block (wpIn_rangeFunc fun fn' _ => ?_)
  have hev : a3.eval g = ρ3.opd g := ha3.opd (l := [g]) (fun t ht => by
    simp only [bitsO, List.foldr_cons, List.foldr_nil, Nat.or_zero] at ht
    simp [ht]) g (by simp)
  obtain ⟨f2, first, captured, hgv, hbody, hcl⟩ := h3 (LoopFacts nt ps as bd ρ3) (fun r st pd hr => hr.turn st pd)
    (fun r W l args K hr hW hs hB => yield_ex hm hW hr hs hps hda hdb hoa hob hB)
    { state := .ready, pending := none, fn := fn', tmps := a3.tmps, params := ps.toArray, assign := as, body := bd, defers := w3.heap.size }
    ⟨rfl, rfl, rfl, ha3.1, fun t ht => ha3.2.2 t (by simp [ht])⟩ rfl rfl
  refine ⟨w3.heap.size + 1, [{ target := .collected w3.heap.size, args := #[] }], ((w3.alloc (.deferred (some []))).alloc (.loop { state := .ready, pending := none, fn := fn', tmps := a3.tmps, params := ps.toArray, assign := as, body := bd, defers := w3.heap.size })), { target := .fn (.func f2) captured, args := first ++ #[.func (.yield (w3.heap.size + 1)) #[] #[]] }, ((w3.alloc (.deferred (some []))).alloc (.loop { state := .ready, pending := none, fn := fn', tmps := a3.tmps, params := ps.toArray, assign := as, body := bd, defers := w3.heap.size })), f2, first ++ #[.func (.yield (w3.heap.size + 1)) #[] #[]] ++ captured, ((w3.alloc (.deferred (some []))).alloc (.loop { state := .ready, pending := none, fn := fn', tmps := a3.tmps, params := ps.toArray, assign := as, body := bd, defers := w3.heap.size })), run_enterLoop_outer fn' a3.tmps ps.toArray as bd, ?_, fun _ _ => trivial, ?_, (fun h => by cases h), callsIn_wide.2 (Calls.mono (Cl.ret hbody hcl) ?_)⟩
  · have he : a3.eval g = .func (.func f2) first captured := hev.trans hgv
    simp only [resolve, he, Deferred.ofValue, List.map_toArray, List.map_cons, List.map_nil]
    rfl
  · exact run_callFunc hbody
  · rintro ev w5 ⟨v, rfl, r', hr1, hr2, hr3, hr4⟩
    rw [hr3] at hr4
    refine ⟨none, _, by rw [run_endLoop hr1 hr2, hr3], ?_⟩
    show Exit.inBlock _ _ .normal _ _
    refine wpIn_seq (cw_sound (ro := none) (ds := [{ target := .collected w3.heap.size, args := #[] }]) hm E _ _ _ _ _ _ _ (.inl rfl) hE ?_ ?_ ?_ ?_ hr4)
    · exact ⟨ha3.1, by rw [ha3.2.1]; rfl, fun t ht => ha3.2.2 t (by simp [ht])⟩
    · rintro ρ4 a4 w6 ⟨hD, hK⟩ ha4 _
      refine wpIn_ret ?_
      show LeavesInM _ _ _ _ _ _ a4.defers _ _
      rw [ha4.2.1]
      refine ⟨by simp, .inl ⟨_, _, rfl, run_takeDeferred hD, ?_⟩⟩
      exact ⟨_, run_results hr (⟨ha4.1, rfl, ha4.2.2⟩ : AgrD [] nt _ { a4 with defers := [] } ρ4) (fun t ht => bitsL_mem ht) _, _, rfl, hK⟩
    · exact fun _ _ _ _ hF _ _ => hF.elim
    · exact fun _ _ _ hF _ => hF.elim

/-- The same of a body as it stands. -/
def fnRFb (P : Program) (nt : Nat) (rs : List Nat) (b : Option Code) (args : Array Value) (w : World) (K : KV) : Prop :=
  match b with
  | some (.seq A (.seq B (.seq (.seq C (.block _ (.rangeFunc g ps as bd))) (.seq E .ret)))) => fnRF P nt rs A B C E g ps.toList as bd args w K
  | _ => False
def fnOkRFb (P : Program) (nt : Nat) (rs : List Nat) (b : Option Code) : Bool :=
  match b with
  | some (.seq A (.seq B (.seq (.seq C (.block _ (.rangeFunc g ps as bd))) (.seq E .ret)))) => fnOkRF P nt rs A B C E g ps.toList as bd
  | _ => false
theorem calls_of_fnRFb {f : FuncId} {fn : Func} {args : Array Value} {nt : Nat} {rs : List Nat} (hm : P.follows .mixedOrders = true)
    (hf : P.funcs[f]? = some fn) (hn : fn.ntmps = nt) (hr : fn.results = (rs.map ResultVar.tmp).toArray) (hargs : args.size ≤ nt)
    (hok : fnOkRFb P nt rs fn.body = true) {X : Prop} (hX : X = fnRFb P nt rs fn.body args w K) (h : X) : CallsR P f args w K := by
  rw [hX] at h
  unfold fnRFb at h
  unfold fnOkRFb at hok
  split at h
  · rename_i A B C j g ps as bd E hb
    rw [hb] at hok
    exact calls_of_fnRF (i := j) (ps := ps.toList) hm hf (by rw [hb, Array.toArray_toList]) hn hr hargs hok h
  · exact h.elim

/-! ### The rules -/
/-- A loop's record. -/
def lpC (LR : Loop → Prop) (l : Nat) (st : LoopState) : HP := fun h => (∀ r st pd, LR r → LR { r with state := st, pending := pd }) ∧ ∃ r, LR r ∧ r.state = st ∧ r.pending = none ∧ h l = some (.loop r)
def dfC (D : Nat) : HP := fun h => h D = some (.deferred (some []))
variable {e : World} {R : List HP} {LR : Loop → Prop} {l : Nat}
theorem lp_open {st : LoopState} (hS : Sat e w (lpC LR l st :: R)) : (∀ r st pd, LR r → LR { r with state := st, pending := pd }) ∧ ∃ r, LR r ∧ r.state = st ∧ r.pending = none ∧ Sat e w ((fun h => h l = some (.loop r)) :: R) := by
  obtain ⟨h1, h2, d, s1, s2, ⟨hc, r, h3, h4, h5, h6⟩, h7⟩ := hS.mem
  exact ⟨hc, r, h3, h4, h5, hS.of_mem fun _ => ⟨h1, h2, d, s1, s2, h6, h7⟩⟩
theorem one_heap {o : Obj} {b : Nat} (hS : Sat e w ((fun h => h b = some o) :: R)) : w.heap[b]? = some o := by
  obtain ⟨g, hg, hs⟩ := hS.get 0 rfl
  exact hs _ _ hg
theorem bgn_s {K : World → Prop} (hS : Sat e w (lpC LR l .ready :: R)) (hk : ∀ w', Sat e w' (lpC LR l .busy :: R) → K w') : bgn l w K := by
  obtain ⟨hc, r, h1, h2, h3, h4⟩ := lp_open hS
  refine ⟨r, one_heap h4, h2, hk _ ?_⟩
  have h5 : Sat e (w.putObj l (.loop { r with state := .busy })) ((fun h => h l = some (.loop { r with state := .busy })) :: R) := h4.setB
  exact h5.imp fun g hg => ⟨hc, _, hc r .busy r.pending h1, rfl, h3, hg⟩
theorem edn_s {K : World → Prop} (hS : Sat e w (lpC LR l .busy :: R)) (hk : ∀ w', Sat e w' (lpC LR l .ready :: R) → K w') : edn l w K := by
  obtain ⟨hc, r, h1, h2, h3, h4⟩ := lp_open hS
  refine ⟨r, one_heap h4, hk _ ?_⟩
  have h5 : Sat e (w.putObj l (.loop { r with state := .ready, pending := none })) ((fun h => h l = some (.loop { r with state := .ready, pending := none })) :: R) := h4.setB
  exact h5.imp fun g hg => ⟨hc, _, hc r .ready none h1, rfl, rfl, hg⟩
theorem rdef_s {K : World → Prop} {D : Nat} (hS : Sat e w (dfC D :: R)) (hk : ∀ w', Sat e w' R → K w') : rdef D w K := by
  refine ⟨one_heap (o := .deferred (some [])) hS, hk _ ?_⟩
  have h5 : Sat e (w.putObj D (.deferred none)) ((fun h => h D = some (.deferred none)) :: R) := Sat.setB (o := .deferred (some [])) hS
  exact h5.drop
theorem rf_s {gv : Value} {np : Nat} {Bd : Nat → (Nat → Value) → World → (World → Prop) → Prop} {Kn : Nat → World → Prop} {f2 : FuncId} {captured : Array Value} (hg : gv = .func (.func f2) #[] captured) (hb : hasBody P f2 = true) (hS : Sat e w R)
    (h : ∀ (l D : Nat) (LR : Loop → Prop) (w1 : World) (Kf : World → Prop),
      (∀ {e W : World} {R : List HP} {args : Array Value} {K : KV}, Sat e W (lpC LR l .ready :: R) → args.size = np → Bd l (fun i => args.getD i undef) W (fun W' => K (.bool true) W') → clV P (.func (.yield l) #[] #[]) args W K) →
      (∀ {W : World} {R : List HP}, Sat e W (lpC LR l .ready :: R) → (∀ W', Sat e W' R → Kn D W') → Kf W) →
      Sat e w1 (lpC LR l .ready :: dfC D :: R) → Cl P f2 (#[.func (.yield l) #[] #[]] ++ captured) w1 fun _ W => Kf W) : rfW P gv np Bd w Kn := by
  intro LR hc hy r hr hst hpd
  refine ⟨f2, #[], captured, hg, hb, ?_⟩
  have h1 := (hS.alloc (.deferred (some []))).alloc (.loop r)
  rw [World.size_alloc] at h1
  refine h (w.heap.size + 1) w.heap.size LR _ _ ?_ ?_ (h1.imp fun g hg => ⟨hc, r, hr, hst, hpd, hg⟩)
  · intro e W R args K hW hs hB
    obtain ⟨_, r, k1, k2, k3, k4⟩ := lp_open hW
    refine ⟨_, _, _, rfl, ?_⟩
    show ex P (Instr.yield _ (#[] ++ args)) W K
    rw [Array.empty_append]
    exact hy r W _ args K k1 (one_heap k4) hs hB
  · intro W R hW hK
    obtain ⟨_, r, k1, k2, k3, k4⟩ := lp_open hW
    refine ⟨r, one_heap k4, by rw [k2]; exact (by decide), k3, hK _ ?_⟩
    have h5 : Sat e (W.putObj (w.heap.size + 1) (.loop { r with state := .exhausted })) ((fun h => h (w.heap.size + 1) = some (.loop { r with state := .exhausted })) :: R) := k4.setB
    exact h5.drop
end
end Go.E
