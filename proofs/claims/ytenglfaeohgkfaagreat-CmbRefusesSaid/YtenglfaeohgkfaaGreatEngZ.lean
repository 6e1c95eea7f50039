/- The engine, part Z: a range over a function whose body may return; the results stand in cells. Conditions: no operation of the body's and the assignments' regions draws its order. -/
import Derived.Test.YtenglfaeohgkfaaGreatEngY
namespace Go.E
open Go.RowKit

def edr (l : Nat) (w : World) (K : World → Prop) : Prop := ∃ r, w.heap[l]? = some (.loop r) ∧ K (w.putObj l (.loop { r with state := .done, pending := some .ret }))
/-- One round. -/
def rdWC (P : Program) (nt : Nat) (ps : List Nat) (as bd : Code) (ρ : Ev) (l : Nat) (args : Nat → Value) (w : World) (k : KV) : Prop :=
  cw P nt 0 as (lv 0 bd 0 (fun _ => 0)) (fun _ => 0) ⟨fun ρ1 w1 => bgn l w1 fun w2 => cw P nt 0 bd 0 (fun _ => 0) ⟨fun _ w3 => edn l w3 fun w4 => k (.bool true) w4, fun _ _ _ => False, fun _ w3 => edr l w3 fun w4 => k (.bool false) w4⟩ ρ1 w2, fun _ _ _ => False, fun _ _ => False⟩ (ρ.putL (ps.zip ((List.range ps.length).map args))) w

section
variable {P : Program} {w : World} {K : KV}
theorem yield_exC (hm : P.follows .mixedOrders = true) {nt l : Nat} {ps : List Nat} {as bd : Code} {ρ : Ev} {r : Loop} {args : Array Value} (hr : w.heap[l]? = some (.loop r)) (hf : LoopFacts nt ps as bd ρ r) (hs : args.size = ps.length)
    (hps : ps.all (fun t => decide (t < nt)) = true) (hda : noDraw as = true) (hdb : noDraw bd = true) (hoa : cwOk P nt 0 as (lv 0 bd 0 (fun _ => 0)) (fun _ => 0) = true) (hob : cwOk P nt 0 bd 0 (fun _ => 0) = true)
    (h : rdWC P nt ps as bd ρ l (fun i => args.getD i undef) w K) : ex P (Instr.yield l args) w K := by
  unfold ex
  rw [run_yield hr (by rw [hf.params]; simpa using hs)]
  show RoundIn Fence.wide 0 P l r.fn _ r.assign r.body w _
  rw [hf.assign, hf.body]
  refine roundIn_of_wpIn trivial ?_
  have hzip : (r.params.zip args).toList = ps.zip args.toList := by rw [hf.params, Array.toList_zip]
  have hargs : (List.range ps.length).map (fun i => args.getD i undef) = args.toList := by
    apply List.ext_getElem
    · simp [hs]
    · intro i h1 h2
      simp at h2
      simp [Array.getD_eq_getD_getElem?, h2]
  unfold rdWC at h
  rw [hargs] at h
  have hag : AgrD [] nt (lvR as bd) { tmps := (r.params.zip args).foldl (fun tmps (x : Nat × Value) => tmps.setIfInBounds x.1 x.2) r.tmps, defers := [] } (ρ.putL (ps.zip args.toList)) := by
    rw [← Array.foldl_toList, hzip]
    refine foldl_agr _ _ _ (fun x hx => ?_) ⟨hf.size, rfl, hf.agr⟩
    exact of_decide_eq_true (List.all_eq_true.1 hps x.1 (List.of_mem_zip hx).1)
  refine cw_sound (ro := some l) hm as (lv 0 bd 0 (fun _ => 0)) (fun _ => 0) _ _ _ w _ (.inr hda) hoa hag ?_ ?_ ?_ h
  · rintro ρ1 a1 w1 ⟨r1, h1, h2, h3⟩ ha1 _
    refine ⟨_, run_beginRound h1 h2, ?_⟩
    refine cw_sound (ro := some l) hm bd 0 (fun _ => 0) _ _ _ _ _ (.inr hdb) hob ha1 ?_ ?_ ?_ h3
    · rintro ρ2 a2 w2 ⟨r2, h4, h5⟩ _ _
      exact ⟨_, _, run_endRound none h4, _, rfl, h5⟩
    · rintro _ _ _ _ hF _ _
      exact hF.elim
    · rintro ρ2 a2 w2 ⟨r2, h4, h5⟩ _
      exact ⟨_, _, run_endRound (some .ret) h4, _, rfl, h5⟩
  · rintro _ _ _ _ hF _ _
    exact hF.elim
  · rintro _ _ _ hF _
    exact hF.elim

/-- The statement. -/
def rfWC (P : Program) (gv : Value) (np : Nat) (Bd : Nat → (Nat → Value) → World → KV → Prop) (w : World) (Kn Kr : Nat → World → Prop) : Prop :=
  ∀ (LR : Loop → Prop), (∀ r st pd, LR r → LR { r with state := st, pending := pd }) →
    (∀ (r : Loop) (W : World) (l : Nat) (args : Array Value) (K : KV), LR r → W.heap[l]? = some (.loop r) → args.size = np → Bd l (fun i => args.getD i undef) W K → ex P (Instr.yield l args) W K) →
    ∀ r, LR r → r.state = .ready → r.pending = none →
    ∃ f2 first captured, gv = .func (.func f2) first captured ∧ hasBody P f2 = true ∧ Cl P f2 (first ++ #[.func (.yield (w.heap.size + 1)) #[] #[]] ++ captured) ((w.alloc (.deferred (some []))).alloc (.loop r)) fun _ w3 =>
      ∃ r', w3.heap[w.heap.size + 1]? = some (.loop r') ∧ r'.state ≠ .busy ∧
        ((r'.pending = none ∧ Kn w.heap.size (w3.putObj (w.heap.size + 1) (.loop { r' with state := .exhausted }))) ∨ (r'.pending = some .ret ∧ Kr w.heap.size (w3.putObj (w.heap.size + 1) (.loop { r' with state := .exhausted }))))

/-- A function that holds one range over a function. -/
def fnRFC (P : Program) (nt : Nat) (rs : List (Nat × Option TypeId)) (A C E : Code) (g : Operand) (ps : List Nat) (as bd : Code) (args : Array Value) (w : World) (K : KV) : Prop :=
  let rl := bitsL (rs.map (·.1))
  let lE := lv rl E rl (fun _ => 0)
  let lC := lE ||| rl ||| bitO g ||| lvR as bd
  let lA := lv rl C lC (fun _ => 0)
  cw P nt rl A lA (fun _ => 0) ⟨fun ρ w => cw P nt rl C lC (fun _ => 0) ⟨fun ρ w =>
    rfWC P (ρ.opd g) ps.length (fun l args W k => rdWC P nt ps as bd ρ l args W k) w
      (fun D w => cw P nt rl E rl (fun _ => 0) ⟨fun ρ' w' => rdef D w' fun w'' => retC P rs [] ρ' w'' K, fun _ _ _ => False, fun _ _ => False⟩ ρ w)
      (fun D w => rdef D w fun w'' => retC P rs [] ρ w'' K),
    fun _ _ _ => False, fun _ _ => False⟩ ρ w, fun _ _ _ => False, fun _ _ => False⟩ (Ev.init args) w
def fnOkRFC (P : Program) (nt : Nat) (rs : List (Nat × Option TypeId)) (A C E : Code) (g : Operand) (ps : List Nat) (as bd : Code) : Bool :=
  let rl := bitsL (rs.map (·.1))
  let lE := lv rl E rl (fun _ => 0)
  let lC := lE ||| rl ||| bitO g ||| lvR as bd
  let lA := lv rl C lC (fun _ => 0)
  cwOk P nt rl A lA (fun _ => 0) && cwOk P nt rl C lC (fun _ => 0) && cwOk P nt rl E rl (fun _ => 0) &&
  ps.all (fun t => decide (t < nt)) && noDraw as && noDraw bd && cwOk P nt 0 as (lv 0 bd 0 (fun _ => 0)) (fun _ => 0) && cwOk P nt 0 bd 0 (fun _ => 0) && (match g with | .tmp _ => true | _ => false)

theorem calls_of_fnRFC {f : FuncId} {fn : Func} {args : Array Value} {nt i : Nat} {rs : List (Nat × Option TypeId)} {A C E : Code} {g : Operand} {ps : List Nat} {as bd : Code} (hm : P.follows .mixedOrders = true)
    (hf : P.funcs[f]? = some fn) (hb : fn.body = some (.seq A (.seq (.seq C (.block i (.rangeFunc g ps.toArray as bd))) (.seq E .ret)))) (hn : fn.ntmps = nt) (hr : fn.results = (rs.map rvOf).toArray) (hargs : args.size ≤ nt)
    (hok : fnOkRFC P nt rs A C E g ps as bd = true) (h : fnRFC P nt rs A C E g ps as bd args w K) : CallsR P f args w K := by
  unfold fnOkRFC at hok
  simp only [Bool.and_eq_true] at hok
  obtain ⟨⟨⟨⟨⟨⟨⟨⟨hA, hC⟩, hE⟩, hps⟩, hda⟩, hdb⟩, hoa⟩, hob⟩, hg⟩ := hok
  have hmem : ∀ r ∈ rs, (bitsL (rs.map (·.1))).testBit r.1 = true := fun r hr => bitsL_mem (List.mem_map.2 ⟨r, hr, rfl⟩)
  refine callsIn_wide (n := 0).1 (callsIn_of_wp_marks hf hb trivial ?_ rfl)
  unfold fnRFC at h
  refine wpIn_seq (cw_sound (ro := none) hm A _ _ _ _ _ w _ (.inl rfl) hA (⟨by simp [hn]; omega, rfl, fun t _ => ?_⟩ : AgrD [] nt _ _ (Ev.init args)) ?_ ?_ ?_ h)
  · simp only [Ev.init, Array.getD_eq_getD_getElem?, Array.getElem?_append]
    split
    · rfl
    · rename_i hge
      rw [Array.getElem?_eq_none (xs := args) (by omega)]
      cases hx : (Array.replicate (fn.ntmps - args.size) undef)[t - args.size]? with
      | none => rfl
      | some v =>
        simp only [Array.getElem?_replicate] at hx
        split at hx
        · cases hx; rfl
        · cases hx
  rotate_left
  · exact fun _ _ _ _ hF _ _ => hF.elim
  · exact fun _ _ _ hF _ => hF.elim
  intro ρ1 a1 w2 h2 ha2 _
  refine wpIn_seq (wpIn_seq (cw_sound (ro := none) hm C _ _ _ _ _ w2 _ (.inl rfl) hC ha2 ?_ ?_ ?_ h2))
  rotate_left
  · exact fun _ _ _ _ hF _ _ => hF.elim
  · exact fun _ _ _ hF _ => hF.elim
  intro ρ3 a3 w3 h3 ha3 _
  refine wpIn_block (wpIn_rangeFunc fun fn' _ => ?_)
  have hev : a3.eval g = ρ3.opd g := ha3.opd (l := [g]) (fun t ht => by
    simp only [bitsO, List.foldr_cons, List.foldr_nil, Nat.or_zero] at ht
    simp [ht]) g (by simp)
  obtain ⟨f2, first, captured, hgv, hbody, hcl⟩ := h3 (LoopFacts nt ps as bd ρ3) (fun r st pd hr => hr.turn st pd)
    (fun r W l args K hr hW hs hB => yield_exC hm hW hr hs hps hda hdb hoa hob hB)
    { state := .ready, pending := none, fn := fn', tmps := a3.tmps, params := ps.toArray, assign := as, body := bd, defers := w3.heap.size }
    ⟨rfl, rfl, rfl, ha3.1, fun t ht => ha3.2.2 t (by simp [ht])⟩ rfl rfl
  refine ⟨w3.heap.size + 1, [{ target := .collected w3.heap.size, args := #[] }], ((w3.alloc (.deferred (some []))).alloc (.loop { state := .ready, pending := none, fn := fn', tmps := a3.tmps, params := ps.toArray, assign := as, body := bd, defers := w3.heap.size })), { target := .fn (.func f2) captured, args := first ++ #[.func (.yield (w3.heap.size + 1)) #[] #[]] }, ((w3.alloc (.deferred (some []))).alloc (.loop { state := .ready, pending := none, fn := fn', tmps := a3.tmps, params := ps.toArray, assign := as, body := bd, defers := w3.heap.size })), f2, first ++ #[.func (.yield (w3.heap.size + 1)) #[] #[]] ++ captured, ((w3.alloc (.deferred (some []))).alloc (.loop { state := .ready, pending := none, fn := fn', tmps := a3.tmps, params := ps.toArray, assign := as, body := bd, defers := w3.heap.size })), run_enterLoop_outer fn' a3.tmps ps.toArray as bd, ?_, fun _ _ => trivial, ?_, (fun h => by cases h), callsIn_wide.2 (Calls.mono (Cl.ret hbody hcl) ?_)⟩
  · have he : a3.eval g = .func (.func f2) first captured := hev.trans hgv
    simp only [resolve, he, Deferred.ofValue, List.map_toArray, List.map_cons, List.map_nil]
    rfl
  · exact run_callFunc hbody
  · rintro ev w5 ⟨v, rfl, r', hr1, hr2, hr3⟩
    rcases hr3 with ⟨hr3, hr4⟩ | ⟨hr3, hr4⟩
    · rw [hr3] at hr4
      refine ⟨none, _, by rw [run_endLoop hr1 hr2, hr3], ?_⟩
      show Exit.inBlock _ _ .normal _ _
      refine wpIn_seq (cw_sound (ro := none) (ds := [{ target := .collected w3.heap.size, args := #[] }]) hm E _ _ _ _ _ _ _ (.inl rfl) hE ?_ ?_ ?_ ?_ hr4)
      · exact ⟨ha3.1, by rw [ha3.2.1]; rfl, fun t ht => ha3.2.2 t (by simp [ht])⟩
      · rintro ρ4 a4 w6 ⟨hD, hK⟩ ha4 _
        refine wpIn_ret ?_
        show LeavesInM _ _ _ _ _ _ a4.defers _ _
        rw [ha4.2.1]
        refine ⟨by simp, .inl ⟨_, _, rfl, run_takeDeferred hD, ?_⟩⟩
        obtain ⟨v, k3, k4⟩ := run_resultsC hr (⟨ha4.1, rfl, ha4.2.2⟩ : AgrD [] nt _ { a4 with defers := [] } ρ4) hmem hK
        exact ⟨_, k3, _, rfl, k4⟩
      · exact fun _ _ _ _ hF _ _ => hF.elim
      · exact fun _ _ _ hF _ => hF.elim
    · rw [hr3] at hr4
      refine ⟨some .ret, _, by rw [run_endLoop hr1 hr2, hr3], ?_⟩
      obtain ⟨hD, hK⟩ := hr4
      refine wpIn_ret ?_
      show LeavesInM _ _ _ _ _ _ (_ ++ a3.defers) _ _
      rw [ha3.2.1]
      refine ⟨by simp, .inl ⟨_, _, rfl, run_takeDeferred hD, ?_⟩⟩
      obtain ⟨v, k3, k4⟩ := run_resultsC hr (⟨ha3.1, rfl, ha3.2.2⟩ : AgrD [] nt _ { a3 with defers := [] } ρ3) (fun r hr => by simp [hmem r hr]) hK
      exact ⟨_, k3, _, rfl, k4⟩

/-- The same of a body as it stands. -/
def fnRFCb (P : Program) (nt : Nat) (rs : List (Nat × Option TypeId)) (b : Option Code) (args : Array Value) (w : World) (K : KV) : Prop :=
  match b with
  | some (.seq A (.seq (.seq C (.block _ (.rangeFunc g ps as bd))) (.seq E .ret))) => fnRFC P nt rs A C E g ps.toList as bd args w K
  | _ => False
def fnOkRFCb (P : Program) (nt : Nat) (rs : List (Nat × Option TypeId)) (b : Option Code) : Bool :=
  match b with
  | some (.seq A (.seq (.seq C (.block _ (.rangeFunc g ps as bd))) (.seq E .ret))) => fnOkRFC P nt rs A C E g ps.toList as bd
  | _ => false
theorem calls_of_fnRFCb {f : FuncId} {fn : Func} {args : Array Value} {nt : Nat} {rs : List (Nat × Option TypeId)} (hm : P.follows .mixedOrders = true)
    (hf : P.funcs[f]? = some fn) (hn : fn.ntmps = nt) (hr : fn.results = (rs.map rvOf).toArray) (hargs : args.size ≤ nt)
    (hok : fnOkRFCb P nt rs fn.body = true) {X : Prop} (hX : X = fnRFCb P nt rs fn.body args w K) (h : X) : CallsR P f args w K := by
  rw [hX] at h
  unfold fnRFCb at h
  unfold fnOkRFCb at hok
  split at h
  · rename_i A C j g ps as bd E hb
    rw [hb] at hok
    exact calls_of_fnRFC (i := j) (ps := ps.toList) hm hf (by rw [hb, Array.toArray_toList]) hn hr hargs hok h
  · exact h.elim

/-! ### The rules -/
variable {e : World} {R : List HP} {LR : Loop → Prop} {l : Nat}
/-- A loop's record behind a return. -/
def lpD (LR : Loop → Prop) (l : Nat) : HP := fun h => ∃ r, LR r ∧ r.state = .done ∧ r.pending = some .ret ∧ h l = some (.loop r)
theorem edr_s {K : World → Prop} (hS : Sat e w (lpC LR l .busy :: R)) (hk : ∀ w', Sat e w' (lpD LR l :: R) → K w') : edr l w K := by
  obtain ⟨hc, r, h1, h2, h3, h4⟩ := lp_open hS
  refine ⟨r, one_heap h4, hk _ ?_⟩
  have h5 : Sat e (w.putObj l (.loop { r with state := .done, pending := some .ret })) ((fun h => h l = some (.loop { r with state := .done, pending := some .ret })) :: R) := h4.setB
  exact h5.imp fun g hg => ⟨_, hc r .done (some .ret) h1, rfl, rfl, hg⟩
theorem rfC_s {gv : Value} {np : Nat} {Bd : Nat → (Nat → Value) → World → KV → Prop} {Kn Kr : Nat → World → Prop} {f2 : FuncId} {captured : Array Value} (hg : gv = .func (.func f2) #[] captured) (hb : hasBody P f2 = true) (hS : Sat e w R)
    (h : ∀ (l D : Nat) (LR : Loop → Prop) (w1 : World) (Kf : World → Prop),
      (∀ {e W : World} {R : List HP} {args : Array Value} {K : KV}, Sat e W (lpC LR l .ready :: R) → args.size = np → Bd l (fun i => args.getD i undef) W K → clV P (.func (.yield l) #[] #[]) args W K) →
      (∀ {W : World} {R : List HP}, Sat e W (lpC LR l .ready :: R) → (∀ W', Sat e W' R → Kn D W') → Kf W) →
      (∀ {W : World} {R : List HP}, Sat e W (lpD LR l :: R) → (∀ W', Sat e W' R → Kr D W') → Kf W) →
      Sat e w1 (lpC LR l .ready :: dfC D :: R) → Cl P f2 (#[.func (.yield l) #[] #[]] ++ captured) w1 fun _ W => Kf W) : rfWC P gv np Bd w Kn Kr := by
  intro LR hc hy r hr hst hpd
  refine ⟨f2, #[], captured, hg, hb, ?_⟩
  have h1 := (hS.alloc (.deferred (some []))).alloc (.loop r)
  rw [World.size_alloc] at h1
  refine h (w.heap.size + 1) w.heap.size LR _ _ ?_ ?_ ?_ (h1.imp fun g hg => ⟨hc, r, hr, hst, hpd, hg⟩)
  · intro e W R args K hW hs hB
    obtain ⟨_, r, k1, k2, k3, k4⟩ := lp_open hW
    refine ⟨_, _, _, rfl, ?_⟩
    show ex P (Instr.yield _ (#[] ++ args)) W K
    rw [Array.empty_append]
    exact hy r W _ args K k1 (one_heap k4) hs hB
  · intro W R hW hK
    obtain ⟨_, r, k1, k2, k3, k4⟩ := lp_open hW
    refine ⟨r, one_heap k4, by rw [k2]; exact (by decide), .inl ⟨k3, hK _ ?_⟩⟩
    have h5 : Sat e (W.putObj (w.heap.size + 1) (.loop { r with state := .exhausted })) ((fun h => h (w.heap.size + 1) = some (.loop { r with state := .exhausted })) :: R) := k4.setB
    exact h5.drop
  · intro W R hW hK
    obtain ⟨h1, h2, d, s1, s2, ⟨r, k1, k2, k3, k4⟩, h7⟩ := hW.mem
    have k4 : Sat e W ((fun h => h (w.heap.size + 1) = some (.loop r)) :: R) := hW.of_mem fun _ => ⟨h1, h2, d, s1, s2, k4, h7⟩
    refine ⟨r, one_heap k4, by rw [k2]; exact (by decide), .inr ⟨k3, hK _ ?_⟩⟩
    have h5 : Sat e (W.putObj (w.heap.size + 1) (.loop { r with state := .exhausted })) ((fun h => h (w.heap.size + 1) = some (.loop { r with state := .exhausted })) :: R) := k4.setB
    exact h5.drop
end
end Go.E
