/- Texts of the proof, joined: EngO, EngY, EngZ, PfHead, EngM, PfTy, Pf0, Pf1, Pf2, Pf3. Conditions: none. -/
import Derived.Test.YtncgbaokgniphaaGreatO0
import Derived.Test.YtncgbaokgniphaaGreatProg
import Derived.KernelRfl
import Derived.Maps.RangeRun
section
namespace Go.E
open Go.RowKit
variable {P : Program} {w : World} {K : KV}

def slA (P : Program) (t : TypeId) (x : Value) (lo hi : Option Value) (w : World) (K : KV) : Prop := ex P (oV (Instr.sliceAt t x lo hi none)) w K

def meM (P : Program) (t : TypeId) (m k : Value) (w : World) (K : KV) : Prop := ex P (oV (Instr.mapEntry t m k)) w K
def esM (P : Program) (t : TypeId) (m s x : Value) (w : World) (K : KV) : Prop := ex P (oU (Instr.entryStore t m s x)) w K
def clI (P : Program) (x : Value) (name : String) (args : Array Value) (w : World) (K : KV) : Prop := ex P (invoke (.fn (.method name) #[]) (#[x] ++ args)) w K
theorem Zrj {t : TypeId} {v rcv : Value} {name : String} {f : FuncId} {args : Array Value} (hm : (Go.method (P.types.size + Made.depth) t v name).run P w = .ok (f, rcv) w) (h : Cl P f (#[rcv] ++ args) w K) : clI P (.iface t v) name args w K := by
 refine Zi5 ?_ h
 have h1 : (#[Value.iface t v] ++ args)[0]? = some (Value.iface t v) := by rw [Array.getElem?_append_left (by simp)]; rfl
 have h2 : (#[Value.iface t v] ++ args).extract 1 (#[Value.iface t v] ++ args).size = args := by
  apply Array.ext'
  simp
 simp only [invoke, h1, h2, callMethod, Sem.run_bind]
 have h3 : (program).run P w = .ok P w := rfl
 rw [h3]
 simp only [Result.andThen_ok, hm]

def ldT (P : Program) (t : TypeId) (x : Value) (w : World) (K : KV) : Prop := match okT P t, Zb7 P t with
 | true, true => ldN (szD P t) x w K
 | true, false => ld1 x w K
 | false, _ => False
theorem ZuC {t : TypeId} {x : Value} (h : ldT P t x w K) : ∃ a v, x = .pointer (some a) ∧ (loadVar t a).run P w = .ok v w ∧ K v w := by
 unfold ldT at h
 split at h
 ·rename_i ho ha
  obtain ⟨d, i, z, hd, hi, hz, hs, hg, hz'⟩ := Za9 ho
  obtain ⟨a', vs, hx, hn, hc, hk⟩ := h
  exact ⟨a', _, hx, ZkU hd hi (hg ▸ ha) (hs ▸ hn) hc, hk⟩
 ·rename_i ho ha
  obtain ⟨d, i, z, hd, hi, hz, hs, hg, hz'⟩ := Za9 ho
  obtain ⟨a', v, hx, hc, hk⟩ := h
  exact ⟨a', v, hx, ZkE hd (hg ▸ ha) hc, hk⟩
 ·exact h.elim

def Zx9 : Nat × Option TypeId → ResultVar
 | (t, none) => .tmp t
 | (t, some y) => .cell t y
def ZFI (vs : List Value) : Value := match vs with
 | [v] => v
 | _ => .tuple vs.toArray
def ZvW (P : Program) : List (Nat × Option TypeId) → List Value → Ev → World → KV → Prop
 | [], vs, _, w, K => K (ZFI vs) w
 | (t, none) :: l, vs, ρ, w, K => ZvW P l (vs ++ [ρ t]) ρ w K
 | (t, some y) :: l, vs, ρ, w, K => ldT P y (ρ t) w fun v _ => ZvW P l (vs ++ [v]) ρ w K

theorem Zod {nt m : Nat} {a : Act} {ρ : Ev} (ha : Agr nt m a ρ) :
  ∀ (rs : List (Nat × Option TypeId)) (vs : List Value), (∀ r ∈ rs, m.testBit r.1 = true) → ZvW P rs vs ρ w K → ∃ us, (∀ (g : ResultVar → Sem Value), (∀ t, g (.tmp t) = pure (a.tmps.getD t undef)) → (∀ t y, g (.cell t y) = (do loadVar y (← asAddr (a.tmps.getD t undef)))) → ((rs.map Zx9).mapM g).run P w = .ok us w) ∧ K (ZFI (vs ++ us)) w
 | [], vs, _, h => ⟨[], fun g _ _ => by simp, by simpa [ZvW] using h⟩
 | (t, none) :: l, vs, hm, h => by
  obtain ⟨us, k1, k2⟩ := Zod ha l (vs ++ [ρ t]) (fun r hr => hm r (by simp [hr])) h
  refine ⟨ρ t :: us, fun g h1 h2 => ?_, by simpa using k2⟩
  have k1 := k1 g h1 h2
  have he := ha.2.2 t (hm (t, none) (by simp))
  simp only [List.map_cons, Zx9, List.mapM_cons, Sem.run_bind, h1, Sem.run_pure, Result.andThen_ok, k1, he]
 | (t, some y) :: l, vs, hm, h => by
  obtain ⟨a', v, hx, hl, hk⟩ := ZuC (K := fun v _ => ZvW P l (vs ++ [v]) ρ w K) h
  obtain ⟨us, k1, k2⟩ := Zod ha l (vs ++ [v]) (fun r hr => hm r (by simp [hr])) hk
  refine ⟨v :: us, fun g h1 h2 => ?_, by simpa using k2⟩
  have k1 := k1 g h1 h2
  have he := ha.2.2 t (hm (t, some y) (by simp))
  simp only [List.map_cons, Zx9, List.mapM_cons, Sem.run_bind, h2, Sem.run_pure, Result.andThen_ok, he, hx, asAddr, hl, k1]

theorem Zdr {fn : Func} {rs : List (Nat × Option TypeId)} (hr : fn.results = (rs.map Zx9).toArray) {nt m : Nat} {a : Act} {ρ : Ev} (ha : Agr nt m a ρ) (hm : ∀ r ∈ rs, m.testBit r.1 = true) (h : ZvW P rs [] ρ w K) :
  ∃ v, (results fn a.tmps).run P w = .ok v w ∧ K v w := by
 obtain ⟨us, k1, k2⟩ := Zod ha rs [] hm h
 refine ⟨ZFI us, ?_, by simpa using k2⟩
 unfold results
 rw [hr, Array.mapM_eq_mapM_toList]
 simp only [Sem.run_bind, Sem.run_map]
 rw [k1 _ (fun _ => rfl) (fun _ _ => rfl)]
 simp only [Result.andThen_ok, Sem.run_pure]
 congr 1
 unfold ZFI
 match us with
 | [] => rfl
 | [v] => rfl
 | v :: u :: l => simp

def ZGt (P : Program) (nt : Nat) (rs : List (Nat × Option TypeId)) (c : Code) (args : Array Value) (w : World) (K : KV) : Prop :=
 cw P nt (Zgs (rs.map (·.1))) c (Zgs (rs.map (·.1))) (fun _ => 0) ⟨fun ρ w => ZvW P rs [] ρ w K, fun _ _ _ => False, fun ρ w => ZvW P rs [] ρ w K⟩ (Ev.init args) w
def ZEZ (P : Program) (nt : Nat) (rs : List (Nat × Option TypeId)) (c : Code) : Bool := Zf6 P nt (Zgs (rs.map (·.1))) c (Zgs (rs.map (·.1))) (fun _ => 0)

theorem ZoF {f : FuncId} {fn : Func} {c : Code} {args : Array Value} {nt : Nat} {rs : List (Nat × Option TypeId)} (hm : P.follows .mixedOrders = true)
  (hf : P.funcs[f]? = some fn) (hb : fn.body = some c) (hn : fn.ntmps = nt) (hr : fn.results = (rs.map Zx9).toArray) (hargs : args.size ≤ nt) (hok : ZEZ P nt rs c = true)
  (h : ZGt P nt rs c args w K) : Zdi P f args w K := by
 have hmem : ∀ r ∈ rs, (Zgs (rs.map (·.1))).testBit r.1 = true := fun r hr => Zfs (List.mem_map.2 ⟨r, hr, rfl⟩)
 refine calls_of_wp hf hb (wpIn_wide (n := 0).1 (Zac (ro := none) hm c _ _ _ (Ev.init args) _ w _ (.inl rfl) hok ⟨by simp [hn]; omega, rfl, fun t _ => ?_⟩ ?_ ?_ ?_ h))
 ·simp only [Ev.init, Array.getD_eq_getD_getElem?, Array.getElem?_append]
  split
  ·rfl
  ·rename_i hge
   rw [Array.getElem?_eq_none (xs := args) (by omega)]
   cases hx : (Array.replicate (fn.ntmps - args.size) undef)[t - args.size]? with
   | none => rfl
   | some v =>
    simp only [Array.getElem?_replicate] at hx
    split at hx
    ·cases hx; rfl
    ·cases hx
 ·intro ρ' a' w' k1 k2 _
  obtain ⟨v, k3, k4⟩ := Zdr hr k2 hmem k1
  exact ⟨k2.2.1, _, k3, _, rfl, k4⟩
 ·intro id ρ' a' w' k1
  exact k1.elim
 ·intro ρ' a' w' k1 k2
  obtain ⟨v, k3, k4⟩ := Zdr hr k2 hmem k1
  exact ⟨k2.2.1, _, k3, _, rfl, k4⟩

theorem Zab {f : FuncId} {fn : Func} {args : Array Value} {nt : Nat} {rs : List (Nat × Option TypeId)} {F : Prop} (hm : P.follows .mixedOrders = true)
  (hf : P.funcs[f]? = some fn) (hs : (match fn.body with | some _ => true | none => false) = true) (hn : fn.ntmps = nt) (hr : fn.results = (rs.map Zx9).toArray) (hargs : args.size ≤ nt)
  (hok : ZEZ P nt rs (match fn.body with | some c => c | none => .skip) = true) (he : F = ZGt P nt rs (match fn.body with | some c => c | none => .skip) args w K) (h : F) : Zdi P f args w K := by
 cases hb : fn.body with
 | none => rw [hb] at hs; cases hs
 | some c =>
  rw [hb] at hok he
  exact ZoF hm hf hb hn hr hargs hok (he ▸ h)
end Go.E
end
section
namespace Go.E
open Go.RowKit

def Ev.putL (ρ : Ev) : List (Nat × Value) → Ev
 | [] => ρ
 | (t, v) :: l => Ev.putL (ρ.upd t v) l
def bgn (l : Nat) (w : World) (K : World → Prop) : Prop := ∃ r, w.heap[l]? = some (.loop r) ∧ r.state = .ready ∧ K (w.putObj l (.loop { r with state := .busy }))
def edn (l : Nat) (w : World) (K : World → Prop) : Prop := ∃ r, w.heap[l]? = some (.loop r) ∧ K (w.putObj l (.loop { r with state := .ready, pending := none }))
def Zz7 (D : Nat) (w : World) (K : World → Prop) : Prop := w.heap[D]? = some (.deferred (some [])) ∧ K (w.putObj D (.deferred none))
def rdW (P : Program) (nt : Nat) (ps : List Nat) (asx bd : Code) (ρ : Ev) (l : Nat) (args : Nat → Value) (w : World) (k : World → Prop) : Prop :=
 cw P nt 0 asx (lv 0 bd 0 (fun _ => 0)) (fun _ => 0) ⟨fun ρ1 w1 => bgn l w1 fun w2 => cw P nt 0 bd 0 (fun _ => 0) ⟨fun _ w3 => edn l w3 k, fun _ _ _ => False, fun _ _ => False⟩ ρ1 w2, fun _ _ _ => False, fun _ _ => False⟩ (ρ.putL (ps.zip ((List.range ps.length).map args))) w
def lvR (asx bd : Code) : Nat := lv 0 asx (lv 0 bd 0 (fun _ => 0)) (fun _ => 0)
structure ZcX (nt : Nat) (ps : List Nat) (asx bd : Code) (ρ : Ev) (r : Loop) : Prop where
 params : r.params = ps.toArray
 assign : r.assign = asx
 body : r.body = bd
 size : r.tmps.size = nt
 agr : ∀ t, (lvR asx bd).testBit t = true → r.tmps.getD t undef = ρ t
theorem ZcX.turn {nt : Nat} {ps : List Nat} {asx bd : Code} {ρ : Ev} {r : Loop} (h : ZcX nt ps asx bd ρ r) (st : LoopState) (pd : Option Code) : ZcX nt ps asx bd ρ { r with state := st, pending := pd } :=
 ⟨h.params, h.assign, h.body, h.size, h.agr⟩

theorem Zmj {m nt : Nat} : ∀ (l : List (Nat × Value)) (tmps : Array Value) (ρ : Ev), (∀ x ∈ l, x.1 < nt) → ZdN [] nt m { tmps := tmps, defers := [] } ρ →
  ZdN [] nt m { tmps := l.foldl (fun (tmps : Array Value) (x : Nat × Value) => tmps.setIfInBounds x.1 x.2) tmps, defers := [] } (ρ.putL l)
 | [], _, _, _, h => h
 | (t, v) :: l, tmps, ρ, hl, h => by
  refine Zmj l (tmps.setIfInBounds t v) (ρ.upd t v) (fun x hx => hl x (List.mem_cons_of_mem _ hx)) ?_
  have h1 := (h.put (d := some t) (v := v) (fun t' ht => by cases ht; exact hl (t, v) List.mem_cons_self)).mono (m' := m) (fun t ht => by simp [ht])
  exact h1

section
variable {P : Program} {w : World} {K : KV}
theorem ZwK (hm : P.follows .mixedOrders = true) {nt l : Nat} {ps : List Nat} {asx bd : Code} {ρ : Ev} {r : Loop} {args : Array Value} (hr : w.heap[l]? = some (.loop r)) (hf : ZcX nt ps asx bd ρ r) (hs : args.size = ps.length)
  (hps : ps.all (fun t => decide (t < nt)) = true) (hda : ZaT asx = true) (hdb : ZaT bd = true) (hoa : Zf6 P nt 0 asx (lv 0 bd 0 (fun _ => 0)) (fun _ => 0) = true) (hob : Zf6 P nt 0 bd 0 (fun _ => 0) = true)
  (h : rdW P nt ps asx bd ρ l (fun i => args.getD i undef) w fun w' => K (.bool true) w') : ex P (Instr.yield l args) w K := by
 unfold ex
 rw [run_yield hr (by rw [hf.params]; simpa using hs)]
 show RoundIn Fence.wide 0 P l r.fn _ r.assign r.body w _
 rw [hf.assign, hf.body]
 refine roundIn_of_wpIn trivial ?_
 have hzip : (r.params.zip args).toList = ps.zip args.toList := by rw [hf.params, Array.toList_zip]
 have hargs : (List.range ps.length).map (fun i => args.getD i undef) = args.toList := by
  apply List.ext_getElem
  ·simp [hs]
  ·intro i h1 h2
   simp at h2
   simp [Array.getD_eq_getD_getElem?, h2]
 unfold rdW at h
 rw [hargs] at h
 have hag : ZdN [] nt (lvR asx bd) { tmps := (r.params.zip args).foldl (fun tmps (x : Nat × Value) => tmps.setIfInBounds x.1 x.2) r.tmps, defers := [] } (ρ.putL (ps.zip args.toList)) := by
  rw [← Array.foldl_toList, hzip]
  refine Zmj _ _ _ (fun x hx => ?_) ⟨hf.size, rfl, hf.agr⟩
  exact of_decide_eq_true (List.all_eq_true.1 hps x.1 (List.of_mem_zip hx).1)
 refine Zac (ro := some l) hm asx (lv 0 bd 0 (fun _ => 0)) (fun _ => 0) _ _ _ w _ (.inr hda) hoa hag ?_ ?_ ?_ h
 ·rintro ρ1 a1 w1 ⟨r1, h1, h2, h3⟩ ha1 _
  refine ⟨_, run_beginRound h1 h2, ?_⟩
  refine Zac (ro := some l) hm bd 0 (fun _ => 0) _ _ _ _ _ (.inr hdb) hob ha1 ?_ ?_ ?_ h3
  ·rintro ρ2 a2 w2 ⟨r2, h4, h5⟩ _ _
   exact ⟨_, _, run_endRound none h4, _, rfl, h5⟩
  ·rintro _ _ _ _ hF _ _
   exact hF.elim
  ·rintro _ _ _ hF _
   exact hF.elim
 ·rintro _ _ _ _ hF _ _
  exact hF.elim
 ·rintro _ _ _ hF _
  exact hF.elim

def rfW (P : Program) (gv : Value) (np : Nat) (Bd : Nat → (Nat → Value) → World → (World → Prop) → Prop) (w : World) (Kn : Nat → World → Prop) : Prop :=
 ∀ (LR : Loop → Prop), (∀ r st pd, LR r → LR { r with state := st, pending := pd }) →
  (∀ (r : Loop) (W : World) (l : Nat) (args : Array Value) (K : KV), LR r → W.heap[l]? = some (.loop r) → args.size = np → Bd l (fun i => args.getD i undef) W (fun W' => K (.bool true) W') → ex P (Instr.yield l args) W K) →
  ∀ r, LR r → r.state = .ready → r.pending = none →
  ∃ f2 first captured, gv = .func (.func f2) first captured ∧ ZdL P f2 = true ∧ Cl P f2 (first ++ #[.func (.yield (w.heap.size + 1)) #[] #[]] ++ captured) ((w.alloc (.deferred (some []))).alloc (.loop r)) fun _ w3 =>
   ∃ r', w3.heap[w.heap.size + 1]? = some (.loop r') ∧ r'.state ≠ .busy ∧ r'.pending = none ∧ Kn w.heap.size (w3.putObj (w.heap.size + 1) (.loop { r' with state := .exhausted }))

def ZGi (P : Program) (nt : Nat) (rs : List Nat) (A B C E : Code) (g : Operand) (ps : List Nat) (asx bd : Code) (args : Array Value) (w : World) (K : KV) : Prop :=
 let rl := Zgs rs
 let lE := lv rl E rl (fun _ => 0)
 let lC := lE ||| ZAC g ||| lvR asx bd
 let lB := lv rl C lC (fun _ => 0)
 let lA := lv rl B lB (fun _ => 0)
 cw P nt rl A lA (fun _ => 0) ⟨fun ρ w => cw P nt rl B lB (fun _ => 0) ⟨fun ρ w => cw P nt rl C lC (fun _ => 0) ⟨fun ρ w =>
  rfW P (ρ.opd g) ps.length (fun l args W k => rdW P nt ps asx bd ρ l args W k) w fun D w =>
   cw P nt rl E rl (fun _ => 0) ⟨fun ρ' w' => Zz7 D w' fun w'' => K (ZBO rs ρ') w'', fun _ _ _ => False, fun _ _ => False⟩ ρ w,
  fun _ _ _ => False, fun _ _ => False⟩ ρ w, fun _ _ _ => False, fun _ _ => False⟩ ρ w, fun _ _ _ => False, fun _ _ => False⟩ (Ev.init args) w
def Zue (P : Program) (nt : Nat) (rs : List Nat) (A B C E : Code) (g : Operand) (ps : List Nat) (asx bd : Code) : Bool :=
 let rl := Zgs rs
 let lE := lv rl E rl (fun _ => 0)
 let lC := lE ||| ZAC g ||| lvR asx bd
 let lB := lv rl C lC (fun _ => 0)
 let lA := lv rl B lB (fun _ => 0)
 Zf6 P nt rl A lA (fun _ => 0) && Zf6 P nt rl B lB (fun _ => 0) && Zf6 P nt rl C lC (fun _ => 0) && Zf6 P nt rl E rl (fun _ => 0) &&
 ps.all (fun t => decide (t < nt)) && ZaT asx && ZaT bd && Zf6 P nt 0 asx (lv 0 bd 0 (fun _ => 0)) (fun _ => 0) && Zf6 P nt 0 bd 0 (fun _ => 0) && (match g with | .tmp _ => true | _ => false)

theorem ZnS {f : FuncId} {fn : Func} {args : Array Value} {nt i : Nat} {rs : List Nat} {A B C E : Code} {g : Operand} {ps : List Nat} {asx bd : Code} (hm : P.follows .mixedOrders = true)
  (hf : P.funcs[f]? = some fn) (hb : fn.body = some (.seq A (.seq B (.seq (.seq C (.block i (.rangeFunc g ps.toArray asx bd))) (.seq E .ret))))) (hn : fn.ntmps = nt) (hr : fn.results = (rs.map ResultVar.tmp).toArray) (hargs : args.size ≤ nt)
  (hok : Zue P nt rs A B C E g ps asx bd = true) (h : ZGi P nt rs A B C E g ps asx bd args w K) : Zdi P f args w K := by
 unfold Zue at hok
 simp only [Bool.and_eq_true] at hok
 obtain ⟨⟨⟨⟨⟨⟨⟨⟨⟨hA, hB⟩, hC⟩, hE⟩, hps⟩, hda⟩, hdb⟩, hoa⟩, hob⟩, hg⟩ := hok
 refine callsIn_wide (n := 0).1 (callsIn_of_wp_marks hf hb trivial ?_ rfl)
 unfold ZGi at h
 have hno : ∀ {p : Prop}, False → p := fun h => h.elim
 refine wpIn_seq (Zac (ro := none) hm A _ _ _ _ _ w _ (.inl rfl) hA (⟨by simp [hn]; omega, rfl, fun t _ => ?_⟩ : ZdN [] nt _ _ (Ev.init args)) ?_ ?_ ?_ h)
 ·simp only [Ev.init, Array.getD_eq_getD_getElem?, Array.getElem?_append]
  split
  ·rfl
  ·rename_i hge
   rw [Array.getElem?_eq_none (xs := args) (by omega)]
   cases hx : (Array.replicate (fn.ntmps - args.size) undef)[t - args.size]? with
   | none => rfl
   | some v =>
    simp only [Array.getElem?_replicate] at hx
    split at hx
    ·cases hx; rfl
    ·cases hx
 rotate_left
 ·exact fun _ _ _ _ hF _ _ => hF.elim
 ·exact fun _ _ _ hF _ => hF.elim
 intro ρ1 a1 w1 h1 ha1 _
 refine wpIn_seq (Zac (ro := none) hm B _ _ _ _ _ w1 _ (.inl rfl) hB ha1 ?_ ?_ ?_ h1)
 rotate_left
 ·exact fun _ _ _ _ hF _ _ => hF.elim
 ·exact fun _ _ _ hF _ => hF.elim
 intro ρ2 a2 w2 h2 ha2 _
 refine wpIn_seq (wpIn_seq (Zac (ro := none) hm C _ _ _ _ _ w2 _ (.inl rfl) hC ha2 ?_ ?_ ?_ h2))
 rotate_left
 ·exact fun _ _ _ _ hF _ _ => hF.elim
 ·exact fun _ _ _ hF _ => hF.elim
 intro ρ3 a3 w3 h3 ha3 _
 refine wpIn_block (wpIn_rangeFunc fun fn' _ => ?_)
 have hev : a3.eval g = ρ3.opd g := ha3.opd (l := [g]) (fun t ht => by
  simp only [Zra, List.foldr_cons, List.foldr_nil, Nat.or_zero] at ht
  simp [ht]) g (by simp)
 obtain ⟨f2, first, captured, hgv, hbody, hcl⟩ := h3 (ZcX nt ps asx bd ρ3) (fun r st pd hr => hr.turn st pd)
  (fun r W l args K hr hW hs hB => ZwK hm hW hr hs hps hda hdb hoa hob hB)
  { state := .ready, pending := none, fn := fn', tmps := a3.tmps, params := ps.toArray, assign := asx, body := bd, defers := w3.heap.size }
  ⟨rfl, rfl, rfl, ha3.1, fun t ht => ha3.2.2 t (by simp [ht])⟩ rfl rfl
 refine ⟨w3.heap.size + 1, [{ target := .collected w3.heap.size, args := #[] }], ((w3.alloc (.deferred (some []))).alloc (.loop { state := .ready, pending := none, fn := fn', tmps := a3.tmps, params := ps.toArray, assign := asx, body := bd, defers := w3.heap.size })), { target := .fn (.func f2) captured, args := first ++ #[.func (.yield (w3.heap.size + 1)) #[] #[]] }, ((w3.alloc (.deferred (some []))).alloc (.loop { state := .ready, pending := none, fn := fn', tmps := a3.tmps, params := ps.toArray, assign := asx, body := bd, defers := w3.heap.size })), f2, first ++ #[.func (.yield (w3.heap.size + 1)) #[] #[]] ++ captured, ((w3.alloc (.deferred (some []))).alloc (.loop { state := .ready, pending := none, fn := fn', tmps := a3.tmps, params := ps.toArray, assign := asx, body := bd, defers := w3.heap.size })), run_enterLoop_outer fn' a3.tmps ps.toArray asx bd, ?_, fun _ _ => trivial, ?_, (fun h => by cases h), callsIn_wide.2 (Calls.mono (Cl.ret hbody hcl) ?_)⟩
 ·have he : a3.eval g = .func (.func f2) first captured := hev.trans hgv
  simp only [resolve, he, Deferred.ofValue, List.map_toArray, List.map_cons, List.map_nil]
  rfl
 ·exact Zcu hbody
 ·rintro ev w5 ⟨v, rfl, r', hr1, hr2, hr3, hr4⟩
  rw [hr3] at hr4
  refine ⟨none, _, by rw [run_endLoop hr1 hr2, hr3], ?_⟩
  show Exit.inBlock _ _ .normal _ _
  refine wpIn_seq (Zac (ro := none) (ds := [{ target := .collected w3.heap.size, args := #[] }]) hm E _ _ _ _ _ _ _ (.inl rfl) hE ?_ ?_ ?_ ?_ hr4)
  ·exact ⟨ha3.1, by rw [ha3.2.1]; rfl, fun t ht => ha3.2.2 t (by simp [ht])⟩
  ·rintro ρ4 a4 w6 ⟨hD, hK⟩ ha4 _
   refine wpIn_ret ?_
   show LeavesInM _ _ _ _ _ _ a4.defers _ _
   rw [ha4.2.1]
   refine ⟨by simp, .inl ⟨_, _, rfl, run_takeDeferred hD, ?_⟩⟩
   exact ⟨_, Zia hr (⟨ha4.1, rfl, ha4.2.2⟩ : ZdN [] nt _ { a4 with defers := [] } ρ4) (fun t ht => Zfs ht) _, _, rfl, hK⟩
  ·exact fun _ _ _ _ hF _ _ => hF.elim
  ·exact fun _ _ _ hF _ => hF.elim

def ZEB (P : Program) (nt : Nat) (rs : List Nat) (b : Option Code) (args : Array Value) (w : World) (K : KV) : Prop :=
 match b with
 | some (.seq A (.seq B (.seq (.seq C (.block _ (.rangeFunc g ps asx bd))) (.seq E .ret)))) => ZGi P nt rs A B C E g ps.toList asx bd args w K
 | _ => False
def Zuw (P : Program) (nt : Nat) (rs : List Nat) (b : Option Code) : Bool :=
 match b with
 | some (.seq A (.seq B (.seq (.seq C (.block _ (.rangeFunc g ps asx bd))) (.seq E .ret)))) => Zue P nt rs A B C E g ps.toList asx bd
 | _ => false
theorem Zm6 {f : FuncId} {fn : Func} {args : Array Value} {nt : Nat} {rs : List Nat} (hm : P.follows .mixedOrders = true)
  (hf : P.funcs[f]? = some fn) (hn : fn.ntmps = nt) (hr : fn.results = (rs.map ResultVar.tmp).toArray) (hargs : args.size ≤ nt)
  (hok : Zuw P nt rs fn.body = true) {X : Prop} (hX : X = ZEB P nt rs fn.body args w K) (h : X) : Zdi P f args w K := by
 rw [hX] at h
 unfold ZEB at h
 unfold Zuw at hok
 split at h
 ·rename_i A B C j g ps asx bd E hb
  rw [hb] at hok
  exact ZnS (i := j) (ps := ps.toList) hm hf (by rw [hb, Array.toArray_toList]) hn hr hargs hok h
 ·exact h.elim

def lpC (LR : Loop → Prop) (l : Nat) (st : LoopState) : HP := fun h => (∀ r st pd, LR r → LR { r with state := st, pending := pd }) ∧ ∃ r, LR r ∧ r.state = st ∧ r.pending = none ∧ h l = some (.loop r)
def dfC (D : Nat) : HP := fun h => h D = some (.deferred (some []))
variable {e : World} {R : List HP} {LR : Loop → Prop} {l : Nat}
theorem ZhR {st : LoopState} (hS : Sat e w (lpC LR l st :: R)) : (∀ r st pd, LR r → LR { r with state := st, pending := pd }) ∧ ∃ r, LR r ∧ r.state = st ∧ r.pending = none ∧ Sat e w ((fun h => h l = some (.loop r)) :: R) := by
 obtain ⟨h1, h2, d, s1, s2, ⟨hc, r, h3, h4, h5, h6⟩, h7⟩ := hS.mem
 exact ⟨hc, r, h3, h4, h5, hS.of_mem fun _ => ⟨h1, h2, d, s1, s2, h6, h7⟩⟩
theorem ZcS {o : Obj} {b : Nat} (hS : Sat e w ((fun h => h b = some o) :: R)) : w.heap[b]? = some o := by
 obtain ⟨g, hg, hs⟩ := hS.get 0 rfl
 exact hs _ _ hg
theorem ZB7 {K : World → Prop} (hS : Sat e w (lpC LR l .ready :: R)) (hk : ∀ w', Sat e w' (lpC LR l .busy :: R) → K w') : bgn l w K := by
 obtain ⟨hc, r, h1, h2, h3, h4⟩ := ZhR hS
 refine ⟨r, ZcS h4, h2, hk _ ?_⟩
 have h5 : Sat e (w.putObj l (.loop { r with state := .busy })) ((fun h => h l = some (.loop { r with state := .busy })) :: R) := h4.setB
 exact h5.imp fun g hg => ⟨hc, _, hc r .busy r.pending h1, rfl, h3, hg⟩
theorem ZwR {K : World → Prop} (hS : Sat e w (lpC LR l .busy :: R)) (hk : ∀ w', Sat e w' (lpC LR l .ready :: R) → K w') : edn l w K := by
 obtain ⟨hc, r, h1, h2, h3, h4⟩ := ZhR hS
 refine ⟨r, ZcS h4, hk _ ?_⟩
 have h5 : Sat e (w.putObj l (.loop { r with state := .ready, pending := none })) ((fun h => h l = some (.loop { r with state := .ready, pending := none })) :: R) := h4.setB
 exact h5.imp fun g hg => ⟨hc, _, hc r .ready none h1, rfl, rfl, hg⟩
theorem Zvn {K : World → Prop} {D : Nat} (hS : Sat e w (dfC D :: R)) (hk : ∀ w', Sat e w' R → K w') : Zz7 D w K := by
 refine ⟨ZcS (o := .deferred (some [])) hS, hk _ ?_⟩
 have h5 : Sat e (w.putObj D (.deferred none)) ((fun h => h D = some (.deferred none)) :: R) := Sat.setB (o := .deferred (some [])) hS
 exact h5.drop
theorem ZHL {gv : Value} {np : Nat} {Bd : Nat → (Nat → Value) → World → (World → Prop) → Prop} {Kn : Nat → World → Prop} {f2 : FuncId} {captured : Array Value} (hg : gv = .func (.func f2) #[] captured) (hb : ZdL P f2 = true) (hS : Sat e w R)
  (h : ∀ (l D : Nat) (LR : Loop → Prop) (w1 : World) (Kf : World → Prop),
   (∀ {e W : World} {R : List HP} {args : Array Value} {K : KV}, Sat e W (lpC LR l .ready :: R) → args.size = np → Bd l (fun i => args.getD i undef) W (fun W' => K (.bool true) W') → clV P (.func (.yield l) #[] #[]) args W K) →
   (∀ {W : World} {R : List HP}, Sat e W (lpC LR l .ready :: R) → (∀ W', Sat e W' R → Kn D W') → Kf W) →
   Sat e w1 (lpC LR l .ready :: dfC D :: R) → Cl P f2 (#[.func (.yield l) #[] #[]] ++ captured) w1 fun _ W => Kf W) : rfW P gv np Bd w Kn := by
 intro LR hc hy r hr hst hpd
 refine ⟨f2, #[], captured, hg, hb, ?_⟩
 have h1 := (hS.alloc (.deferred (some []))).alloc (.loop r)
 rw [World.size_alloc] at h1
 refine h (w.heap.size + 1) w.heap.size LR _ _ ?_ ?_ (h1.imp fun g hg => ⟨hc, r, hr, hst, hpd, hg⟩)
 ·intro e W R args K hW hs hB
  obtain ⟨_, r, k1, k2, k3, k4⟩ := ZhR hW
  refine ⟨_, _, _, rfl, ?_⟩
  show ex P (Instr.yield _ (#[] ++ args)) W K
  rw [Array.empty_append]
  exact hy r W _ args K k1 (ZcS k4) hs hB
 ·intro W R hW hK
  obtain ⟨_, r, k1, k2, k3, k4⟩ := ZhR hW
  refine ⟨r, ZcS k4, by rw [k2]; exact (by decide), k3, hK _ ?_⟩
  have h5 : Sat e (W.putObj (w.heap.size + 1) (.loop { r with state := .exhausted })) ((fun h => h (w.heap.size + 1) = some (.loop { r with state := .exhausted })) :: R) := k4.setB
  exact h5.drop
end
end Go.E
end
section
namespace Go.E
open Go.RowKit

def edr (l : Nat) (w : World) (K : World → Prop) : Prop := ∃ r, w.heap[l]? = some (.loop r) ∧ K (w.putObj l (.loop { r with state := .done, pending := some .ret }))
def ZFT (P : Program) (nt : Nat) (ps : List Nat) (asx bd : Code) (ρ : Ev) (l : Nat) (args : Nat → Value) (w : World) (k : KV) : Prop :=
 cw P nt 0 asx (lv 0 bd 0 (fun _ => 0)) (fun _ => 0) ⟨fun ρ1 w1 => bgn l w1 fun w2 => cw P nt 0 bd 0 (fun _ => 0) ⟨fun _ w3 => edn l w3 fun w4 => k (.bool true) w4, fun _ _ _ => False, fun _ w3 => edr l w3 fun w4 => k (.bool false) w4⟩ ρ1 w2, fun _ _ _ => False, fun _ _ => False⟩ (ρ.putL (ps.zip ((List.range ps.length).map args))) w

section
variable {P : Program} {w : World} {K : KV}
theorem ZuM (hm : P.follows .mixedOrders = true) {nt l : Nat} {ps : List Nat} {asx bd : Code} {ρ : Ev} {r : Loop} {args : Array Value} (hr : w.heap[l]? = some (.loop r)) (hf : ZcX nt ps asx bd ρ r) (hs : args.size = ps.length)
  (hps : ps.all (fun t => decide (t < nt)) = true) (hda : ZaT asx = true) (hdb : ZaT bd = true) (hoa : Zf6 P nt 0 asx (lv 0 bd 0 (fun _ => 0)) (fun _ => 0) = true) (hob : Zf6 P nt 0 bd 0 (fun _ => 0) = true)
  (h : ZFT P nt ps asx bd ρ l (fun i => args.getD i undef) w K) : ex P (Instr.yield l args) w K := by
 unfold ex
 rw [run_yield hr (by rw [hf.params]; simpa using hs)]
 show RoundIn Fence.wide 0 P l r.fn _ r.assign r.body w _
 rw [hf.assign, hf.body]
 refine roundIn_of_wpIn trivial ?_
 have hzip : (r.params.zip args).toList = ps.zip args.toList := by rw [hf.params, Array.toList_zip]
 have hargs : (List.range ps.length).map (fun i => args.getD i undef) = args.toList := by
  apply List.ext_getElem
  ·simp [hs]
  ·intro i h1 h2
   simp at h2
   simp [Array.getD_eq_getD_getElem?, h2]
 unfold ZFT at h
 rw [hargs] at h
 have hag : ZdN [] nt (lvR asx bd) { tmps := (r.params.zip args).foldl (fun tmps (x : Nat × Value) => tmps.setIfInBounds x.1 x.2) r.tmps, defers := [] } (ρ.putL (ps.zip args.toList)) := by
  rw [← Array.foldl_toList, hzip]
  refine Zmj _ _ _ (fun x hx => ?_) ⟨hf.size, rfl, hf.agr⟩
  exact of_decide_eq_true (List.all_eq_true.1 hps x.1 (List.of_mem_zip hx).1)
 refine Zac (ro := some l) hm asx (lv 0 bd 0 (fun _ => 0)) (fun _ => 0) _ _ _ w _ (.inr hda) hoa hag ?_ ?_ ?_ h
 ·rintro ρ1 a1 w1 ⟨r1, h1, h2, h3⟩ ha1 _
  refine ⟨_, run_beginRound h1 h2, ?_⟩
  refine Zac (ro := some l) hm bd 0 (fun _ => 0) _ _ _ _ _ (.inr hdb) hob ha1 ?_ ?_ ?_ h3
  ·rintro ρ2 a2 w2 ⟨r2, h4, h5⟩ _ _
   exact ⟨_, _, run_endRound none h4, _, rfl, h5⟩
  ·rintro _ _ _ _ hF _ _
   exact hF.elim
  ·rintro ρ2 a2 w2 ⟨r2, h4, h5⟩ _
   exact ⟨_, _, run_endRound (some .ret) h4, _, rfl, h5⟩
 ·rintro _ _ _ _ hF _ _
  exact hF.elim
 ·rintro _ _ _ hF _
  exact hF.elim

def ZFR (P : Program) (gv : Value) (np : Nat) (Bd : Nat → (Nat → Value) → World → KV → Prop) (w : World) (Kn Kr : Nat → World → Prop) : Prop :=
 ∀ (LR : Loop → Prop), (∀ r st pd, LR r → LR { r with state := st, pending := pd }) →
  (∀ (r : Loop) (W : World) (l : Nat) (args : Array Value) (K : KV), LR r → W.heap[l]? = some (.loop r) → args.size = np → Bd l (fun i => args.getD i undef) W K → ex P (Instr.yield l args) W K) →
  ∀ r, LR r → r.state = .ready → r.pending = none →
  ∃ f2 first captured, gv = .func (.func f2) first captured ∧ ZdL P f2 = true ∧ Cl P f2 (first ++ #[.func (.yield (w.heap.size + 1)) #[] #[]] ++ captured) ((w.alloc (.deferred (some []))).alloc (.loop r)) fun _ w3 =>
   ∃ r', w3.heap[w.heap.size + 1]? = some (.loop r') ∧ r'.state ≠ .busy ∧
    ((r'.pending = none ∧ Kn w.heap.size (w3.putObj (w.heap.size + 1) (.loop { r' with state := .exhausted }))) ∨ (r'.pending = some .ret ∧ Kr w.heap.size (w3.putObj (w.heap.size + 1) (.loop { r' with state := .exhausted }))))

def Zz0 (P : Program) (nt : Nat) (rs : List (Nat × Option TypeId)) (A C E : Code) (g : Operand) (ps : List Nat) (asx bd : Code) (args : Array Value) (w : World) (K : KV) : Prop :=
 let rl := Zgs (rs.map (·.1))
 let lE := lv rl E rl (fun _ => 0)
 let lC := lE ||| rl ||| ZAC g ||| lvR asx bd
 let lA := lv rl C lC (fun _ => 0)
 cw P nt rl A lA (fun _ => 0) ⟨fun ρ w => cw P nt rl C lC (fun _ => 0) ⟨fun ρ w =>
  ZFR P (ρ.opd g) ps.length (fun l args W k => ZFT P nt ps asx bd ρ l args W k) w
   (fun D w => cw P nt rl E rl (fun _ => 0) ⟨fun ρ' w' => Zz7 D w' fun w'' => ZvW P rs [] ρ' w'' K, fun _ _ _ => False, fun _ _ => False⟩ ρ w)
   (fun D w => Zz7 D w fun w'' => ZvW P rs [] ρ w'' K),
  fun _ _ _ => False, fun _ _ => False⟩ ρ w, fun _ _ _ => False, fun _ _ => False⟩ (Ev.init args) w
def Zq4 (P : Program) (nt : Nat) (rs : List (Nat × Option TypeId)) (A C E : Code) (g : Operand) (ps : List Nat) (asx bd : Code) : Bool :=
 let rl := Zgs (rs.map (·.1))
 let lE := lv rl E rl (fun _ => 0)
 let lC := lE ||| rl ||| ZAC g ||| lvR asx bd
 let lA := lv rl C lC (fun _ => 0)
 Zf6 P nt rl A lA (fun _ => 0) && Zf6 P nt rl C lC (fun _ => 0) && Zf6 P nt rl E rl (fun _ => 0) &&
 ps.all (fun t => decide (t < nt)) && ZaT asx && ZaT bd && Zf6 P nt 0 asx (lv 0 bd 0 (fun _ => 0)) (fun _ => 0) && Zf6 P nt 0 bd 0 (fun _ => 0) && (match g with | .tmp _ => true | _ => false)

theorem ZmS {f : FuncId} {fn : Func} {args : Array Value} {nt i : Nat} {rs : List (Nat × Option TypeId)} {A C E : Code} {g : Operand} {ps : List Nat} {asx bd : Code} (hm : P.follows .mixedOrders = true)
  (hf : P.funcs[f]? = some fn) (hb : fn.body = some (.seq A (.seq (.seq C (.block i (.rangeFunc g ps.toArray asx bd))) (.seq E .ret)))) (hn : fn.ntmps = nt) (hr : fn.results = (rs.map Zx9).toArray) (hargs : args.size ≤ nt)
  (hok : Zq4 P nt rs A C E g ps asx bd = true) (h : Zz0 P nt rs A C E g ps asx bd args w K) : Zdi P f args w K := by
 unfold Zq4 at hok
 simp only [Bool.and_eq_true] at hok
 obtain ⟨⟨⟨⟨⟨⟨⟨⟨hA, hC⟩, hE⟩, hps⟩, hda⟩, hdb⟩, hoa⟩, hob⟩, hg⟩ := hok
 have hmem : ∀ r ∈ rs, (Zgs (rs.map (·.1))).testBit r.1 = true := fun r hr => Zfs (List.mem_map.2 ⟨r, hr, rfl⟩)
 refine callsIn_wide (n := 0).1 (callsIn_of_wp_marks hf hb trivial ?_ rfl)
 unfold Zz0 at h
 refine wpIn_seq (Zac (ro := none) hm A _ _ _ _ _ w _ (.inl rfl) hA (⟨by simp [hn]; omega, rfl, fun t _ => ?_⟩ : ZdN [] nt _ _ (Ev.init args)) ?_ ?_ ?_ h)
 ·simp only [Ev.init, Array.getD_eq_getD_getElem?, Array.getElem?_append]
  split
  ·rfl
  ·rename_i hge
   rw [Array.getElem?_eq_none (xs := args) (by omega)]
   cases hx : (Array.replicate (fn.ntmps - args.size) undef)[t - args.size]? with
   | none => rfl
   | some v =>
    simp only [Array.getElem?_replicate] at hx
    split at hx
    ·cases hx; rfl
    ·cases hx
 rotate_left
 ·exact fun _ _ _ _ hF _ _ => hF.elim
 ·exact fun _ _ _ hF _ => hF.elim
 intro ρ1 a1 w2 h2 ha2 _
 refine wpIn_seq (wpIn_seq (Zac (ro := none) hm C _ _ _ _ _ w2 _ (.inl rfl) hC ha2 ?_ ?_ ?_ h2))
 rotate_left
 ·exact fun _ _ _ _ hF _ _ => hF.elim
 ·exact fun _ _ _ hF _ => hF.elim
 intro ρ3 a3 w3 h3 ha3 _
 refine wpIn_block (wpIn_rangeFunc fun fn' _ => ?_)
 have hev : a3.eval g = ρ3.opd g := ha3.opd (l := [g]) (fun t ht => by
  simp only [Zra, List.foldr_cons, List.foldr_nil, Nat.or_zero] at ht
  simp [ht]) g (by simp)
 obtain ⟨f2, first, captured, hgv, hbody, hcl⟩ := h3 (ZcX nt ps asx bd ρ3) (fun r st pd hr => hr.turn st pd)
  (fun r W l args K hr hW hs hB => ZuM hm hW hr hs hps hda hdb hoa hob hB)
  { state := .ready, pending := none, fn := fn', tmps := a3.tmps, params := ps.toArray, assign := asx, body := bd, defers := w3.heap.size }
  ⟨rfl, rfl, rfl, ha3.1, fun t ht => ha3.2.2 t (by simp [ht])⟩ rfl rfl
 refine ⟨w3.heap.size + 1, [{ target := .collected w3.heap.size, args := #[] }], ((w3.alloc (.deferred (some []))).alloc (.loop { state := .ready, pending := none, fn := fn', tmps := a3.tmps, params := ps.toArray, assign := asx, body := bd, defers := w3.heap.size })), { target := .fn (.func f2) captured, args := first ++ #[.func (.yield (w3.heap.size + 1)) #[] #[]] }, ((w3.alloc (.deferred (some []))).alloc (.loop { state := .ready, pending := none, fn := fn', tmps := a3.tmps, params := ps.toArray, assign := asx, body := bd, defers := w3.heap.size })), f2, first ++ #[.func (.yield (w3.heap.size + 1)) #[] #[]] ++ captured, ((w3.alloc (.deferred (some []))).alloc (.loop { state := .ready, pending := none, fn := fn', tmps := a3.tmps, params := ps.toArray, assign := asx, body := bd, defers := w3.heap.size })), run_enterLoop_outer fn' a3.tmps ps.toArray asx bd, ?_, fun _ _ => trivial, ?_, (fun h => by cases h), callsIn_wide.2 (Calls.mono (Cl.ret hbody hcl) ?_)⟩
 ·have he : a3.eval g = .func (.func f2) first captured := hev.trans hgv
  simp only [resolve, he, Deferred.ofValue, List.map_toArray, List.map_cons, List.map_nil]
  rfl
 ·exact Zcu hbody
 ·rintro ev w5 ⟨v, rfl, r', hr1, hr2, hr3⟩
  rcases hr3 with ⟨hr3, hr4⟩ | ⟨hr3, hr4⟩
  ·rw [hr3] at hr4
   refine ⟨none, _, by rw [run_endLoop hr1 hr2, hr3], ?_⟩
   show Exit.inBlock _ _ .normal _ _
   refine wpIn_seq (Zac (ro := none) (ds := [{ target := .collected w3.heap.size, args := #[] }]) hm E _ _ _ _ _ _ _ (.inl rfl) hE ?_ ?_ ?_ ?_ hr4)
   ·exact ⟨ha3.1, by rw [ha3.2.1]; rfl, fun t ht => ha3.2.2 t (by simp [ht])⟩
   ·rintro ρ4 a4 w6 ⟨hD, hK⟩ ha4 _
    refine wpIn_ret ?_
    show LeavesInM _ _ _ _ _ _ a4.defers _ _
    rw [ha4.2.1]
    refine ⟨by simp, .inl ⟨_, _, rfl, run_takeDeferred hD, ?_⟩⟩
    obtain ⟨v, k3, k4⟩ := Zdr hr (⟨ha4.1, rfl, ha4.2.2⟩ : ZdN [] nt _ { a4 with defers := [] } ρ4) hmem hK
    exact ⟨_, k3, _, rfl, k4⟩
   ·exact fun _ _ _ _ hF _ _ => hF.elim
   ·exact fun _ _ _ hF _ => hF.elim
  ·rw [hr3] at hr4
   refine ⟨some .ret, _, by rw [run_endLoop hr1 hr2, hr3], ?_⟩
   obtain ⟨hD, hK⟩ := hr4
   refine wpIn_ret ?_
   show LeavesInM _ _ _ _ _ _ (_ ++ a3.defers) _ _
   rw [ha3.2.1]
   refine ⟨by simp, .inl ⟨_, _, rfl, run_takeDeferred hD, ?_⟩⟩
   obtain ⟨v, k3, k4⟩ := Zdr hr (⟨ha3.1, rfl, ha3.2.2⟩ : ZdN [] nt _ { a3 with defers := [] } ρ3) (fun r hr => by simp [hmem r hr]) hK
   exact ⟨_, k3, _, rfl, k4⟩

def Zx1 (P : Program) (nt : Nat) (rs : List (Nat × Option TypeId)) (b : Option Code) (args : Array Value) (w : World) (K : KV) : Prop :=
 match b with
 | some (.seq A (.seq (.seq C (.block _ (.rangeFunc g ps asx bd))) (.seq E .ret))) => Zz0 P nt rs A C E g ps.toList asx bd args w K
 | _ => False
def ZrS (P : Program) (nt : Nat) (rs : List (Nat × Option TypeId)) (b : Option Code) : Bool :=
 match b with
 | some (.seq A (.seq (.seq C (.block _ (.rangeFunc g ps asx bd))) (.seq E .ret))) => Zq4 P nt rs A C E g ps.toList asx bd
 | _ => false
theorem Zlq {f : FuncId} {fn : Func} {args : Array Value} {nt : Nat} {rs : List (Nat × Option TypeId)} (hm : P.follows .mixedOrders = true)
  (hf : P.funcs[f]? = some fn) (hn : fn.ntmps = nt) (hr : fn.results = (rs.map Zx9).toArray) (hargs : args.size ≤ nt)
  (hok : ZrS P nt rs fn.body = true) {X : Prop} (hX : X = Zx1 P nt rs fn.body args w K) (h : X) : Zdi P f args w K := by
 rw [hX] at h
 unfold Zx1 at h
 unfold ZrS at hok
 split at h
 ·rename_i A C j g ps asx bd E hb
  rw [hb] at hok
  exact ZmS (i := j) (ps := ps.toList) hm hf (by rw [hb, Array.toArray_toList]) hn hr hargs hok h
 ·exact h.elim

variable {e : World} {R : List HP} {LR : Loop → Prop} {l : Nat}
def lpD (LR : Loop → Prop) (l : Nat) : HP := fun h => ∃ r, LR r ∧ r.state = .done ∧ r.pending = some .ret ∧ h l = some (.loop r)
theorem ZGj {K : World → Prop} (hS : Sat e w (lpC LR l .busy :: R)) (hk : ∀ w', Sat e w' (lpD LR l :: R) → K w') : edr l w K := by
 obtain ⟨hc, r, h1, h2, h3, h4⟩ := ZhR hS
 refine ⟨r, ZcS h4, hk _ ?_⟩
 have h5 : Sat e (w.putObj l (.loop { r with state := .done, pending := some .ret })) ((fun h => h l = some (.loop { r with state := .done, pending := some .ret })) :: R) := h4.setB
 exact h5.imp fun g hg => ⟨_, hc r .done (some .ret) h1, rfl, rfl, hg⟩
theorem ZF0 {gv : Value} {np : Nat} {Bd : Nat → (Nat → Value) → World → KV → Prop} {Kn Kr : Nat → World → Prop} {f2 : FuncId} {captured : Array Value} (hg : gv = .func (.func f2) #[] captured) (hb : ZdL P f2 = true) (hS : Sat e w R)
  (h : ∀ (l D : Nat) (LR : Loop → Prop) (w1 : World) (Kf : World → Prop),
   (∀ {e W : World} {R : List HP} {args : Array Value} {K : KV}, Sat e W (lpC LR l .ready :: R) → args.size = np → Bd l (fun i => args.getD i undef) W K → clV P (.func (.yield l) #[] #[]) args W K) →
   (∀ {W : World} {R : List HP}, Sat e W (lpC LR l .ready :: R) → (∀ W', Sat e W' R → Kn D W') → Kf W) →
   (∀ {W : World} {R : List HP}, Sat e W (lpD LR l :: R) → (∀ W', Sat e W' R → Kr D W') → Kf W) →
   Sat e w1 (lpC LR l .ready :: dfC D :: R) → Cl P f2 (#[.func (.yield l) #[] #[]] ++ captured) w1 fun _ W => Kf W) : ZFR P gv np Bd w Kn Kr := by
 intro LR hc hy r hr hst hpd
 refine ⟨f2, #[], captured, hg, hb, ?_⟩
 have h1 := (hS.alloc (.deferred (some []))).alloc (.loop r)
 rw [World.size_alloc] at h1
 refine h (w.heap.size + 1) w.heap.size LR _ _ ?_ ?_ ?_ (h1.imp fun g hg => ⟨hc, r, hr, hst, hpd, hg⟩)
 ·intro e W R args K hW hs hB
  obtain ⟨_, r, k1, k2, k3, k4⟩ := ZhR hW
  refine ⟨_, _, _, rfl, ?_⟩
  show ex P (Instr.yield _ (#[] ++ args)) W K
  rw [Array.empty_append]
  exact hy r W _ args K k1 (ZcS k4) hs hB
 ·intro W R hW hK
  obtain ⟨_, r, k1, k2, k3, k4⟩ := ZhR hW
  refine ⟨r, ZcS k4, by rw [k2]; exact (by decide), .inl ⟨k3, hK _ ?_⟩⟩
  have h5 : Sat e (W.putObj (w.heap.size + 1) (.loop { r with state := .exhausted })) ((fun h => h (w.heap.size + 1) = some (.loop { r with state := .exhausted })) :: R) := k4.setB
  exact h5.drop
 ·intro W R hW hK
  obtain ⟨h1, h2, d, s1, s2, ⟨r, k1, k2, k3, k4⟩, h7⟩ := hW.mem
  have k4 : Sat e W ((fun h => h (w.heap.size + 1) = some (.loop r)) :: R) := hW.of_mem fun _ => ⟨h1, h2, d, s1, s2, k4, h7⟩
  refine ⟨r, ZcS k4, by rw [k2]; exact (by decide), .inr ⟨k3, hK _ ?_⟩⟩
  have h5 : Sat e (W.putObj (w.heap.size + 1) (.loop { r with state := .exhausted })) ((fun h => h (w.heap.size + 1) = some (.loop { r with state := .exhausted })) :: R) := k4.setB
  exact h5.drop
end
end Go.E
end
section
namespace Go.Proofs.YtncgbaokgniphaaGreat
open Go Go.E
set_option linter.unusedVariables false
set_option maxRecDepth 100000
noncomputable abbrev prog : Program := Go.Proofs.Tryz.prog
theorem Zm : prog.follows .mixedOrders = true := by kernel_rfl
theorem ZML {f : FuncId} {fn : Func} {args : Array Value} {w : World} {K : KV} {F : Prop} (nt : Nat) (rs : List Nat) (hf : prog.funcs[f]? = some fn) (h : F) (hb : ZdL prog f = true := by kernel_rfl) (hs : (match fn.body with | some _ => true | none => false) = true := by kernel_rfl) (hn : fn.ntmps = nt := by kernel_rfl) (hr : fn.results = (rs.map ResultVar.tmp).toArray := by kernel_rfl) (ha : Nat.ble args.size nt = true := by kernel_rfl) (hok : ZGz prog nt rs (match fn.body with | some c => c | none => .skip) = true := by kernel_rfl) (he : F = fnW prog nt rs (match fn.body with | some c => c | none => .skip) args w K := by kernel_rfl) : Cl prog f args w K :=
 Cl.mk hb (Zc Zm hf hs hn hr (Nat.le_of_ble_eq_true ha) hok he h)
theorem ZMM {f : FuncId} {fn : Func} {args : Array Value} {w : World} {K : KV} {F : Prop} (nt : Nat) (rs : List (Nat × Option TypeId)) (hf : prog.funcs[f]? = some fn) (h : F) (hb : ZdL prog f = true := by kernel_rfl) (hs : (match fn.body with | some _ => true | none => false) = true := by kernel_rfl) (hn : fn.ntmps = nt := by kernel_rfl) (hr : fn.results = (rs.map Zx9).toArray := by kernel_rfl) (ha : Nat.ble args.size nt = true := by kernel_rfl) (hok : ZEZ prog nt rs (match fn.body with | some c => c | none => .skip) = true := by kernel_rfl) (he : F = ZGt prog nt rs (match fn.body with | some c => c | none => .skip) args w K := by kernel_rfl) : Cl prog f args w K :=
 Cl.mk hb (Zab Zm hf hs hn hr (Nat.le_of_ble_eq_true ha) hok he h)
abbrev Iw (n : Int) : Value := .int .i64 n
end Go.Proofs.YtncgbaokgniphaaGreat
end
section
namespace Go.E
open Go.RowKit

theorem ZwL {k : IntKind} {a b : Int} {w : World} {K : KV} (h : K (.bool (decide (a < b))) w) : bi .lss k (.int k a) (.int k b) w K := by
 by_cases c : a < b
 ·rw [decide_eq_true c] at h; exact Ztt c h
 ·rw [decide_eq_false c] at h; exact Ze7 c h
theorem ZHY {k : IntKind} {a b : Int} {w : World} {K : KV} (h : K (.bool (decide (a ≤ b))) w) : bi .leq k (.int k a) (.int k b) w K := by
 by_cases c : a ≤ b
 ·rw [decide_eq_true c] at h; exact ZCA c h
 ·rw [decide_eq_false c] at h; exact ZCF c h
theorem ZFJ {k : IntKind} {a b : Int} {w : World} {K : KV} (h : K (.bool (decide (b < a))) w) : bi .gtr k (.int k a) (.int k b) w K := by
 by_cases c : b < a
 ·rw [decide_eq_true c] at h; exact ZtF c h
 ·rw [decide_eq_false c] at h; exact Zle c h
theorem ZGo {k : IntKind} {a b : Int} {w : World} {K : KV} (h : K (.bool (decide (b ≤ a))) w) : bi .geq k (.int k a) (.int k b) w K := by
 by_cases c : b ≤ a
 ·rw [decide_eq_true c] at h; exact Zqv c h
 ·rw [decide_eq_false c] at h; exact ZnR c h
theorem ZBD {k : IntKind} {a b : Int} {w : World} {K : KV} (h : K (.bool (decide (a = b))) w) : bi .eql k (.int k a) (.int k b) w K := by
 by_cases c : a = b
 ·rw [decide_eq_true c] at h; exact Znq c h
 ·rw [decide_eq_false c] at h; exact Zd8 c h
theorem ZF7 {k : IntKind} {a b : Int} {w : World} {K : KV} (h : K (.bool (decide (¬ a = b))) w) : bi .neq k (.int k a) (.int k b) w K := by
 by_cases c : ¬ a = b
 ·rw [decide_eq_true c] at h; exact Zng c h
 ·rw [decide_eq_false c] at h; exact ZoP (Decidable.not_not.1 c) h
theorem Zam {a b : Value} {w : World} {K : KV} (h : K a w) : xt 0 (.tuple #[a, b]) w K := ⟨_, a, rfl, rfl, h⟩
theorem Zal {a b : Value} {w : World} {K : KV} (h : K b w) : xt 1 (.tuple #[a, b]) w K := ⟨_, b, rfl, rfl, h⟩
theorem Zok {a b c : Value} {w : World} {K : KV} (h : K a w) : xt 0 (.tuple #[a, b, c]) w K := ⟨_, a, rfl, rfl, h⟩
theorem Zow {a b c : Value} {w : World} {K : KV} (h : K b w) : xt 1 (.tuple #[a, b, c]) w K := ⟨_, b, rfl, rfl, h⟩
theorem ZoK {a b c : Value} {w : World} {K : KV} (h : K c w) : xt 2 (.tuple #[a, b, c]) w K := ⟨_, c, rfl, rfl, h⟩
theorem Zrb {s : Bool} {body : KV → Prop} {w : World} {K : KV} (h : K undef w) : gd undef s body w K := ⟨fun e => (by cases e), fun _ => h⟩
theorem Zk5 {q : Bool} {w : World} {K : KV} (h : K (.bool (!q)) w) : Zb3 (.bool q) w K := ⟨q, rfl, h⟩
theorem Zt1 {p : Prop} [Decidable p] {A B : Prop} (h1 : p → A) (h2 : ¬ p → B) : Zr (.bool (decide p)) A B := ⟨decide p, rfl, fun h => h1 (of_decide_eq_true h), fun h => h2 (of_decide_eq_false h)⟩
theorem Zuk (p : Nat → Prop) : ∀ n, p n → ∃ n, p n ∧ ∀ m, p m → n ≤ m := by
 intro n
 induction n using Nat.strongRecOn with
 | _ n ih =>
  intro h
  by_cases hq : ∃ m, m < n ∧ p m
  ·obtain ⟨m, hm, hpm⟩ := hq
   exact ih m hm hpm
  ·exact ⟨n, h, fun m hm => by
    by_cases hl : m < n
    ·exact absurd ⟨m, hl, hm⟩ hq
    ·omega⟩
open Classical in
noncomputable def lst (p : Nat → Prop) : Nat := if h : ∃ n, p n ∧ ∀ m, p m → n ≤ m then Classical.choose h else 0
theorem Zdy {p : Nat → Prop} {n : Nat} (h : p n) : p (lst p) ∧ ∀ m, p m → lst p ≤ m := by
 have := Zuk p n h
 unfold lst
 rw [dif_pos this]
 exact Classical.choose_spec this
theorem ZG9 {w : World} {f : World → Zbc → Prop} (I : Nat → World → Prop) (n : Nat) (h0 : I n w)
  (hr : ∀ n w (g : Zbc), I n w → (∀ n' w', n' < n → I n' w' → g [] w') → f w g) : lp [] w (b0 f) := by
 refine lp0 (fun w => ∃ n, I n w) (fun w => lst fun n => I n w) ⟨n, h0⟩ ?_
 rintro w g ⟨n, hI⟩ hg
 have hs := Zdy (p := fun n => I n w) hI
 exact hr _ w g hs.1 fun n' w' hn hI' => hg _ ⟨n', hI'⟩ (Nat.lt_of_le_of_lt ((Zdy (p := fun n => I n w') hI').2 n' hI') hn)
theorem Zdk {x0 : Value} {w : World} {f : Value → World → Zbc → Prop} (I : Nat → Value → World → Prop) (n : Nat) (h0 : I n x0 w)
  (hr : ∀ n x0 w (g : Zbc), I n x0 w → (∀ n' x0' w', n' < n → I n' x0' w' → g [x0'] w') → f x0 w g) : lp [x0] w (b1 f) := by
 refine lp1 (fun x0 w => ∃ n, I n x0 w) (fun x0 w => lst fun n => I n x0 w) ⟨n, h0⟩ ?_
 rintro x0 w g ⟨n, hI⟩ hg
 have hs := Zdy (p := fun n => I n x0 w) hI
 exact hr _ x0 w g hs.1 fun n' x0' w' hn hI' => hg _ _ ⟨n', hI'⟩ (Nat.lt_of_le_of_lt ((Zdy (p := fun n => I n x0' w') hI').2 n' hI') hn)
theorem ZjF {x0 x1 : Value} {w : World} {f : Value → Value → World → Zbc → Prop} (I : Nat → Value → Value → World → Prop) (n : Nat) (h0 : I n x0 x1 w)
  (hr : ∀ n x0 x1 w (g : Zbc), I n x0 x1 w → (∀ n' x0' x1' w', n' < n → I n' x0' x1' w' → g [x0', x1'] w') → f x0 x1 w g) : lp [x0, x1] w (b2 f) := by
 refine lp2 (fun x0 x1 w => ∃ n, I n x0 x1 w) (fun x0 x1 w => lst fun n => I n x0 x1 w) ⟨n, h0⟩ ?_
 rintro x0 x1 w g ⟨n, hI⟩ hg
 have hs := Zdy (p := fun n => I n x0 x1 w) hI
 exact hr _ x0 x1 w g hs.1 fun n' x0' x1' w' hn hI' => hg _ _ _ ⟨n', hI'⟩ (Nat.lt_of_le_of_lt ((Zdy (p := fun n => I n x0' x1' w') hI').2 n' hI') hn)
theorem ZIw {x0 x1 x2 : Value} {w : World} {f : Value → Value → Value → World → Zbc → Prop} (I : Nat → Value → Value → Value → World → Prop) (n : Nat) (h0 : I n x0 x1 x2 w)
  (hr : ∀ n x0 x1 x2 w (g : Zbc), I n x0 x1 x2 w → (∀ n' x0' x1' x2' w', n' < n → I n' x0' x1' x2' w' → g [x0', x1', x2'] w') → f x0 x1 x2 w g) : lp [x0, x1, x2] w (b3 f) := by
 refine lp3 (fun x0 x1 x2 w => ∃ n, I n x0 x1 x2 w) (fun x0 x1 x2 w => lst fun n => I n x0 x1 x2 w) ⟨n, h0⟩ ?_
 rintro x0 x1 x2 w g ⟨n, hI⟩ hg
 have hs := Zdy (p := fun n => I n x0 x1 x2 w) hI
 exact hr _ x0 x1 x2 w g hs.1 fun n' x0' x1' x2' w' hn hI' => hg _ _ _ _ ⟨n', hI'⟩ (Nat.lt_of_le_of_lt ((Zdy (p := fun n => I n x0' x1' x2' w') hI').2 n' hI') hn)
theorem ZlB {κ ν : Type} [DecidableEq κ] : ∀ {m : List (κ × ν)}, (m.map (·.1)).Nodup → ∀ {p : κ × ν}, p ∈ m → (m.find? fun q => decide (q.1 = p.1)) = some p
 | [], _, p, h => by cases h
 | q :: m, hn, p, h => by
  rw [List.map_cons, List.nodup_cons] at hn
  rw [List.find?_cons]
  cases h with
  | head => simp
  | tail _ h =>
   have : ¬ q.1 = p.1 := fun e => hn.1 (List.mem_map.2 ⟨p, h, e.symm⟩)
   simp only [this, decide_false]
   exact ZlB hn.2 h

section
variable {κ ν : Type}
structure ZvT [DecidableEq κ] (P : Program) (kt : TypeId) (kf : κ → Value) : Prop where
 chk : ∀ (b : Bool) (k : κ) (w : World), (Instr.checkKey b 10000 kt (kf k)).run P w = .ok () w
 fnd : ∀ (k : κ) (es : List MapEntry) (ks : List κ), es.map (·.key) = ks.map kf → ∀ w : World, (Instr.findKey kt (kf k) es).run P w = .ok ((ks.findIdx? fun x => decide (x = k)).bind fun i => (es[i]?).map fun e => (i, e.val)) w
 sam : ∀ k, Instr.sameBits 10000 (kf k) (kf k) = true

structure Zx6 (P : Program) (t kt vt : TypeId) (zv : Value) : Prop where
 und : P.underlying t = some (.map kt vt)
 zero : ∃ i, P.info? vt = some i ∧ i.zero = some zv

def ZBE (es : List MapEntry) (clock : Nat) : Prop := es.Pairwise (fun a b => a.born < b.born) ∧ ∀ e ∈ es, e.born < clock
def Zcn (kf : κ → Value) (vf : ν → Value) (p : κ × ν) : Value × Value := (kf p.1, vf p.2)
def Zaj (kf : κ → Value) (vf : ν → Value) (b : Nat) (m : List (κ × ν)) : HP := fun h =>
 ∃ es clock, h b = some (.map es clock) ∧ es.toList.map (fun e => (e.key, e.val)) = m.map (Zcn kf vf) ∧ ZBE es.toList clock
def lkA [DecidableEq κ] (m : List (κ × ν)) (k : κ) : Option ν := (m.find? fun p => decide (p.1 = k)).map (·.2)
def upA [DecidableEq κ] (m : List (κ × ν)) (k : κ) (x : ν) : List (κ × ν) := if (lkA m k).isSome then m.map (fun p => if p.1 = k then (k, x) else p) else m ++ [(k, x)]
def Znz (m : List (κ × ν)) : Prop := (m.map (·.1)).Nodup

variable {P : Program} {kt vt t : TypeId} {kf : κ → Value} {vf : ν → Value} {zv : Value} {e w : World} {L : List HP} {K : KV} {b : Nat} {m : List (κ × ν)}

theorem ZlZ {es : List MapEntry} (h : es.map (fun e => (e.key, e.val)) = m.map (Zcn kf vf)) : es.map (·.key) = (m.map (·.1)).map kf := by
 have := congrArg (List.map Prod.fst) h
 simpa [List.map_map, Function.comp_def, Zcn] using this
theorem ZxB {es : List MapEntry} (h : es.map (fun e => (e.key, e.val)) = m.map (Zcn kf vf)) (i : Nat) : (es[i]?).map (·.val) = (m[i]?).map fun p => vf p.2 := by
 have := congrArg (fun l => (l[i]?).map Prod.snd) h
 simpa [List.getElem?_map, Option.map_map, Function.comp_def, Zcn] using this
theorem ZxT {es : List MapEntry} (h : es.map (fun e => (e.key, e.val)) = m.map (Zcn kf vf)) (i : Nat) : (es[i]?).map (·.key) = (m[i]?).map fun p => kf p.1 := by
 have := congrArg (fun l => (l[i]?).map Prod.fst) h
 simpa [List.getElem?_map, Option.map_map, Function.comp_def, Zcn] using this

theorem ZlY [DecidableEq κ] : ∀ (m : List (κ × ν)) (k : κ), ((m.map (·.1)).findIdx? fun x => decide (x = k)).bind (fun i => (m[i]?).map (·.2)) = lkA m k
 | [], k => rfl
 | p :: m, k => by
  simp only [List.map_cons, List.findIdx?_cons, lkA, List.find?_cons]
  by_cases h : p.1 = k
  ·simp [h]
  ·have ih := ZlY m k
   simp only [lkA] at ih
   simp only [h, decide_false, Bool.false_eq_true, if_false, ← ih]
   cases hf : (m.map (·.1)).findIdx? (fun x => decide (x = k)) with
   | none => simp
   | some i => simp

theorem Sat.getMap (hS : Sat e w L) (i : Nat) (hi : L[i]? = some (Zaj kf vf b m)) : ∃ es clock, w.heap[b]? = some (.map es clock) ∧ es.toList.map (fun e => (e.key, e.val)) = m.map (Zcn kf vf) ∧ ZBE es.toList clock := by
 obtain ⟨g, ⟨es, clock, h1, h2, h3⟩, hs⟩ := hS.get i hi
 exact ⟨es, clock, hs _ _ h1, h2, h3⟩

theorem Zfx (kf : κ → Value) (vf : ν → Value) (hS : Sat e w L) (hk : ∀ b w', Sat e w' (Zaj kf vf b [] :: L) → K (.map (some b)) w') : ZlQ w K := by
 refine hk _ _ ((hS.alloc (.map #[] 0)).imp fun g hg => ⟨#[], 0, hg, rfl, ?_⟩)
 exact ⟨List.Pairwise.nil, fun e he => by cases he⟩

theorem Zbf {b : Nat} {es : Array MapEntry} {clock : Nat} (h : w.heap[b]? = some (.map es clock)) : (getObj b).run P w = .ok (.map es clock) w := by
 simp only [getObj, Sem.run, h]

theorem ZsE [DecidableEq κ] (KT : ZvT P kt kf) (MT : Zx6 P t kt vt zv) (hS : Sat e w L) (i : Nat) (hi : L[i]? = some (Zaj kf vf b m)) (k : κ)
  (hk : K (.tuple #[match lkA m k with | some x => vf x | none => zv, .bool (lkA m k).isSome]) w) : lkM P t (.map (some b)) (kf k) true w K := by
 obtain ⟨es, clock, h1, h2, h3⟩ := hS.getMap i hi
 obtain ⟨inf, hi1, hi2⟩ := MT.zero
 refine Yn (w' := w) ?_ hk
 have hf := KT.fnd k es.toList (m.map (·.1)) (ZlZ h2) w
 unfold Instr.lookup
 simp only [Sem.run_bind, Yb MT.und, Result.andThen_ok, Zbf h1, Sem.run_pure, KT.chk, hf]
 have hl := ZlY m k
 cases hx : (m.map (·.1)).findIdx? (fun x => decide (x = k)) with
 | none =>
  rw [hx] at hl
  simp only [Option.bind_none] at hl ⊢
  rw [← hl]
  simp only [Sem.run_bind, Zdn hi1 hi2, Result.andThen_ok, Sem.run_pure]
  rfl
 | some j =>
  rw [hx] at hl
  simp only [Option.bind_some] at hl ⊢
  have hv := ZxB h2 j
  have hjl : j < m.length := by
   obtain ⟨hj, _⟩ := List.findIdx?_eq_some_iff_getElem.1 hx
   simpa using hj
  rw [List.getElem?_eq_getElem hjl] at hv hl
  simp only [Option.map_some] at hv hl
  obtain ⟨e', he, hev⟩ := Option.map_eq_some_iff.1 hv
  rw [he, ← hl]
  simp only [Option.map_some, hev]
  rfl

theorem Zmm {k0 : IntKind} (k : Int) : ∀ (es : List MapEntry) (ks : List Int) (i : Nat), es.map (·.key) = ks.map (fun n => Value.int k0 n) →
  Instr.findNow (.int k0) (.int k0 k) es i = some ((ks.findIdx? fun x => decide (x = k)).bind fun j => (es[j]?).map fun e => (i + j, e.val))
 | [], ks, i, h => by
  cases ks with
  | nil => rfl
  | cons => cases h
 | e :: es, ks, i, h => by
  cases ks with
  | nil => cases h
  | cons x ks =>
   simp only [List.map_cons, List.cons.injEq] at h
   simp only [Instr.findNow, h.1, Instr.sameNow, if_true, List.findIdx?_cons]
   by_cases hx : x = k
   ·subst hx
    simp
   ·have hk : (k == x) = false := by simp; exact fun e => hx e.symm
    rw [hk, Zmm k es ks (i + 1) h.2]
    simp only [hx, decide_false, Bool.false_eq_true, if_false]
    cases ks.findIdx? (fun x => decide (x = k)) with
    | none => rfl
    | some j => simp [Nat.add_comm, Nat.add_left_comm]

theorem Zwe {P : Program} {kt : TypeId} {k0 : IntKind} (hu : P.underlying kt = some (.int k0)) : ZvT P kt (fun n : Int => .int k0 n) where
 chk b k w := by
  unfold Instr.checkKey
  simp only [Sem.run_bind, Yb hu, Result.andThen_ok, Sem.run_pure]
 fnd k es ks h w := by
  unfold Instr.findKey
  simp only [Sem.run_bind, Yb hu, Result.andThen_ok, Zmm k es ks 0 h, Sem.run_pure, Nat.zero_add]
 sam k := by simp [Instr.sameBits]

theorem ZlP {es : List MapEntry} {clock : Nat} (h : ZBE es clock) (i : Nat) (f : MapEntry → MapEntry) (hf : ∀ e, (f e).born = e.born) : ZBE (es.modify i f) clock := by
 have hb : (es.modify i f).map (·.born) = es.map (·.born) := by
  apply List.ext_getElem?
  intro j
  simp only [List.getElem?_map, List.getElem?_modify]
  cases es[j]? with
  | none => rfl
  | some x => by_cases hij : i = j <;> simp [hij, hf]
 constructor
 ·have h1 := (List.pairwise_map (f := fun e : MapEntry => e.born) (R := (· < ·))).2 h.1
  rw [← hb] at h1
  exact List.pairwise_map.1 h1
 ·intro e he
  have : e.born ∈ (es.modify i f).map (·.born) := List.mem_map.2 ⟨e, he, rfl⟩
  rw [hb] at this
  obtain ⟨e', he', h2⟩ := List.mem_map.1 this
  rw [← h2]
  exact h.2 e' he'

theorem ZsG [DecidableEq κ] (KT : ZvT P kt kf) (MT : Zx6 P t kt vt zv) (hu : Znz m) (hS : Sat e w (Zaj kf vf b m :: L)) (k : κ) (x : ν) {xv : Value} (hx : xv = vf x)
  (hk : ∀ w', Sat e w' (Zaj kf vf b (upA m k x) :: L) → K undef w') : upM P t (.map (some b)) (kf k) xv w K := by
 subst hx
 obtain ⟨h1, h2, d, s1, s2, ⟨es, clock, hb, hm, hbo⟩, r⟩ := hS.mem
 have hh : w.heap[b]? = some (.map es clock) := s1 _ _ hb
 have hlt : b < w.heap.size := (Array.getElem?_eq_some_iff.1 hh).1
 have hS0 : Sat e w ((fun g => g b = some (.map es clock)) :: L) := ⟨hS.os, hS.tape, hS.output, hS.drawn, hS.size, h1, h2, d, s1, s2, hb, r⟩
 have hf := KT.fnd k es.toList (m.map (·.1)) (ZlZ hm) w
 have hl := ZlY m k
 cases hx : (m.map (·.1)).findIdx? (fun x => decide (x = k)) with
 | none =>
  rw [hx] at hl hf
  simp only [Option.bind_none] at hl hf
  refine Zwl (w' := World.setB w b (.map (es.push { key := kf k, val := vf x, born := clock }) (clock + 1))) ?_ (hk _ ?_)
  ·unfold Instr.mapUpdate
   simp only [Sem.run_bind, Yb MT.und, Result.andThen_ok, Zbf hh, KT.chk, hf, setObj, Sem.run, hh, World.setB]
  ·refine hS0.setB.imp fun g hg => ⟨_, _, hg, ?_, ?_⟩
   ·unfold upA
    rw [← hl]
    simp [hm, Zcn]
   ·constructor
    ·rw [Array.toList_push, List.pairwise_append]
     exact ⟨hbo.1, by simp, fun a ha b hb' => by simp at hb'; subst hb'; exact hbo.2 a ha⟩
    ·intro e' he'
     rw [Array.toList_push, List.mem_append] at he'
     rcases he' with he' | he'
     ·have := hbo.2 e' he'; omega
     ·simp at he'; subst he'; simp
 | some j =>
  rw [hx] at hl hf
  simp only [Option.bind_some] at hl hf
  obtain ⟨hj, hjk, hjn⟩ := List.findIdx?_eq_some_iff_getElem.1 hx
  simp only [List.length_map] at hj
  simp only [List.getElem_map, decide_eq_true_eq] at hjk
  have hkey := ZxT hm j
  rw [List.getElem?_eq_getElem hj] at hkey hl
  simp only [Option.map_some] at hkey hl
  obtain ⟨e', he, hek⟩ := Option.map_eq_some_iff.1 hkey
  rw [he] at hf
  simp only [Option.map_some] at hf
  have he2 : es[j]? = some e' := by rw [← Array.getElem?_toList]; exact he
  refine Zwl (w' := World.setB w b (.map (es.modify j fun e => { e with key := kf k, val := vf x }) clock)) ?_ (hk _ ?_)
  ·unfold Instr.mapUpdate
   have hst : (Instr.keyThatStays (((es[j]?).map (·.key)).getD (kf k)) (kf k)).run P w = .ok (kf k) w := by
    rw [he2]
    simp only [Option.map_some, Option.getD_some, hek, hjk, Instr.keyThatStays, KT.sam, if_true, Sem.run_pure]
   simp only [Sem.run_bind, Yb MT.und, Result.andThen_ok, Zbf hh, KT.chk, hf, hst, setObj, Sem.run, hh, World.setB]
  ·refine hS0.setB.imp fun g hg => ⟨_, _, hg, ?_, ?_⟩
   ·unfold upA
    rw [← hl]
    simp only [Option.isSome_some, if_true]
    apply List.ext_getElem?
    intro n
    have hn := congrArg (fun l => l[n]?) hm
    simp only [List.getElem?_map] at hn ⊢
    rw [Array.toList_modify, List.getElem?_modify]
    cases hen : es.toList[n]? with
    | none =>
     rw [hen] at hn
     cases hmn : m[n]? with
     | none => rfl
     | some p => rw [hmn] at hn; cases hn
    | some en =>
     rw [hen] at hn
     cases hmn : m[n]? with
     | none => rw [hmn] at hn; cases hn
     | some p =>
      rw [hmn] at hn
      simp only [Option.map_some, Option.some.injEq] at hn ⊢
      by_cases hjn' : j = n
      ·subst hjn'
       have hp : p.1 = k := by
        rw [List.getElem?_eq_getElem hj] at hmn
        cases hmn
        exact hjk
       simp [hp, Zcn]
      ·have hp : p.1 ≠ k := by
        intro hpk
        have hnl := (List.getElem?_eq_some_iff.1 hmn).1
        have e1 : (m.map (·.1))[j]? = some k := by simp [List.getElem?_eq_getElem hj, hjk]
        have e2 : (m.map (·.1))[n]? = some k := by simp [hmn, hpk]
        have := (List.getElem?_inj (by simpa using hj) hu).1 (e1.trans e2.symm)
        exact hjn' this
       simp only [hjn', if_false, hp]
       exact congrArg some hn
   ·rw [Array.toList_modify]
    exact ZlP hbo j _ (fun _ => rfl)

theorem Zw2 [DecidableEq κ] (m : List (κ × ν)) (k : κ) (x : ν) : (upA m k x).map (·.1) = if (lkA m k).isSome then m.map (·.1) else m.map (·.1) ++ [k] := by
 unfold upA
 split
 ·rw [List.map_map]
  apply List.map_congr_left
  intro p _
  simp only [Function.comp]
  split
  ·rename_i h; exact h.symm
  ·rfl
 ·simp
theorem ZwA [DecidableEq κ] {m : List (κ × ν)} {k : κ} : lkA m k = none ↔ k ∉ m.map (·.1) := by
 unfold lkA
 simp only [Option.map_eq_none_iff, List.find?_eq_none, decide_eq_true_eq, List.mem_map, not_exists, not_and]
theorem Znz.up [DecidableEq κ] {m : List (κ × ν)} (h : Znz m) (k : κ) (x : ν) : Znz (upA m k x) := by
 unfold Znz
 rw [Zw2]
 split
 ·exact h
 ·rename_i hn
  have : lkA m k = none := by cases hl : lkA m k <;> simp_all
  rw [ZwA] at this
  rw [List.nodup_append]
  exact ⟨h, by simp, fun a ha b hb => by simp at hb; subst hb; exact fun e => this (e ▸ ha)⟩
theorem ZiY [DecidableEq κ] {m : List (κ × ν)} (_h : Znz m) (k : κ) (x : ν) (j : κ) : lkA (upA m k x) j = if j = k then some x else lkA m j := by
 unfold upA
 split
 ·rename_i hs
  clear _h
  induction m with
  | nil => simp [lkA] at hs
  | cons p m ih =>
   simp only [lkA, List.map_cons, List.find?_cons] at hs ih ⊢
   by_cases hp : p.1 = k
   ·by_cases hj : j = k
    ·subst hj
     simp [hp]
    ·have hpj : ¬ p.1 = j := fun e => hj (e ▸ hp)
     have hkj : ¬ k = j := fun e => hj e.symm
     simp only [hp, if_true, hkj, decide_false, hj, if_false]
     clear ih hs
     have : ∀ m : List (κ × ν), ((m.map fun p => if p.1 = k then (k, x) else p).find? fun p => decide (p.1 = j)).map (·.2) = (m.find? fun p => decide (p.1 = j)).map (·.2) := by
      intro m
      induction m with
      | nil => rfl
      | cons q m ih =>
       simp only [List.map_cons, List.find?_cons]
       by_cases hq : q.1 = k
       ·have hqj : ¬ q.1 = j := fun e => hj (e ▸ hq)
        simp only [hq, if_true, hkj, decide_false]
        exact ih
       ·simp only [hq, if_false]
        cases hqd : decide (q.1 = j) with
        | true => rfl
        | false => exact ih
     simpa using this m
   ·simp only [hp, decide_false, if_false] at hs ⊢
    have ih' := ih hs
    by_cases hpj : p.1 = j
    ·have hjk : ¬ j = k := fun e => hp (hpj.trans e)
     simp [hpj, hjk]
    ·simp only [hpj, decide_false]
     exact ih'
 ·rename_i hn
  have hnone : lkA m k = none := by cases hl : lkA m k <;> simp_all
  unfold lkA at hnone ⊢
  rw [List.find?_append]
  by_cases hj : j = k
  ·subst hj
   rw [Option.map_eq_none_iff] at hnone
   simp [hnone]
  ·have hkj : ¬ k = j := fun e => hj e.symm
   simp [hj, hkj]

def ZwS (kf : κ → Value) (vf : ν → Value) (b r : Nat) (m rem : List (κ × ν)) (cur : Option (κ × ν)) : HP := fun h =>
 ∃ es clock seen, h b = some (.map es clock) ∧ h r = some (.mapIter (some b) clock seen clock) ∧ es.toList.map (fun e => (e.key, e.val)) = m.map (Zcn kf vf) ∧ ZBE es.toList clock ∧
  (es.toList.filter fun e => !seen.contains e.born).map (fun e => (e.key, e.val)) = rem.map (Zcn kf vf) ∧
  match cur with
  | none => seen = #[]
  | some p => ∃ e' ∈ es.toList, seen.back? = some e'.born ∧ (e'.key, e'.val) = Zcn kf vf p

theorem ZB0 (hu : P.underlying t = some (.map kt vt)) (hS : Sat e w (Zaj kf vf b m :: L)) (hk : ∀ r w', Sat e w' (ZwS kf vf b r m m none :: L) → K (.pointer (some ⟨r, 0, none⟩)) w') : rgM P t (.map (some b)) w K := by
 obtain ⟨h1, h2, d, s1, s2, ⟨es, clock, hb, hm, hbo⟩, r⟩ := hS.mem
 have hh : w.heap[b]? = some (.map es clock) := s1 _ _ hb
 refine Yn (w' := w.alloc (.mapIter (some b) clock #[] clock)) (v := .pointer (some ⟨w.heap.size, 0, none⟩)) ?_ (hk _ _ ?_)
 ·unfold Instr.range
  simp only [Sem.run_bind, Yb hu, Result.andThen_ok, Zbf hh, Sem.run_pure, newObj, Sem.run, World.alloc]
 ·have hS0 : Sat e w ((fun g => g b = some (.map es clock)) :: L) := ⟨hS.os, hS.tape, hS.output, hS.drawn, hS.size, h1, h2, d, s1, s2, hb, r⟩
  have h3 := hS0.alloc (.mapIter (some b) clock #[] clock)
  refine (Sat.join (l' := [_, _]) h3).imp fun g hg => ?_
  obtain ⟨g1, g2, d', t1, t2, p1, g3, g4, d2, t3, t4, p2, _⟩ := hg
  exact ⟨es, clock, #[], t2 _ _ (t3 _ _ p2), t1 _ _ p1, hm, hbo, by rw [List.filter_eq_self.2 (fun _ _ => by simp)]; exact hm, rfl⟩

theorem Zsr {r : Nat} {rem : List (κ × ν)} {cur : Option (κ × ν)} : ∀ g, ZwS kf vf b r m rem cur g → Zaj kf vf b m g := fun _ ⟨es, clock, _, h1, _, h2, h3, _⟩ => ⟨es, clock, h1, h2, h3⟩

theorem Sat.setB2 {b : Nat} {o' : Obj} {Q P2 : HP} (hS : Sat e w (Q :: L)) (hq : ∀ g, Q g → ∃ o, g b = some o) (hp : ∀ g, Q g → P2 (fun x => if x = b then some o' else g x)) : Sat e (World.setB w b o') (P2 :: L) := by
 obtain ⟨h1, h2, d, s1, s2, q, r⟩ := hS.mem
 obtain ⟨o, ho⟩ := hq h1 q
 have hw : Go.E.hp w b = some o := s1 _ _ ho
 have hlt : b < w.heap.size := (Array.getElem?_eq_some_iff.1 hw).1
 have hb2 : h2 b = none := by
  rcases d b with k | k
  ·rw [ho] at k; cases k
  ·exact k
 refine ⟨hS.os, hS.tape, hS.output, hS.drawn, by simpa [World.setB] using hS.size, (fun x => if x = b then some o' else h1 x), h2, fun x => ?_, fun x u k => ?_, fun x u k => ?_, hp _ q, r⟩
 ·by_cases e : x = b
  ·subst e; exact .inr hb2
  ·simp only [if_neg e]; exact d x
 ·rw [ZqG _ _ _ hlt]
  by_cases e : x = b
  ·subst e; simpa using k
  ·simp only [if_neg e] at k ⊢; exact s1 x u k
 ·rw [ZqG _ _ _ hlt]
  by_cases e : x = b
  ·subst e; rw [hb2] at k; cases k
  ·simp only [if_neg e]; exact s2 x u k

theorem List.eraseIdx_map_c {α β : Type} (f : α → β) : ∀ (l : List α) (i : Nat), (l.eraseIdx i).map f = (l.map f).eraseIdx i
 | [], _ => rfl
 | _ :: _, 0 => rfl
 | a :: l, i + 1 => by simp [List.eraseIdx_map_c f l i]
theorem ZpQ (es : List MapEntry) (seen : Array Nat) (x : MapEntry) (i : Nat) (hnd : (es.map (·.born)).Nodup) (l : List MapEntry) (hl : l = es.filter fun e => !seen.contains e.born) (hi : i < l.length) (hx : l[i] = x) :
  (es.filter fun e => !(seen.push x.born).contains e.born) = l.eraseIdx i := by
 have h1 : (es.filter fun e => !(seen.push x.born).contains e.born) = (es.filter fun e => !seen.contains e.born).filter fun e => !(e.born == x.born) := by
  rw [List.filter_filter]
  apply List.filter_congr
  intro a _
  by_cases h : a.born = x.born <;> simp [h, Array.mem_push]
 rw [h1, ← hl]
 have hnd2 : (l.map (·.born)).Nodup := by rw [hl]; exact (List.Sublist.map _ List.filter_sublist).nodup hnd
 clear h1 hnd hl
 induction l generalizing i with
 | nil => cases hi
 | cons a l ih =>
  rw [List.map_cons, List.nodup_cons] at hnd2
  cases i with
  | zero =>
   simp only [List.getElem_cons_zero] at hx
   subst hx
   simp only [List.filter_cons, beq_self_eq_true, Bool.not_true, Bool.false_eq_true, if_false, List.eraseIdx_cons_zero]
   apply List.filter_eq_self.2
   intro y hy
   have : y.born ≠ a.born := fun h => hnd2.1 (List.mem_map.2 ⟨y, hy, h⟩)
   simpa using this
  | succ i =>
   simp only [List.getElem_cons_succ] at hx
   have hil : i < l.length := by simpa using hi
   have : a.born ≠ x.born := fun h => hnd2.1 (List.mem_map.2 ⟨x, by rw [← hx]; exact List.getElem_mem _, h.symm⟩)
   have hb : (!(a.born == x.born)) = true := by simpa using this
   simp only [List.filter_cons, hb, if_true, List.eraseIdx_cons_succ]
   rw [ih i hil hx hnd2.2]

theorem ZBW {r : Nat} {rem : List (κ × ν)} {cur : Option (κ × ν)} {ty : TypeId} (hS : Sat e w (ZwS kf vf b r m rem cur :: L))
  (h0 : rem = [] → ∀ w', Sat e w' (ZwS kf vf b r m [] cur :: L) → K (.tuple #[.bool false]) w')
  (h1 : ∀ (i : Nat) (p : κ × ν) (w' : World), rem[i]? = some p → Sat e w' (ZwS kf vf b r m (rem.eraseIdx i) (some p) :: L) → K (.tuple #[.bool true, kf p.1, vf p.2]) w') :
  nxM P (.pointer (some ⟨r, 0, none⟩)) false ty w K := by
 obtain ⟨g, hg, hs⟩ := hS.get 0 rfl
 obtain ⟨es, clock, seen, hb, hr, hm, hbo, hrem, hcur⟩ := hg
 have hwb : w.heap[b]? = some (.map es clock) := hs _ _ hb
 have hwr : w.heap[r]? = some (.mapIter (some b) clock seen clock) := hs _ _ hr
 have hold : ∀ x ∈ es.toList, x.born < clock := hbo.2
 have hleft : (leftOf es seen).toList = es.toList.filter fun e => !seen.contains e.born := by unfold leftOf; simp
 rw [← hleft] at hrem
 rcases run_next_at (P := P) w ty r b clock clock seen es clock hwr hwb hold (Nat.le_refl _) with ⟨hz, hrun⟩ | ⟨x, hx, w1, hw1, hrun⟩
 ·have hr0 : rem = [] := by
   have := congrArg List.length hrem
   rw [List.length_map, List.length_map, Array.length_toList, hz] at this
   exact List.length_eq_zero_iff.1 this.symm
  subst hr0
  exact Yn hrun (h0 rfl w hS)
 ·obtain ⟨i, hi, hxi⟩ := List.getElem_of_mem hx
  have hil : i < rem.length := by
   have := congrArg List.length hrem
   simp only [List.length_map] at this
   omega
  have hpe : (x.key, x.val) = Zcn kf vf rem[i] := by
   have := congrArg (fun l => l[i]?) hrem
   simp only [List.getElem?_map, List.getElem?_eq_getElem hi, List.getElem?_eq_getElem hil, Option.map_some, Option.some.injEq, hxi] at this
   exact this
  have hSw : Sat e w1 (ZwS kf vf b r m rem cur :: L) := by rcases hw1 with rfl | rfl; exact hS; exact hS.drew
  have hk2 := h1 i rem[i] (World.setB w1 r (.mapIter (some b) clock (seen.push x.born) clock)) (List.getElem?_eq_getElem hil)
  simp only [Zcn, Prod.mk.injEq] at hpe
  rw [← hpe.1, ← hpe.2] at hk2
  refine Yn hrun (hk2 ?_)
  have hw1b : w1.heap[b]? = some (.map es clock) := by rcases hw1 with rfl | rfl <;> exact hwb
  have hw1r : w1.heap[r]? = some (.mapIter (some b) clock seen clock) := by rcases hw1 with rfl | rfl <;> exact hwr
  have hS1 : Sat e w1 ((fun g => g b = some (.map es clock) ∧ g r = some (.mapIter (some b) clock seen clock)) :: L) := by
   obtain ⟨k1, k2, d, s1, s2, ⟨es', clock', seen', q1, q2, _⟩, rr⟩ := hSw.mem
   have e1 := s1 _ _ q1
   have e2 := s1 _ _ q2
   have f1 : some (Obj.map es' clock') = some (Obj.map es clock) := by rw [← hw1b]; exact e1.symm
   have f2 : some (Obj.mapIter (some b) clock' seen' clock') = some (Obj.mapIter (some b) clock seen clock) := by rw [← hw1r]; exact e2.symm
   refine ⟨hSw.os, hSw.tape, hSw.output, hSw.drawn, hSw.size, k1, k2, d, s1, s2, ⟨by rw [q1, f1], by rw [q2, f2]⟩, rr⟩
  refine hS1.setB2 (fun g hg => ⟨_, hg.2⟩) (fun g hg => ?_)
  have hbr : b ≠ r := by
   intro h
   subst h
   rw [hg.1] at hg
   cases hg.2
  have hnd : (es.toList.map (·.born)).Nodup := (List.pairwise_map (f := fun e : MapEntry => e.born) (R := (· < ·))).2 hbo.1 |>.imp (fun h => Nat.ne_of_lt h)
  refine ⟨es, clock, seen.push x.born, by simp only [if_neg hbr]; exact hg.1, by simp, hm, hbo, ?_, x, ?_, by simp, by simp only [Zcn, hpe]⟩
  ·have : (es.toList.filter fun e => !(seen.push x.born).contains e.born) = (leftOf es seen).toList.eraseIdx i := by
    exact ZpQ es.toList seen x i hnd _ hleft hi hxi
   rw [this, List.eraseIdx_map_c, hrem, ← List.eraseIdx_map_c]
  ·rw [hleft] at hx
   exact (List.mem_filter.1 hx).1

theorem ZCg {r : Nat} {rem : List (κ × ν)} {p : κ × ν} (i : Nat) (hS : Sat e w L) (hi : L[i]? = some (ZwS kf vf b r m rem (some p)))
  (hk : K (.tuple #[kf p.1, vf p.2]) w) : enM P (.pointer (some ⟨r, 0, none⟩)) w K := by
 obtain ⟨g, hg, hs⟩ := hS.get i hi
 obtain ⟨es, clock, seen, hb, hr, hm, hbo, hrem, e', he', hback, hpe⟩ := hg
 have hwb : w.heap[b]? = some (.map es clock) := hs _ _ hb
 have hwr : w.heap[r]? = some (.mapIter (some b) clock seen clock) := hs _ _ hr
 have hfind : es.find? (fun x => x.born == e'.born) = some e' := by
  rw [← Array.find?_toList]
  have huniq : ∀ l : List MapEntry, l.Pairwise (fun a b => a.born < b.born) → e' ∈ l → l.find? (fun x => x.born == e'.born) = some e' := by
   intro l
   induction l with
   | nil => intro _ h; cases h
   | cons x l ih =>
    intro hp hmem
    rw [List.pairwise_cons] at hp
    rw [List.find?_cons]
    cases hmem with
    | head => simp
    | tail _ hmem =>
     have := hp.1 e' hmem
     have hne : (x.born == e'.born) = false := by simp; omega
     rw [hne]
     exact ih hp.2 hmem
  exact huniq _ hbo.1 he'
 refine Yn (w' := w) (v := .tuple #[e'.key, e'.val]) ?_ ?_
 ·unfold Instr.entry
  have h1 : (getObj r).run P w = .ok (.mapIter (some b) clock seen clock) w := by simp only [getObj, Sem.run, hwr]
  simp only [Sem.run_bind, h1, Result.andThen_ok, hback, Zbf hwb, bne_self_eq_false, Bool.false_eq_true, if_false, hfind, Sem.run_pure]
 ·simp only [Zcn, Prod.mk.injEq] at hpe
  rw [hpe.1, hpe.2]
  exact hk
end
end Go.E
end
section
namespace Go.Proofs.YtncgbaokgniphaaGreat
open Go Go.E
set_option linter.unusedVariables false
set_option maxRecDepth 100000
theorem Zr6 : Zl prog 3 = #[(Value.int IntKind.i64 0)] := by kernel_rfl
theorem ZDc : Zl prog 4 = #[(Value.bool false)] := by kernel_rfl
theorem ZxC : prog.underlying 22 = some (.slice 3) := by kernel_rfl
theorem Zvs : TE prog 22 3 1 8 := ⟨ZxC, ⟨Go.Proofs.Tryz.t3, (match Go.Proofs.Tryz.t3.zero with | some z => z | none => undef), by kernel_rfl, by kernel_rfl, by kernel_rfl, by kernel_rfl, by kernel_rfl⟩, by decide⟩
theorem ZxQ : prog.underlying 23 = some (.slice 76) := by kernel_rfl
theorem ZFN : TE prog 23 76 7 120 := ⟨ZxQ, ⟨Go.Proofs.Tryz.t76, (match Go.Proofs.Tryz.t76.zero with | some z => z | none => undef), by kernel_rfl, by kernel_rfl, by kernel_rfl, by kernel_rfl, by kernel_rfl⟩, by decide⟩
theorem ZqI : Zl prog 25 = #[(Value.slice none 0 0), (Value.slice none 0 0), (Value.int IntKind.i64 0)] := by kernel_rfl
theorem ZDP : prog.underlying 26 = some (.slice 37) := by kernel_rfl
theorem ZDB : eqT prog 6 37 = some 3 := by kernel_rfl
theorem ZxW : prog.underlying 38 = some (.slice 49) := by kernel_rfl
theorem Ztd : TE prog 38 49 7 56 := ⟨ZxW, ⟨Go.Proofs.Tryz.t49, (match Go.Proofs.Tryz.t49.zero with | some z => z | none => undef), by kernel_rfl, by kernel_rfl, by kernel_rfl, by kernel_rfl, by kernel_rfl⟩, by decide⟩
theorem ZuE : Zl prog 45 = #[(Value.int IntKind.i64 0), (Value.int IntKind.i64 0), (Value.int IntKind.i64 0)] := by kernel_rfl
theorem Zvx : eqT prog 6 45 = some 3 := by kernel_rfl
theorem Zui : Zb7 prog 45 = true := by kernel_rfl
theorem ZxG : prog.eqGuardType prog.depth 45 = false := by kernel_rfl
theorem Zbj : Zl prog 47 = #[(Value.int IntKind.i64 0), (Value.int IntKind.i64 0), (Value.int IntKind.i64 0), (Value.int IntKind.i64 0), (Value.int IntKind.i64 0), (Value.int IntKind.i64 0)] := by kernel_rfl
theorem Zor : Zl prog 49 = #[(Value.int IntKind.i64 0), (Value.int IntKind.i64 0), (Value.int IntKind.i64 0), (Value.int IntKind.i64 0), (Value.int IntKind.i64 0), (Value.int IntKind.i64 0), (Value.int IntKind.i64 0)] := by kernel_rfl
theorem ZBQ : eqT prog 6 49 = some 7 := by kernel_rfl
theorem ZDn : Zb7 prog 49 = true := by kernel_rfl
theorem ZFp : prog.eqGuardType prog.depth 49 = false := by kernel_rfl
theorem ZDk : prog.underlying 53 = some (.slice 104) := by kernel_rfl
theorem Zry : TE prog 53 104 8 64 := ⟨ZDk, ⟨Go.Proofs.Tryz.t104, (match Go.Proofs.Tryz.t104.zero with | some z => z | none => undef), by kernel_rfl, by kernel_rfl, by kernel_rfl, by kernel_rfl, by kernel_rfl⟩, by decide⟩
theorem ZEK : prog.underlying 55 = some (.slice 53) := by kernel_rfl
theorem ZFX : TE prog 55 53 1 24 := ⟨ZEK, ⟨Go.Proofs.Tryz.t53, (match Go.Proofs.Tryz.t53.zero with | some z => z | none => undef), by kernel_rfl, by kernel_rfl, by kernel_rfl, by kernel_rfl, by kernel_rfl⟩, by decide⟩
theorem Zpn : prog.underlying 69 = some (.slice 47) := by kernel_rfl
theorem ZsC : TE prog 69 47 6 48 := ⟨Zpn, ⟨Go.Proofs.Tryz.t47, (match Go.Proofs.Tryz.t47.zero with | some z => z | none => undef), by kernel_rfl, by kernel_rfl, by kernel_rfl, by kernel_rfl, by kernel_rfl⟩, by decide⟩
theorem Zxx : prog.underlying 73 = some (.slice 78) := by kernel_rfl
theorem ZFU : TE prog 73 78 4 48 := ⟨Zxx, ⟨Go.Proofs.Tryz.t78, (match Go.Proofs.Tryz.t78.zero with | some z => z | none => undef), by kernel_rfl, by kernel_rfl, by kernel_rfl, by kernel_rfl, by kernel_rfl⟩, by decide⟩
theorem ZxJ : prog.underlying 74 = some (.slice 147) := by kernel_rfl
theorem ZF6 : TE prog 74 147 3 24 := ⟨ZxJ, ⟨Go.Proofs.Tryz.t147, (match Go.Proofs.Tryz.t147.zero with | some z => z | none => undef), by kernel_rfl, by kernel_rfl, by kernel_rfl, by kernel_rfl, by kernel_rfl⟩, by decide⟩
theorem Zlz : Zl prog 76 = #[(Value.int IntKind.i64 0), (Value.int IntKind.i64 0), (Value.int IntKind.i64 0), (Value.slice none 0 0), (Value.slice none 0 0), (Value.slice none 0 0), (Value.slice none 0 0)] := by kernel_rfl
theorem Zvd : Zl prog 78 = #[(Value.int IntKind.i64 0), (Value.int IntKind.i64 0), (Value.int IntKind.i64 0), (Value.slice none 0 0)] := by kernel_rfl
theorem ZCt : prog.underlying 84 = some (.slice 123) := by kernel_rfl
theorem ZFg : TE prog 84 123 1 16 := ⟨ZCt, ⟨Go.Proofs.Tryz.t123, (match Go.Proofs.Tryz.t123.zero with | some z => z | none => undef), by kernel_rfl, by kernel_rfl, by kernel_rfl, by kernel_rfl, by kernel_rfl⟩, by decide⟩
theorem Zee : Zl prog 104 = #[(Value.int IntKind.i64 0), (Value.int IntKind.i64 0), (Value.int IntKind.i64 0), (Value.int IntKind.i64 0), (Value.int IntKind.i64 0), (Value.int IntKind.i64 0), (Value.int IntKind.i64 0), (Value.int IntKind.i64 0)] := by kernel_rfl
theorem ZNe : prog.underlying 108 = some (.slice 113) := by kernel_rfl
theorem ZNo : TE prog 108 113 1 8 := ⟨ZNe, ⟨Go.Proofs.Tryz.t113, (match Go.Proofs.Tryz.t113.zero with | some z => z | none => undef), by kernel_rfl, by kernel_rfl, by kernel_rfl, by kernel_rfl, by kernel_rfl⟩, by decide⟩
theorem ZNg : prog.underlying 109 = some (.slice 116) := by kernel_rfl
theorem ZNl : TE prog 109 116 1 8 := ⟨ZNg, ⟨Go.Proofs.Tryz.t116, (match Go.Proofs.Tryz.t116.zero with | some z => z | none => undef), by kernel_rfl, by kernel_rfl, by kernel_rfl, by kernel_rfl, by kernel_rfl⟩, by decide⟩
theorem ZNf : prog.underlying 134 = some (.slice 4) := by kernel_rfl
theorem ZNn : TE prog 134 4 1 1 := ⟨ZNf, ⟨Go.Proofs.Tryz.t4, (match Go.Proofs.Tryz.t4.zero with | some z => z | none => undef), by kernel_rfl, by kernel_rfl, by kernel_rfl, by kernel_rfl, by kernel_rfl⟩, by decide⟩
theorem Zsb : Zl prog 147 = #[(Value.int IntKind.i64 0), (Value.int IntKind.i64 0), (Value.int IntKind.i64 0)] := by kernel_rfl
theorem ZMj : eqT prog 6 147 = some 3 := by kernel_rfl
theorem Zrn : prog.underlying 176 = some (.map 3 3) := by kernel_rfl
theorem Zdd : Zx6 prog 176 3 3 (Value.int IntKind.i64 0) := ⟨Zrn, ⟨Go.Proofs.Tryz.t3, by kernel_rfl, by kernel_rfl⟩⟩
theorem Zdt : ZvT prog 3 (fun n : Int => .int .i64 n) := Zwe (by kernel_rfl)
theorem Zxm : Zl prog 180 = #[(Value.int IntKind.i64 0), (Value.int IntKind.i64 0)] := by kernel_rfl
theorem Zv5 : Zl prog 183 = #[(Value.int IntKind.i64 0), (Value.int IntKind.i64 0), (Value.int IntKind.i64 0), (Value.int IntKind.i64 0), (Value.int IntKind.i64 0), (Value.int IntKind.i64 0), (Value.int IntKind.i64 0), (Value.int IntKind.i64 0), (Value.int IntKind.i64 0), (Value.int IntKind.i64 0), (Value.int IntKind.i64 0), (Value.int IntKind.i64 0), (Value.int IntKind.i64 0), (Value.int IntKind.i64 0), (Value.int IntKind.i64 0), (Value.int IntKind.i64 0), (Value.int IntKind.i64 0), (Value.int IntKind.i64 0), (Value.int IntKind.i64 0), (Value.int IntKind.i64 0), (Value.int IntKind.i64 0), (Value.int IntKind.i64 0), (Value.int IntKind.i64 0)] := by kernel_rfl
theorem Zxl : Zl prog 232 = #[(Value.map none), (Value.int IntKind.i64 0)] := by kernel_rfl
theorem ZBl : prog.underlying 233 = some (.map 45 3) := by kernel_rfl
theorem Zgg : Zx6 prog 233 45 3 (Value.int IntKind.i64 0) := ⟨ZBl, ⟨Go.Proofs.Tryz.t3, by kernel_rfl, by kernel_rfl⟩⟩
theorem ZwJ : Zl prog 235 = #[(Value.int IntKind.i64 0), (Value.slice none 0 0), (Value.map none)] := by kernel_rfl
theorem ZtT : prog.underlying 241 = some (.slice 265) := by kernel_rfl
theorem Zuh : TE prog 241 265 10 96 := ⟨ZtT, ⟨Go.Proofs.Tryz.t265, (match Go.Proofs.Tryz.t265.zero with | some z => z | none => undef), by kernel_rfl, by kernel_rfl, by kernel_rfl, by kernel_rfl, by kernel_rfl⟩, by decide⟩
theorem ZvI : prog.underlying 244 = some (.slice 300) := by kernel_rfl
theorem ZuT : TE prog 244 300 9 72 := ⟨ZvI, ⟨Go.Proofs.Tryz.t300, (match Go.Proofs.Tryz.t300.zero with | some z => z | none => undef), by kernel_rfl, by kernel_rfl, by kernel_rfl, by kernel_rfl, by kernel_rfl⟩, by decide⟩
theorem Zxk : Zl prog 246 = #[(Value.int IntKind.i64 0), (Value.slice none 0 0)] := by kernel_rfl
theorem ZNb : Zl prog 252 = #[(Value.int IntKind.i64 0), (Value.slice none 0 0)] := by kernel_rfl
theorem ZNc : Zl prog 255 = #[(Value.int IntKind.i64 0), (Value.slice none 0 0)] := by kernel_rfl
theorem Zgd : Zl prog 265 = #[(Value.int IntKind.i64 0), (Value.int IntKind.i64 0), (Value.int IntKind.i64 0), (Value.int IntKind.i64 0), (Value.int IntKind.i64 0), (Value.int IntKind.i64 0), (Value.int IntKind.i64 0), (Value.int IntKind.i64 0), (Value.int IntKind.i64 0), (Value.slice none 0 0)] := by kernel_rfl
theorem ZyJ : prog.underlying 285 = some (.map 287 4) := by kernel_rfl
theorem Zsh : Zx6 prog 285 287 4 (Value.bool false) := ⟨ZyJ, ⟨Go.Proofs.Tryz.t4, by kernel_rfl, by kernel_rfl⟩⟩
theorem ZwW : Zl prog 287 = #[(Value.int IntKind.i64 0), (Value.int IntKind.i64 0)] := by kernel_rfl
theorem Zys : eqT prog 6 287 = some 2 := by kernel_rfl
theorem Zyq : Zb7 prog 287 = true := by kernel_rfl
theorem Zoc : Zl prog 300 = #[(Value.int IntKind.i64 0), (Value.int IntKind.i64 0), (Value.int IntKind.i64 0), (Value.int IntKind.i64 0), (Value.int IntKind.i64 0), (Value.int IntKind.i64 0), (Value.int IntKind.i64 0), (Value.int IntKind.i64 0), (Value.int IntKind.i64 0)] := by kernel_rfl
theorem ZoE : Zl prog 362 = #[(Value.pointer none)] := by kernel_rfl
theorem Zy3 : prog.underlying 388 = some (.slice 45) := by kernel_rfl
theorem ZEc : TE prog 388 45 3 24 := ⟨Zy3, ⟨Go.Proofs.Tryz.t45, (match Go.Proofs.Tryz.t45.zero with | some z => z | none => undef), by kernel_rfl, by kernel_rfl, by kernel_rfl, by kernel_rfl, by kernel_rfl⟩, by decide⟩
variable {t0 t1 t2 t3 t4 t5 t6 t7 t8 t9 t10 t11 t12 t13 t14 t15 t16 t17 t18 t19 t20 t21 t22 t23 t24 t25 t26 t27 t28 t29 : Value} {w : World} {K : KV}
def ZNu (t0 t1 t2 : Value) (w : World) (K : KV) : Prop :=
 al (Value.cells t0) 25 w fun t3 w =>
 ldN 3 t3 w fun t17 w =>
 Cl prog 12 #[t17] w fun t18 w =>
 Zb3 t18 w fun t19 w =>
 gd t19 false (fun k => k t2 w) w fun t21 w =>
 gd t19 false (fun k => lnS t21 w k) w fun t22 w =>
 gd t19 false (fun k => bi .gtr .i64 t22 (Iw 200) w k) w fun t23 w =>
 pk t19 (Value.bool true) t23 w fun t24 w =>
 Zr t24
 (Cl prog 13 #[] w fun t25 w =>
 K t25 w)
 (ldN 3 t3 w fun t27 w =>
 cvI .i64 t1 w fun t29 w =>
 bi .rem .i64 t29 (Iw 16) w fun t30 w =>
 bi .add .i64 (Iw 1) t30 w fun t31 w =>
 Cl prog 14 #[t27, t31] w fun t32 w =>
 xt 0 t32 w fun t33 w =>
 xt 1 t32 w fun t34 w =>
 ldN 3 t3 w fun t36 w =>
 cvI .i64 t1 w fun t38 w =>
 bi .rem .i64 t38 (Iw 16) w fun t39 w =>
 bi .add .i64 (Iw 1) t39 w fun t40 w =>
 Cl prog 15 #[t36, t40] w fun t41 w =>
 xt 0 t41 w fun _ w =>
 xt 1 t41 w fun t43 w =>
 bi .neq .i64 t34 t43 w fun t46 w =>
 gd t46 false (fun k => Cl prog 13 #[] w k) w fun t48 w =>
 gd t46 false (fun k => Zb3 t48 w k) w fun t49 w =>
 pk t46 (Value.bool true) t49 w fun t50 w =>
 Zr t50
 (K (Value.bool false) w)
 (bi .neq .i64 t34 (Iw 0) w fun t52 w =>
 Zr t52
 (bn .eql t33 w fun t54 w =>
 K t54 w)
 (lp [(Iw 0), (Iw 0)] w (b2 fun t11 t12 w g1 =>
 lnS t2 w fun t57 w =>
 bi .lss .i64 t12 t57 w fun t58 w =>
 Zr t58
 (ixS 3 t2 t12 w fun t63 w =>
 fld 1 t63 w fun t64 w =>
 ld1 t64 w fun t65 w =>
 Cl prog 16 #[t33, t65] w fun t68 w =>
 ixS 3 t2 t12 w fun t72 w =>
 ldN 3 t72 w fun t73 w =>
 Cl prog 17 #[t33, t73] w fun _ w =>
 Cl prog 16 #[t33, t65] w fun t77 w =>
 Cl prog 18 #[t68, t77] w fun t80 w =>
 Zb3 t80 w fun t81 w =>
 gd t81 false (fun k => k t33 w) w fun t83 w =>
 gd t81 false (fun k => Cl prog 19 #[t83] w k) w fun t84 w =>
 gd t81 false (fun k => k t11 w) w fun t85 w =>
 gd t81 false (fun k => bi .lss .i64 t84 t85 w k) w fun t86 w =>
 pk t81 (Value.bool true) t86 w fun t87 w =>
 Zr t87
 (K (Value.bool false) w)
 (Cl prog 19 #[t33] w fun t89 w =>
 lp [(Iw 1)] w (b1 fun t16 w g2 =>
 lnS t77 w fun t92 w =>
 bi .lss .i64 t16 t92 w fun t93 w =>
 Zr t93
 (dr w fun w =>
 bi .sub .i64 t16 (Iw 1) w fun t98 _ =>
 ixS 7 t77 t98 w fun t99 _ =>
 fld 0 t99 w fun t100 _ =>
 fld 0 t100 w fun t101 _ =>
 ldN 3 t101 w fun t102 _ =>
 ixS 7 t77 t16 w fun t105 _ =>
 fld 0 t105 w fun t106 _ =>
 fld 0 t106 w fun t107 _ =>
 ldN 3 t107 w fun t108 _ =>
 Cl prog 20 #[t102, t108] w fun t109 w =>
 bi .geq .i64 t109 (Iw 0) w fun t110 _ =>
 Zr t110
 (K (Value.bool false) w)
 (bi .add .i64 t16 (Iw 1) w fun t95 w =>
 g2 [t95] w))
 (bi .add .i64 t12 (Iw 1) w fun t60 w =>
 g1 [t89, t60] w))))
 (K (Value.bool true) w)))))
theorem ZNw (h : ZNu t0 t1 t2 w K) : Cl prog 3 #[t0, t1, t2] w K :=
 ZML 111 [6] Tryz.func3 h

def ZJJ (t0 : Value) (w : World) (K : KV) : Prop :=
 al (Value.cells t0) 25 w fun t1 w =>
 fld 0 t1 w fun t6 w =>
 ld1 t6 w fun t7 w =>
 lnS t7 w fun t8 w =>
 bi .gtr .i64 t8 (Iw 50) w fun t9 w =>
 gd t9 false (fun k => fld 1 t1 w k) w fun t11 w =>
 gd t9 false (fun k => ld1 t11 w k) w fun t12 w =>
 gd t9 false (fun k => lnS t12 w k) w fun t13 w =>
 gd t9 false (fun k => bi .gtr .i64 t13 (Iw 20) w k) w fun t14 w =>
 pk t9 (Value.bool true) t14 w fun t15 w =>
 Zr t15
 (K (Value.bool false) w)
 (lp [(Iw 0)] w (b1 fun t3 w g1 =>
 fld 1 t1 w fun t17 w =>
 ld1 t17 w fun t18 w =>
 lnS t18 w fun t19 w =>
 bi .lss .i64 t3 t19 w fun t20 w =>
 Zr t20
 (fld 1 t1 w fun t23 w =>
 ld1 t23 w fun t24 w =>
 ixS 7 t24 t3 w fun t26 w =>
 ldN 7 t26 w fun t27 w =>
 al (Zl prog 76) 76 w fun t4 w =>
 stN 7 t4 t27 w fun _ w =>
 fld 3 t4 w fun t28 w =>
 ld1 t28 w fun t29 w =>
 lnS t29 w fun t30 w =>
 bi .gtr .i64 t30 (Iw 60) w fun t31 w =>
 gd t31 false (fun k => fld 4 t4 w k) w fun t33 w =>
 gd t31 false (fun k => ld1 t33 w k) w fun t34 w =>
 gd t31 false (fun k => lnS t34 w k) w fun t35 w =>
 gd t31 false (fun k => bi .gtr .i64 t35 (Iw 50) w k) w fun t36 w =>
 pk t31 (Value.bool true) t36 w fun t37 w =>
 gd t37 false (fun k => fld 5 t4 w k) w fun t39 w =>
 gd t37 false (fun k => ld1 t39 w k) w fun t40 w =>
 gd t37 false (fun k => lnS t40 w k) w fun t41 w =>
 gd t37 false (fun k => bi .gtr .i64 t41 (Iw 50) w k) w fun t42 w =>
 pk t37 (Value.bool true) t42 w fun t43 w =>
 gd t43 false (fun k => fld 6 t4 w k) w fun t45 w =>
 gd t43 false (fun k => ld1 t45 w k) w fun t46 w =>
 gd t43 false (fun k => lnS t46 w k) w fun t47 w =>
 gd t43 false (fun k => bi .gtr .i64 t47 (Iw 20) w k) w fun t48 w =>
 pk t43 (Value.bool true) t48 w fun t49 w =>
 Zr t49
 (K (Value.bool false) w)
 (lp [(Iw 0)] w (b1 fun t5 w g2 =>
 fld 3 t4 w fun t51 w =>
 ld1 t51 w fun t52 w =>
 lnS t52 w fun t53 w =>
 bi .lss .i64 t5 t53 w fun t54 w =>
 Zr t54
 (fld 3 t4 w fun t57 w =>
 ld1 t57 w fun t58 w =>
 ixS 4 t58 t5 w fun t60 w =>
 fld 3 t60 w fun t61 w =>
 ld1 t61 w fun t62 w =>
 lnS t62 w fun t63 w =>
 bi .gtr .i64 t63 (Iw 20) w fun t64 w =>
 Zr t64
 (K (Value.bool false) w)
 (bi .add .i64 t5 (Iw 1) w fun t56 w =>
 g2 [t56] w))
 (bi .add .i64 t3 (Iw 1) w fun t22 w =>
 g1 [t22] w))))
 (K (Value.bool true) w)))
theorem ZJ1 (h : ZJJ t0 w K) : Cl prog 12 #[t0] w K :=
 ZML 65 [2] Tryz.func12 h

def ZcY (w : World) (K : KV) : Prop :=
 Cl prog 32 #[(Iw 0), (Iw 1)] w fun t5 w =>
 Cl prog 14 #[t5, (Iw 8)] w fun t6 w =>
 xt 0 t6 w fun t7 w =>
 xt 1 t6 w fun t8 w =>
 bi .neq .i64 t8 (Iw 0) w fun t10 w =>
 gd t10 false (fun k => k t7 w) w fun t12 w =>
 gd t10 false (fun k => bn .eql t12 w k) w fun t13 w =>
 pk t10 (Value.bool true) t13 w fun t14 w =>
 gd t14 false (fun k => k t7 w) w fun t16 w =>
 gd t14 false (fun k => Cl prog 24 #[t16, (Iw 0)] w k) w fun t17 w =>
 gd t14 false (fun k => lnS t17 w k) w fun t18 w =>
 gd t14 false (fun k => bi .neq .i64 t18 (Iw 1) w k) w fun t19 w =>
 pk t14 (Value.bool true) t19 w fun t20 w =>
 gd t20 false (fun k => k t7 w) w fun t22 w =>
 gd t20 false (fun k => Cl prog 21 #[t22] w k) w fun t23 w =>
 pk t20 (Value.bool true) t23 w fun t24 w =>
 Zr t24
 (K (Value.bool false) w)
 (lp [(Iw 0)] w (b1 fun t3 w g1 =>
 bi .lss .i64 t3 (Iw 30) w fun t26 w =>
 Zr t26
 (Cl prog 35 #[t7, (Iw 2)] w fun _ w =>
 bi .add .i64 t3 (Iw 1) w fun t28 w =>
 g1 [t28] w)
 (Cl prog 21 #[t7] w fun t32 w =>
 gd t32 true (fun k => k t7 w) w fun t34 w =>
 gd t32 true (fun k => Cl prog 16 #[t34, (Iw 0)] w k) w fun t35 w =>
 gd t32 true (fun k => lnS t35 w k) w fun t36 w =>
 gd t32 true (fun k => bi .gtr .i64 t36 (Iw 2) w k) w fun t37 w =>
 pk t32 t37 (Value.bool false) w fun t38 w =>
 gd t38 true (fun k => k t7 w) w fun t40 w =>
 gd t38 true (fun k => Cl prog 16 #[t40, (Iw 1)] w k) w fun t41 w =>
 gd t38 true (fun k => lnS t41 w k) w fun t42 w =>
 gd t38 true (fun k => bi .gtr .i64 t42 (Iw 2) w k) w fun t43 w =>
 pk t38 t43 (Value.bool false) w fun t44 w =>
 K t44 w)))
theorem ZdB (h : ZcY w K) : Cl prog 13 #[] w K :=
 ZML 45 [0] Tryz.func13 h

def ZvL (t0 t1 : Value) (w : World) (K : KV) : Prop :=
 al (Value.cells t0) 25 w fun t2 w =>
 ldN 3 t2 w fun t21 w =>
 Cl prog 38 #[t21] w fun t22 w =>
 xt 0 t22 w fun _ w =>
 xt 1 t22 w fun t24 w =>
 bi .neq .i64 t24 (Iw 0) w fun t26 w =>
 Zr t26
 (K (Value.tuple #[(Value.pointer none), t24]) w)
 (fld 1 t2 w fun t29 w =>
 ld1 t29 w fun t30 w =>
 lnS t30 w fun t31 w =>
 Cl prog 39 #[t31, t1] w fun t33 w =>
 xt 0 t33 w fun t34 w =>
 xt 1 t33 w fun t35 w =>
 bi .neq .i64 t35 (Iw 0) w fun t37 w =>
 Zr t37
 (K (Value.tuple #[(Value.pointer none), t35]) w)
 (dr w fun w =>
 fld 2 t2 w fun t39 _ =>
 ld1 t39 w fun t40 _ =>
 fld 1 t2 w fun t42 _ =>
 ld1 t42 w fun t43 _ =>
 lnS t43 w fun t44 _ =>
 mkS prog 55 t44 t44 w fun t45 w =>
 (ld1 t39 w (fun v' w'' => v' = t40 ∧ w'' = w)) ∧ (bld (Zl prog 87) #[(0, 1), (1, 1), (2, 1), (3, 1), (4, 1)] [(0, t40), (3, t34), (2, t45)] w fun t46 w =>
 al (Value.cells t46) 87 w fun t47 w =>
 fld 1 t2 w fun t48 w =>
 ld1 t48 w fun t49 w =>
 lnS t49 w fun t50 w =>
 lp [(Iw 0), (Iw 0)] w (b2 fun t11 t51 w g1 =>
 bi .lss .i64 t51 t50 w fun t52 w =>
 Zr t52
 (J1 (fun t11_1 w =>
 bi .add .i64 t51 (Iw 1) w fun t99 w =>
 g1 [t11_1, t99] w) fun k2 =>
 ixS 7 t49 t51 w fun t54 w =>
 ldN 7 t54 w fun t55 w =>
 al (Zl prog 76) 76 w fun t13 w =>
 stN 7 t13 t55 w fun _ w =>
 fld 0 t13 w fun t56 w =>
 ld1 t56 w fun t57 w =>
 bi .eql .i64 t57 (Iw 0) w fun t58 w =>
 Zr t58
 (ldN 3 t2 w fun t60 w =>
 Cl prog 40 #[t60, t51] w fun t62 w =>
 xt 0 t62 w fun t63 w =>
 xt 1 t62 w fun _ w =>
 ncP t47 <|
 fld 1 t47 w fun t68 w =>
 ld1 t68 w fun t69 w =>
 bld (Zl prog 92) #[(0, 1)] [(0, t63)] w fun t71 w =>
 bsl 123 1 1 (Zl prog 123) [(0, (Value.iface 92 t71))] w fun t73 w =>
 apS prog #[84, 84] 84 t69 t73 w fun t74 w =>
 ncP t47 <|
 fld 1 t47 w fun t76 w =>
 stN 1 t76 t74 w fun _ w =>
 k2 t11 w)
 (ldN 3 t2 w fun t78 w =>
 Cl prog 41 #[t78, t51] w fun t80 w =>
 xt 0 t80 w fun t81 w =>
 xt 1 t80 w fun _ w =>
 ncP t47 <|
 fld 1 t47 w fun t86 w =>
 ld1 t86 w fun t87 w =>
 bld (Zl prog 98) #[(0, 1), (1, 1), (2, 1)] [(0, t81), (1, t11)] w fun t90 w =>
 al (Value.cells t90) 98 w fun t91 w =>
 bsl 123 1 1 (Zl prog 123) [(0, (Value.iface 96 t91))] w fun t93 w =>
 apS prog #[84, 84] 84 t87 t93 w fun t94 w =>
 ncP t47 <|
 fld 1 t47 w fun t96 w =>
 stN 1 t96 t94 w fun _ w =>
 bi .add .i64 t11 (Iw 1) w fun t98 w =>
 k2 t98 w))
 (bi .gtr .i64 t11 (Iw 0) w fun t101 w =>
 J0 (fun w =>
 ldN 3 t2 w fun t110 w =>
 Cl prog 43 #[t110] w fun t111 w =>
 lnS t111 w fun t112 w =>
 lp [(Iw 0)] w (b1 fun t113 w g4 =>
 bi .lss .i64 t113 t112 w fun t114 w =>
 Zr t114
 (ixS 6 t111 t113 w fun t115 w =>
 ldN 6 t115 w fun t116 w =>
 al (Zl prog 47) 47 w fun t19 w =>
 stN 6 t19 t116 w fun _ w =>
 fld 0 t19 w fun t118 w =>
 fld 1 t118 w fun t119 w =>
 ld1 t119 w fun t120 w =>
 ldN 6 t19 w fun t121 w =>
 bld (Zl prog 104) #[(0, 1), (1, 6), (7, 1)] [(1, t121)] w fun t122 w =>
 bsl 104 8 1 (Zl prog 104) [(0, t122)] w fun t123 w =>
 Cl prog 44 #[t47, t120, t123] w fun _ w =>
 bi .add .i64 t113 (Iw 1) w fun t125 w =>
 g4 [t125] w)
 (K (Value.tuple #[t47, (Iw 0)]) w))) fun k3 =>
 Zr t101
 (Cl prog 42 #[t11] w fun t105 w =>
 xt 0 t105 w fun t106 w =>
 xt 1 t105 w fun _ w =>
 ncP t47 <|
 fld 4 t47 w fun t109 w =>
 stN 1 t109 t106 w fun _ w =>
 k3 w)
 (k3 w))))))
theorem ZoN (h : ZvL t0 t1 w K) : Cl prog 14 #[t0, t1] w K :=
 ZML 127 [4, 5] Tryz.func14 h

def ZKc (t0 t1 : Value) (w : World) (K : KV) : Prop :=
 al (Value.cells t0) 25 w fun t2 w =>
 ldN 3 t2 w fun t22 w =>
 Cl prog 45 #[t22] w fun t23 w =>
 xt 0 t23 w fun _ w =>
 xt 1 t23 w fun t25 w =>
 bi .neq .i64 t25 (Iw 0) w fun t27 w =>
 Zr t27
 (K (Value.tuple #[(Value.pointer none), t25]) w)
 (fld 1 t2 w fun t30 w =>
 ld1 t30 w fun t31 w =>
 lnS t31 w fun t32 w =>
 Cl prog 46 #[t32, t1] w fun t34 w =>
 xt 0 t34 w fun t35 w =>
 xt 1 t34 w fun t36 w =>
 bi .neq .i64 t36 (Iw 0) w fun t38 w =>
 Zr t38
 (K (Value.tuple #[(Value.pointer none), t36]) w)
 (dr w fun w =>
 ldN 3 t2 w fun t40 _ =>
 fld 1 t2 w fun t42 _ =>
 ld1 t42 w fun t43 _ =>
 lnS t43 w fun t44 _ =>
 fld 1 t2 w fun t46 _ =>
 ld1 t46 w fun t47 _ =>
 lnS t47 w fun t48 _ =>
 (mkS prog 22 t44 t44 w fun t45 w =>
 (ld1 t46 w (fun v' w'' => v' = t47 ∧ w'' = w)) ∧ ((ldN 3 t2 w (fun v' w'' => v' = t40 ∧ w'' = w)) ∧ (mkS prog 55 t48 t48 w fun t49 w =>
 (ld1 t42 w (fun v' w'' => v' = t43 ∧ w'' = w)) ∧ ((ldN 3 t2 w (fun v' w'' => v' = t40 ∧ w'' = w)) ∧ (bld (Zl prog 112) #[(0, 3), (3, 1), (4, 1), (5, 1), (6, 1), (7, 1), (8, 1), (9, 1)] [(0, t40), (6, t35), (5, t45), (4, t49)] w fun t50 w =>
 al (Value.cells t50) 112 w fun t51 w =>
 lp [(Iw 0), (Iw 0)] w (b2 fun t11 t12 w g1 =>
 fld 1 t2 w fun t53 w =>
 ld1 t53 w fun t54 w =>
 lnS t54 w fun t55 w =>
 bi .lss .i64 t12 t55 w fun t56 w =>
 Zr t56
 (J1 (fun t11_1 w =>
 bi .add .i64 t12 (Iw 1) w fun t58 w =>
 g1 [t11_1, t58] w) fun k2 =>
 ldN 3 t2 w fun t60 w =>
 Cl prog 47 #[t60, t12] w fun t62 w =>
 xt 0 t62 w fun t63 w =>
 xt 1 t62 w fun _ w =>
 ldN 3 t2 w fun t66 w =>
 Cl prog 48 #[t66, t12] w fun t68 w =>
 xt 0 t68 w fun t69 w =>
 xt 1 t68 w fun _ w =>
 ncP t51 <|
 fld 3 t51 w fun t74 w =>
 ld1 t74 w fun t75 w =>
 bsl 113 1 1 (Zl prog 113) [(0, t63)] w fun t77 w =>
 apS prog #[108, 108] 108 t75 t77 w fun t78 w =>
 ncP t51 <|
 fld 3 t51 w fun t80 w =>
 stN 1 t80 t78 w fun _ w =>
 ncP t51 <|
 fld 4 t51 w fun t84 w =>
 ld1 t84 w fun t85 w =>
 bsl 116 1 1 (Zl prog 116) [(0, t69)] w fun t87 w =>
 apS prog #[109, 109] 109 t85 t87 w fun t88 w =>
 ncP t51 <|
 fld 4 t51 w fun t90 w =>
 stN 1 t90 t88 w fun _ w =>
 bn .eql t69 w fun t92 w =>
 Zr t92
 (ncP t51 <|
 fld 5 t51 w fun t96 w =>
 ld1 t96 w fun t97 w =>
 bsl 3 1 1 (Zl prog 3) [(0, (Iw (-1)))] w fun t98 w =>
 apS prog #[22, 22] 22 t97 t98 w fun t99 w =>
 ncP t51 <|
 fld 5 t51 w fun t101 w =>
 stN 1 t101 t99 w fun _ w =>
 k2 t11 w)
 (ncP t51 <|
 fld 5 t51 w fun t105 w =>
 ld1 t105 w fun t106 w =>
 bsl 3 1 1 (Zl prog 3) [(0, t11)] w fun t108 w =>
 apS prog #[22, 22] 22 t106 t108 w fun t109 w =>
 ncP t51 <|
 fld 5 t51 w fun t111 w =>
 stN 1 t111 t109 w fun _ w =>
 bi .add .i64 t11 (Iw 1) w fun t113 w =>
 k2 t113 w))
 (bi .gtr .i64 t11 (Iw 0) w fun t115 w =>
 J0 (fun w =>
 ldN 3 t2 w fun t125 w =>
 Cl prog 50 #[t125] w fun t126 w =>
 lp [(Iw 0)] w (b1 fun t20 w g4 =>
 lnS t126 w fun t129 w =>
 bi .lss .i64 t20 t129 w fun t130 w =>
 Zr t130
 (dr w fun w =>
 ncP t51 <|
 fld 6 t51 w fun t135 _ =>
 ld1 t135 w fun t136 _ =>
 ixS 6 t126 t20 w fun t139 _ =>
 fld 0 t139 w fun t140 _ =>
 fld 1 t140 w fun t141 _ =>
 ld1 t141 w fun t142 _ =>
 ncP t51 <|
 fld 6 t51 w fun t145 _ =>
 ld1 t145 w fun t146 _ =>
 ixS 6 t126 t20 w fun t149 _ =>
 fld 0 t149 w fun t150 _ =>
 fld 1 t150 w fun t151 _ =>
 ld1 t151 w fun t152 _ =>
 ixS 1 t146 t152 w fun t153 _ =>
 ld1 t153 w fun t154 _ =>
 ixS 6 t126 t20 w fun t157 _ =>
 ldN 6 t157 w fun t158 _ =>
 bld (Zl prog 104) #[(0, 1), (1, 6), (7, 1)] [(1, t158)] w fun t159 w =>
 (ld1 t153 w (fun v' w'' => v' = t154 ∧ w'' = w)) ∧ ((ld1 t151 w (fun v' w'' => v' = t152 ∧ w'' = w)) ∧ ((ld1 t145 w (fun v' w'' => v' = t146 ∧ w'' = w)) ∧ ((ld1 t141 w (fun v' w'' => v' = t142 ∧ w'' = w)) ∧ ((ld1 t135 w (fun v' w'' => v' = t136 ∧ w'' = w)) ∧ (bsl 104 8 1 (Zl prog 104) [(0, t159)] w fun t160 w =>
 (ld1 t153 w (fun v' w'' => v' = t154 ∧ w'' = w)) ∧ ((ld1 t151 w (fun v' w'' => v' = t152 ∧ w'' = w)) ∧ ((ld1 t145 w (fun v' w'' => v' = t146 ∧ w'' = w)) ∧ ((ld1 t141 w (fun v' w'' => v' = t142 ∧ w'' = w)) ∧ ((ld1 t135 w (fun v' w'' => v' = t136 ∧ w'' = w)) ∧ (apS prog #[53, 53] 53 t154 t160 w fun t161 w =>
 (ld1 t141 w (fun v' w'' => v' = t142 ∧ w'' = w)) ∧ ((ld1 t135 w (fun v' w'' => v' = t136 ∧ w'' = w)) ∧ (ixS 1 t136 t142 w fun t162 _ =>
 stN 1 t162 t161 w fun _ w =>
 bi .add .i64 t20 (Iw 1) w fun t132 w =>
 g4 [t132] w)))))))))))))
 (K (Value.tuple #[t51, (Iw 0)]) w))) fun k3 =>
 Zr t115
 (Cl prog 49 #[t11] w fun t118 w =>
 xt 0 t118 w fun t119 w =>
 xt 1 t118 w fun _ w =>
 ncP t51 <|
 fld 9 t51 w fun t124 w =>
 stN 1 t124 t119 w fun _ w =>
 k3 w)
 (k3 w)))))))) ∧ (mkS prog 55 t48 t48 w fun t49_1 w =>
 (ld1 t42 w (fun v' w'' => v' = t43 ∧ w'' = w)) ∧ ((ldN 3 t2 w (fun v' w'' => v' = t40 ∧ w'' = w)) ∧ (mkS prog 22 t44 t44 w fun t45_1 w =>
 (ld1 t46 w (fun v' w'' => v' = t47 ∧ w'' = w)) ∧ ((ldN 3 t2 w (fun v' w'' => v' = t40 ∧ w'' = w)) ∧ (bld (Zl prog 112) #[(0, 3), (3, 1), (4, 1), (5, 1), (6, 1), (7, 1), (8, 1), (9, 1)] [(0, t40), (6, t35), (5, t45_1), (4, t49_1)] w fun t50_1 w =>
 al (Value.cells t50_1) 112 w fun t51_1 w =>
 lp [(Iw 0), (Iw 0)] w (b2 fun t11_2 t12_1 w g5 =>
 fld 1 t2 w fun t53_1 w =>
 ld1 t53_1 w fun t54_1 w =>
 lnS t54_1 w fun t55_1 w =>
 bi .lss .i64 t12_1 t55_1 w fun t56_1 w =>
 Zr t56_1
 (J1 (fun t11_3 w =>
 bi .add .i64 t12_1 (Iw 1) w fun t58_1 w =>
 g5 [t11_3, t58_1] w) fun k6 =>
 ldN 3 t2 w fun t60_1 w =>
 Cl prog 47 #[t60_1, t12_1] w fun t62_1 w =>
 xt 0 t62_1 w fun t63_1 w =>
 xt 1 t62_1 w fun _ w =>
 ldN 3 t2 w fun t66_1 w =>
 Cl prog 48 #[t66_1, t12_1] w fun t68_1 w =>
 xt 0 t68_1 w fun t69_1 w =>
 xt 1 t68_1 w fun _ w =>
 ncP t51_1 <|
 fld 3 t51_1 w fun t74_1 w =>
 ld1 t74_1 w fun t75_1 w =>
 bsl 113 1 1 (Zl prog 113) [(0, t63_1)] w fun t77_1 w =>
 apS prog #[108, 108] 108 t75_1 t77_1 w fun t78_1 w =>
 ncP t51_1 <|
 fld 3 t51_1 w fun t80_1 w =>
 stN 1 t80_1 t78_1 w fun _ w =>
 ncP t51_1 <|
 fld 4 t51_1 w fun t84_1 w =>
 ld1 t84_1 w fun t85_1 w =>
 bsl 116 1 1 (Zl prog 116) [(0, t69_1)] w fun t87_1 w =>
 apS prog #[109, 109] 109 t85_1 t87_1 w fun t88_1 w =>
 ncP t51_1 <|
 fld 4 t51_1 w fun t90_1 w =>
 stN 1 t90_1 t88_1 w fun _ w =>
 bn .eql t69_1 w fun t92_1 w =>
 Zr t92_1
 (ncP t51_1 <|
 fld 5 t51_1 w fun t96_1 w =>
 ld1 t96_1 w fun t97_1 w =>
 bsl 3 1 1 (Zl prog 3) [(0, (Iw (-1)))] w fun t98_1 w =>
 apS prog #[22, 22] 22 t97_1 t98_1 w fun t99_1 w =>
 ncP t51_1 <|
 fld 5 t51_1 w fun t101_1 w =>
 stN 1 t101_1 t99_1 w fun _ w =>
 k6 t11_2 w)
 (ncP t51_1 <|
 fld 5 t51_1 w fun t105_1 w =>
 ld1 t105_1 w fun t106_1 w =>
 bsl 3 1 1 (Zl prog 3) [(0, t11_2)] w fun t108_1 w =>
 apS prog #[22, 22] 22 t106_1 t108_1 w fun t109_1 w =>
 ncP t51_1 <|
 fld 5 t51_1 w fun t111_1 w =>
 stN 1 t111_1 t109_1 w fun _ w =>
 bi .add .i64 t11_2 (Iw 1) w fun t113_1 w =>
 k6 t113_1 w))
 (bi .gtr .i64 t11_2 (Iw 0) w fun t115_1 w =>
 J0 (fun w =>
 ldN 3 t2 w fun t125_1 w =>
 Cl prog 50 #[t125_1] w fun t126_1 w =>
 lp [(Iw 0)] w (b1 fun t20_1 w g8 =>
 lnS t126_1 w fun t129_1 w =>
 bi .lss .i64 t20_1 t129_1 w fun t130_1 w =>
 Zr t130_1
 (dr w fun w =>
 ncP t51_1 <|
 fld 6 t51_1 w fun t135_1 _ =>
 ld1 t135_1 w fun t136_1 _ =>
 ixS 6 t126_1 t20_1 w fun t139_1 _ =>
 fld 0 t139_1 w fun t140_1 _ =>
 fld 1 t140_1 w fun t141_1 _ =>
 ld1 t141_1 w fun t142_1 _ =>
 ncP t51_1 <|
 fld 6 t51_1 w fun t145_1 _ =>
 ld1 t145_1 w fun t146_1 _ =>
 ixS 6 t126_1 t20_1 w fun t149_1 _ =>
 fld 0 t149_1 w fun t150_1 _ =>
 fld 1 t150_1 w fun t151_1 _ =>
 ld1 t151_1 w fun t152_1 _ =>
 ixS 1 t146_1 t152_1 w fun t153_1 _ =>
 ld1 t153_1 w fun t154_1 _ =>
 ixS 6 t126_1 t20_1 w fun t157_1 _ =>
 ldN 6 t157_1 w fun t158_1 _ =>
 bld (Zl prog 104) #[(0, 1), (1, 6), (7, 1)] [(1, t158_1)] w fun t159_1 w =>
 (ld1 t153_1 w (fun v' w'' => v' = t154_1 ∧ w'' = w)) ∧ ((ld1 t151_1 w (fun v' w'' => v' = t152_1 ∧ w'' = w)) ∧ ((ld1 t145_1 w (fun v' w'' => v' = t146_1 ∧ w'' = w)) ∧ ((ld1 t141_1 w (fun v' w'' => v' = t142_1 ∧ w'' = w)) ∧ ((ld1 t135_1 w (fun v' w'' => v' = t136_1 ∧ w'' = w)) ∧ (bsl 104 8 1 (Zl prog 104) [(0, t159_1)] w fun t160_1 w =>
 (ld1 t153_1 w (fun v' w'' => v' = t154_1 ∧ w'' = w)) ∧ ((ld1 t151_1 w (fun v' w'' => v' = t152_1 ∧ w'' = w)) ∧ ((ld1 t145_1 w (fun v' w'' => v' = t146_1 ∧ w'' = w)) ∧ ((ld1 t141_1 w (fun v' w'' => v' = t142_1 ∧ w'' = w)) ∧ ((ld1 t135_1 w (fun v' w'' => v' = t136_1 ∧ w'' = w)) ∧ (apS prog #[53, 53] 53 t154_1 t160_1 w fun t161_1 w =>
 (ld1 t141_1 w (fun v' w'' => v' = t142_1 ∧ w'' = w)) ∧ ((ld1 t135_1 w (fun v' w'' => v' = t136_1 ∧ w'' = w)) ∧ (ixS 1 t136_1 t142_1 w fun t162_1 _ =>
 stN 1 t162_1 t161_1 w fun _ w =>
 bi .add .i64 t20_1 (Iw 1) w fun t132_1 w =>
 g8 [t132_1] w)))))))))))))
 (K (Value.tuple #[t51_1, (Iw 0)]) w))) fun k7 =>
 Zr t115_1
 (Cl prog 49 #[t11_2] w fun t118_1 w =>
 xt 0 t118_1 w fun t119_1 w =>
 xt 1 t118_1 w fun _ w =>
 ncP t51_1 <|
 fld 9 t51_1 w fun t124_1 w =>
 stN 1 t124_1 t119_1 w fun _ w =>
 k7 w)
 (k7 w))))))))))
theorem ZKg (h : ZKc t0 t1 w K) : Cl prog 15 #[t0, t1] w K :=
 ZML 164 [4, 5] Tryz.func15 h

def Zhc (t0 t1 : Value) (w : World) (K : KV) : Prop :=
 Cl prog 51 #[t0, t1] w fun t7 w =>
 Zb3 t7 w fun t8 w =>
 Zr t8
 (K (Value.slice none 0 0) w)
 (ncP t0 <|
 fld 1 t0 w fun t11 w =>
 ld1 t11 w fun t12 w =>
 ixS 1 t12 t1 w fun t14 w =>
 ld1 t14 w fun t15 w =>
 clI prog t15 "Log" #[] w fun t16 w =>
 K t16 w)
theorem Zgr (h : Zhc t0 t1 w K) : Cl prog 16 #[t0, t1] w K :=
 ZML 17 [4] Tryz.func16 h

def Zij (t0 t1 : Value) (w : World) (K : KV) : Prop :=
 al (Value.cells t1) 37 w fun t3 w =>
 fld 0 t3 w fun t6 w =>
 ld1 t6 w fun t7 w =>
 bi .lss .i64 t7 (Iw 0) w fun t8 w =>
 gd t8 false (fun k => fld 0 t3 w k) w fun t10 w =>
 gd t8 false (fun k => ld1 t10 w k) w fun t11 w =>
 gd t8 false (fun k => bi .gtr .i64 t11 (Iw 6) w k) w fun t12 w =>
 pk t8 (Value.bool true) t12 w fun t13 w =>
 gd t13 false (fun k => fld 0 t3 w k) w fun t15 w =>
 gd t13 false (fun k => ld1 t15 w k) w fun t16 w =>
 gd t13 false (fun k => bi .neq .i64 t16 (Iw 4) w k) w fun t17 w =>
 gd t13 false (fun k => k t17 w) w fun t18 w =>
 gd t18 true (fun k => k t0 w) w fun t19 w =>
 gd t18 true (fun k => fld 1 t3 w k) w fun t20 w =>
 gd t18 true (fun k => ld1 t20 w k) w fun t21 w =>
 gd t18 true (fun k => Cl prog 51 #[t19, t21] w k) w fun t22 w =>
 gd t18 true (fun k => Zb3 t22 w k) w fun t23 w =>
 gd t13 false (fun k => pk t18 t23 (Value.bool false) w k) w fun t24 w =>
 pk t13 (Value.bool true) t24 w fun t25 w =>
 gd t25 false (fun k => fld 0 t3 w k) w fun t27 w =>
 gd t25 false (fun k => ld1 t27 w k) w fun t28 w =>
 gd t25 false (fun k => bi .eql .i64 t28 (Iw 2) w k) w fun t29 w =>
 gd t25 false (fun k => k t29 w) w fun t30 w =>
 gd t30 true (fun k => k t0 w) w fun t31 w =>
 gd t30 true (fun k => fld 2 t3 w k) w fun t32 w =>
 gd t30 true (fun k => ld1 t32 w k) w fun t33 w =>
 gd t30 true (fun k => Cl prog 51 #[t31, t33] w k) w fun t34 w =>
 gd t30 true (fun k => Zb3 t34 w k) w fun t35 w =>
 gd t25 false (fun k => pk t30 t35 (Value.bool false) w k) w fun t36 w =>
 pk t25 (Value.bool true) t36 w fun t37 w =>
 Zr t37
 (K (Iw 1) w)
 (fld 0 t3 w fun t38 w =>
 ld1 t38 w fun t39 w =>
 bi .eql .i64 t39 (Iw 0) w fun t41 w =>
 Zr t41
 (fld 1 t3 w fun t43 w =>
 ld1 t43 w fun t44 w =>
 Cl prog 52 #[t0, t44] w fun t45 w =>
 K t45 w)
 (bi .eql .i64 t39 (Iw 1) w fun t47 w =>
 Zr t47
 (fld 1 t3 w fun t49 w =>
 ld1 t49 w fun t50 w =>
 Cl prog 53 #[t0, t50] w fun t51 w =>
 K t51 w)
 (bi .eql .i64 t39 (Iw 2) w fun t53 w =>
 Zr t53
 (fld 1 t3 w fun t55 w =>
 ld1 t55 w fun t56 w =>
 fld 2 t3 w fun t57 w =>
 ld1 t57 w fun t58 w =>
 Cl prog 54 #[t0, t56, t58] w fun t59 w =>
 K t59 w)
 (bi .eql .i64 t39 (Iw 3) w fun t61 w =>
 Zr t61
 (fld 1 t3 w fun t63 w =>
 ld1 t63 w fun t64 w =>
 Cl prog 55 #[t0, t64] w fun t65 w =>
 K t65 w)
 (bi .eql .i64 t39 (Iw 4) w fun t67 w =>
 Zr t67
 (ncP t0 <|
 fld 4 t0 w fun t70 w =>
 ld1 t70 w fun t71 w =>
 bn .eql t71 w fun t72 w =>
 Zr t72
 (K (Iw 150) w)
 (ncP t0 <|
 fld 4 t0 w fun t75 w =>
 ld1 t75 w fun t76 w =>
 Cl prog 56 #[t76] w fun t77 w =>
 K t77 w))
 (fld 1 t3 w fun t79 w =>
 ld1 t79 w fun t80 w =>
 Cl prog 57 #[t0, t80] w fun t81 w =>
 bn .eql t81 w fun t84 w =>
 Zr t84
 (K (Iw 1) w)
 (fld 0 t3 w fun t86 w =>
 ld1 t86 w fun t87 w =>
 bi .eql .i64 t87 (Iw 5) w fun t88 w =>
 Zr t88
 (dr w fun w =>
 ncP t0 <|
 fld 4 t0 w fun t91 _ =>
 ld1 t91 w fun t92 _ =>
 ncP t81 <|
 fld 1 t81 w fun t95 _ =>
 ld1 t95 w fun t96 _ =>
 Cl prog 58 #[t92, t96] w fun t97 w =>
 K t97 w)
 (fld 1 t3 w fun t99 w =>
 ld1 t99 w fun t100 w =>
 Cl prog 59 #[t0, t100, t81] w fun t102 w =>
 K t102 w))))))))
theorem ZhK (h : Zij t0 t1 w K) : Cl prog 17 #[t0, t1] w K :=
 ZML 103 [4] Tryz.func17 h

def ZNv (t0 t1 : Value) (w : World) (K : KV) : Prop :=
 lnS t0 w fun t6 w =>
 lnS t1 w fun t8 w =>
 bi .leq .i64 t6 t8 w fun t9 w =>
 gd t9 true (fun k => k t0 w) w fun t11 w =>
 gd t9 true (fun k => k t1 w) w fun t12 w =>
 gd t9 true (fun k => k t0 w) w fun t13 w =>
 gd t9 true (fun k => lnS t13 w k) w fun t14 w =>
 gd t9 true (fun k => slc 7 t12 none (some t14) w k) w fun t15 w =>
 gd t9 true (fun k => Cl prog 25 #[t11, t15] w k) w fun t16 w =>
 pk t9 t16 (Value.bool false) w fun t17 w =>
 K t17 w
theorem ZNx (h : ZNv t0 t1 w K) : Cl prog 18 #[t0, t1] w K :=
 ZML 18 [4] Tryz.func18 h

def ZKn (t0 : Value) (w : World) (K : KV) : Prop :=
 ncP t0 <|
 fld 4 t0 w fun t5 w =>
 ld1 t5 w fun t6 w =>
 bn .eql t6 w fun t7 w =>
 Zr t7
 (K (Iw 0) w)
 (ncP t0 <|
 fld 4 t0 w fun t10 w =>
 ld1 t10 w fun t11 w =>
 Cl prog 60 #[t11] w fun t12 w =>
 K t12 w)
theorem ZKq (h : ZKn t0 w K) : Cl prog 19 #[t0] w K :=
 ZML 13 [2] Tryz.func19 h

def ZKa (t0 t1 : Value) (w : World) (K : KV) : Prop :=
 al (Value.cells t0) 45 w fun t2 w =>
 al (Value.cells t1) 45 w fun t3 w =>
 ldN 3 t2 w fun t5 w =>
 ldN 3 t3 w fun t6 w =>
 bO prog .eql 45 (Operand.tmp 5) (Operand.tmp 6) t5 t6 w fun t7 w =>
 Zr t7
 (K (Iw 0) w)
 (fld 0 t2 w fun t8 w =>
 ld1 t8 w fun t9 w =>
 fld 0 t3 w fun t10 w =>
 ld1 t10 w fun t11 w =>
 bi .lss .i64 t9 t11 w fun t12 w =>
 gd t12 false (fun k => fld 0 t2 w k) w fun t14 w =>
 gd t12 false (fun k => ld1 t14 w k) w fun t15 w =>
 gd t12 false (fun k => fld 0 t3 w k) w fun t16 w =>
 gd t12 false (fun k => ld1 t16 w k) w fun t17 w =>
 gd t12 false (fun k => bi .eql .i64 t15 t17 w k) w fun t18 w =>
 gd t12 false (fun k => k t18 w) w fun t19 w =>
 gd t19 true (fun k => fld 1 t2 w k) w fun t20 w =>
 gd t19 true (fun k => ld1 t20 w k) w fun t21 w =>
 gd t19 true (fun k => fld 1 t3 w k) w fun t22 w =>
 gd t19 true (fun k => ld1 t22 w k) w fun t23 w =>
 gd t19 true (fun k => bi .lss .i64 t21 t23 w k) w fun t24 w =>
 gd t12 false (fun k => pk t19 t24 (Value.bool false) w k) w fun t25 w =>
 pk t12 (Value.bool true) t25 w fun t26 w =>
 gd t26 false (fun k => fld 0 t2 w k) w fun t28 w =>
 gd t26 false (fun k => ld1 t28 w k) w fun t29 w =>
 gd t26 false (fun k => fld 0 t3 w k) w fun t30 w =>
 gd t26 false (fun k => ld1 t30 w k) w fun t31 w =>
 gd t26 false (fun k => bi .eql .i64 t29 t31 w k) w fun t32 w =>
 gd t26 false (fun k => k t32 w) w fun t33 w =>
 gd t33 true (fun k => fld 1 t2 w k) w fun t34 w =>
 gd t33 true (fun k => ld1 t34 w k) w fun t35 w =>
 gd t33 true (fun k => fld 1 t3 w k) w fun t36 w =>
 gd t33 true (fun k => ld1 t36 w k) w fun t37 w =>
 gd t33 true (fun k => bi .eql .i64 t35 t37 w k) w fun t38 w =>
 gd t26 false (fun k => pk t33 t38 (Value.bool false) w k) w fun t39 w =>
 gd t26 false (fun k => k t39 w) w fun t40 w =>
 gd t40 true (fun k => fld 2 t2 w k) w fun t41 w =>
 gd t40 true (fun k => ld1 t41 w k) w fun t42 w =>
 gd t40 true (fun k => fld 2 t3 w k) w fun t43 w =>
 gd t40 true (fun k => ld1 t43 w k) w fun t44 w =>
 gd t40 true (fun k => bi .lss .i64 t42 t44 w k) w fun t45 w =>
 gd t26 false (fun k => pk t40 t45 (Value.bool false) w k) w fun t46 w =>
 pk t26 (Value.bool true) t46 w fun t47 w =>
 Zr t47
 (K (Iw (-1)) w)
 (K (Iw 1) w))
theorem ZKh (h : ZKa t0 t1 w K) : Cl prog 20 #[t0, t1] w K :=
 ZML 48 [4] Tryz.func20 h

def ZeG (t0 : Value) (w : World) (K : KV) : Prop :=
 dr w fun w =>
 ncP t0 <|
 fld 3 t0 w fun t9 _ =>
 ld1 t9 w fun t10 _ =>
 ncP t0 <|
 fld 3 t0 w fun t14 _ =>
 ld1 t14 w fun t15 _ =>
 Cl prog 61 #[t10, (Iw 0)] w fun t11 w =>
 (ld1 t14 w (fun v' w'' => v' = t15 ∧ w'' = w)) ∧ (Cl prog 61 #[t15, (Iw 1)] w fun t16 w =>
 bi .add .i64 t11 t16 w fun t17 _ =>
 bi .gtr .i64 t17 (Iw 0) w fun t18 _ =>
 Zr t18
 (K (Value.bool false) w)
 (ncP t0 <|
 fld 1 t0 w fun t21 w =>
 ld1 t21 w fun t22 w =>
 lnS t22 w fun t23 w =>
 lp [(Iw 0)] w (b1 fun t24 w g1 =>
 bi .lss .i64 t24 t23 w fun t25 w =>
 Zr t25
 (ixS 1 t22 t24 w fun t27 w =>
 ld1 t27 w fun t28 w =>
 ncP t0 <|
 fld 2 t0 w fun t31 w =>
 ld1 t31 w fun t32 w =>
 ixS 1 t32 t24 w fun t34 w =>
 ld1 t34 w fun t35 w =>
 Cl prog 62 #[t35, (Value.func (.func 63) #[] #[])] w fun t36 w =>
 Zr t36
 (K (Value.bool false) w)
 (clI prog t28 "Waiting" #[] w fun t38 w =>
 dr w fun w =>
 lnS t38 w fun t40 _ =>
 bi .gtr .i64 t40 (Iw 0) w fun t41 _ =>
 gd t41 true (fun k => k t38 w) w fun t43 _ =>
 gd t41 true (fun k => ixS 6 t43 (Iw 0) w k) w fun t44 _ =>
 gd t41 true (fun k => fld 0 t44 w k) w fun t45 _ =>
 gd t41 true (fun k => fld 0 t45 w k) w fun t46 _ =>
 gd t41 true (fun k => ld1 t46 w k) w fun t47 _ =>
 gd t41 true (fun k => k t0 w) w fun t48 _ =>
 gd t41 true (fun k => nc t48 w k) w fun t49 _ =>
 gd t41 true (fun k => fld 0 t49 w k) w fun t50 _ =>
 gd t41 true (fun k => ld1 t50 w k) w fun t51 _ =>
 gd t41 true (fun k => bi .lss .i64 t47 t51 w k) w fun t52 _ =>
 pk t41 t52 (Value.bool false) w fun t53 _ =>
 Zr t53
 (K (Value.bool false) w)
 (Cl prog 57 #[t0, t24] w fun t56 w =>
 bn .neq t56 w fun t58 w =>
 gd t58 true (fun k => k t56 w) w fun t60 w =>
 gd t58 true (fun k => nc t60 w k) w fun t61 w =>
 gd t58 true (fun k => fld 0 t61 w k) w fun t62 w =>
 gd t58 true (fun k => ld1 t62 w k) w fun t63 w =>
 gd t58 true (fun k => Cl prog 64 #[t63] w k) w fun t64 w =>
 gd t58 true (fun k => bi .gtr .i64 t64 (Iw 0) w k) w fun t65 w =>
 pk t58 t65 (Value.bool false) w fun t66 w =>
 Zr t66
 (K (Value.bool false) w)
 (bi .add .i64 t24 (Iw 1) w fun t67 w =>
 g1 [t67] w))))
 (K (Value.bool true) w))))
theorem ZeO (h : ZeG t0 w K) : Cl prog 21 #[t0] w K :=
 ZML 68 [2] Tryz.func21 h

def Zg4 (t0 t1 : Value) (w : World) (K : KV) : Prop :=
 Cl prog 51 #[t0, t1] w fun t7 w =>
 Zb3 t7 w fun t8 w =>
 Zr t8
 (K (Value.slice none 0 0) w)
 (ncP t0 <|
 fld 2 t0 w fun t11 w =>
 ld1 t11 w fun t12 w =>
 ixS 1 t12 t1 w fun t14 w =>
 ld1 t14 w fun t15 w =>
 Cl prog 65 #[t15] w fun t16 w =>
 K t16 w)
theorem ZgI (h : Zg4 t0 t1 w K) : Cl prog 24 #[t0, t1] w K :=
 ZML 17 [4] Tryz.func24 h

def Zdv (t0 t1 : Value) (w : World) (K : KV) : Prop :=
 lnS t0 w fun t7 w =>
 lnS t1 w fun t9 w =>
 bi .neq .i64 t7 t9 w fun t10 w =>
 Zr t10
 (K (Value.bool false) w)
 (lp [(Iw 0)] w (b1 fun t5 w g1 =>
 lnS t0 w fun t13 w =>
 bi .lss .i64 t5 t13 w fun t14 w =>
 Zr t14
 (dr w fun w =>
 ixS 7 t0 t5 w fun t19 _ =>
 ldN 7 t19 w fun t20 _ =>
 ixS 7 t1 t5 w fun t23 _ =>
 ldN 7 t23 w fun t24 _ =>
 bO prog .neq 49 (Operand.tmp 20) (Operand.tmp 24) t20 t24 w fun t25 w =>
 Zr t25
 (K (Value.bool false) w)
 (bi .add .i64 t5 (Iw 1) w fun t16 w =>
 g1 [t16] w))
 (K (Value.bool true) w)))
theorem Zd2 (h : Zdv t0 t1 w K) : Cl prog 25 #[t0, t1] w K :=
 ZML 26 [4] Tryz.func25 h

def ZdY (t0 t1 : Value) (w : World) (K : KV) : Prop :=
 al (Zl prog 25) 25 w fun t4 w =>
 bld (Zl prog 147) #[(0, 1), (1, 1), (2, 1)] [(0, (Iw 0)), (1, (Iw 2)), (2, (Iw 1))] w fun t6 w =>
 bsl 147 3 1 (Zl prog 147) [(0, t6)] w fun t7 w =>
 bld (Zl prog 78) #[(0, 1), (1, 1), (2, 1), (3, 1)] [(0, (Iw 0)), (1, (Iw 0)), (2, (Iw 1)), (3, t7)] w fun t8 w =>
 bld (Zl prog 147) #[(0, 1), (1, 1), (2, 1)] [(0, (Iw 0)), (1, (Iw 3)), (2, (Iw 1))] w fun t9 w =>
 bsl 147 3 1 (Zl prog 147) [(0, t9)] w fun t10 w =>
 bld (Zl prog 78) #[(0, 1), (1, 1), (2, 1), (3, 1)] [(0, (Iw 1)), (1, (Iw 0)), (2, (Iw 0)), (3, t10)] w fun t11 w =>
 bsl 78 4 2 (Zl prog 78) [(0, t8), (1, t11)] w fun t12 w =>
 bsl 3 1 1 (Zl prog 3) [(0, (Iw (-1)))] w fun t13 w =>
 bsl 3 1 1 (Zl prog 3) [(0, (Iw 0))] w fun t16 w =>
 bsl 3 1 1 (Zl prog 3) [(0, (Iw 0))] w fun t17 w =>
 bld (Zl prog 147) #[(0, 1), (1, 1), (2, 1)] [(1, (Iw 3))] w fun t18 w =>
 bsl 147 3 1 (Zl prog 147) [(0, t18)] w fun t19 w =>
 bld (Zl prog 76) #[(0, 1), (1, 1), (2, 1), (3, 1), (4, 1), (5, 1), (6, 1)] [(0, t0), (1, (Iw 2)), (3, t12), (4, t16), (5, t17), (6, t19)] w fun t20 w =>
 bsl 3 1 1 (Zl prog 3) [(0, (Iw 0))] w fun t23 w =>
 bsl 3 1 1 (Zl prog 3) [(0, (Iw 0))] w fun t24 w =>
 bld (Zl prog 76) #[(0, 1), (1, 1), (2, 1), (3, 1), (4, 1), (5, 1), (6, 1)] [(0, t1), (1, (Iw 2)), (3, t12), (4, t23), (5, t24)] w fun t25 w =>
 bsl 76 7 2 (Zl prog 76) [(0, t20), (1, t25)] w fun t26 w =>
 bld (Zl prog 25) #[(0, 1), (1, 1), (2, 1)] [(0, t13), (2, (Iw 20)), (1, t26)] w fun t27 w =>
 stN 3 t4 t27 w fun _ w =>
 ldN 3 t4 w fun r0 _ =>
 K r0 w
theorem Zed (h : ZdY t0 t1 w K) : Cl prog 32 #[t0, t1] w K :=
 ZMM 28 [(4, some 25)] Tryz.func32 h
def Zc2 (t0 t1 : Value) (w : World) (K : KV) : Prop :=
 lp [(Value.bool true), (Iw 0)] w (b2 fun t5 t6 w g1 =>
 bi .lss .i64 t6 t1 w fun t17 w =>
 Zr t17
 (lp [(Iw 0)] w (b1 fun t7 w g2 =>
 bi .lss .i64 t7 (Iw 24) w fun t21 w =>
 Zr t21
 (bld (Zl prog 37) #[(0, 1), (1, 1), (2, 1)] [(0, (Iw 1)), (1, t6)] w fun t26 w =>
 Cl prog 17 #[t0, t26] w fun _ w =>
 bi .add .i64 t7 (Iw 1) w fun t23 w =>
 g2 [t23] w)
 (lp [t5, (Iw 0)] w (b2 fun t5_1 t8 w g3 =>
 bi .lss .i64 t8 t1 w fun t30 w =>
 Zr t30
 (lp [t5_1, (Iw 0)] w (b2 fun t5_2 t9 w g4 =>
 bi .lss .i64 t9 (Iw 8) w fun t34 w =>
 Zr t34
 (gd t5_2 true (fun k => k t0 w) w fun t39 w =>
 gd t5_2 true (fun k => k t6 w) w fun t40 w =>
 gd t5_2 true (fun k => k t8 w) w fun t41 w =>
 gd t5_2 true (fun k => bld (Zl prog 37) #[(0, 1), (1, 1), (2, 1)] [(0, (Iw 2)), (1, t40), (2, t41)] w k) w fun t42 w =>
 gd t5_2 true (fun k => Cl prog 17 #[t39, t42] w k) w fun t43 w =>
 gd t5_2 true (fun k => bi .neq .i64 t43 (Iw 2) w k) w fun t44 w =>
 pk t5_2 t44 (Value.bool false) w fun t45 w =>
 bi .add .i64 t9 (Iw 1) w fun t36 w =>
 g4 [t45, t36] w)
 (bi .add .i64 t8 (Iw 1) w fun t32 w =>
 g3 [t5_2, t32] w)))
 (bi .add .i64 t6 (Iw 1) w fun t19 w =>
 g1 [t5_1, t19] w)))))
 (lp [t5, (Iw 0)] w (b2 fun t5_3 t10 w g5 =>
 bi .lss .i64 t10 t1 w fun t48 w =>
 Zr t48
 (Cl prog 24 #[t0, t10] w fun t53 w =>
 lnS t53 w fun t54 w =>
 bi .eql .i64 t54 (Iw 0) w fun t55 w =>
 bld (Zl prog 37) #[(0, 1), (1, 1), (2, 1)] [(0, (Iw 0)), (1, t10)] w fun t58 w =>
 Cl prog 17 #[t0, t58] w fun t59 w =>
 gd t5_3 true (fun k => k t59 w) w fun t62 w =>
 gd t5_3 true (fun k => bi .neq .i64 t62 (Iw 2) w k) w fun t63 w =>
 gd t5_3 true (fun k => k t63 w) w fun t64 w =>
 gd t64 false (fun k => k t55 w) w fun t65 w =>
 gd t64 false (fun k => Zb3 t65 w k) w fun t66 w =>
 gd t5_3 true (fun k => pk t64 (Value.bool true) t66 w k) w fun t67 w =>
 pk t5_3 t67 (Value.bool false) w fun t68 w =>
 bld (Zl prog 37) #[(0, 1), (1, 1), (2, 1)] [(0, (Iw 3)), (1, t10)] w fun t71 w =>
 Cl prog 17 #[t0, t71] w fun _ w =>
 bi .add .i64 t10 (Iw 1) w fun t50 w =>
 g5 [t68, t50] w)
 (bld (Zl prog 37) #[(0, 1), (1, 1), (2, 1)] [(0, (Iw 4))] w fun t74 w =>
 Cl prog 17 #[t0, t74] w fun _ w =>
 lp [(Iw 0)] w (b1 fun t13 w g6 =>
 bi .lss .i64 t13 t1 w fun t78 w =>
 Zr t78
 (bld (Zl prog 37) #[(0, 1), (1, 1), (2, 1)] [(0, (Iw 5)), (1, t13)] w fun t83 w =>
 Cl prog 17 #[t0, t83] w fun _ w =>
 bi .add .i64 t13 (Iw 1) w fun t80 w =>
 g6 [t80] w)
 (lp [(Iw 0)] w (b1 fun t14 w g7 =>
 bi .lss .i64 t14 t1 w fun t87 w =>
 Zr t87
 (bld (Zl prog 37) #[(0, 1), (1, 1), (2, 1)] [(0, (Iw 6)), (1, t14)] w fun t92 w =>
 Cl prog 17 #[t0, t92] w fun _ w =>
 bi .add .i64 t14 (Iw 1) w fun t89 w =>
 g7 [t89] w)
 (K t5_3 w))))))))
theorem ZdG (h : Zc2 t0 t1 w K) : Cl prog 35 #[t0, t1] w K :=
 ZML 95 [4] Tryz.func35 h

def Zks (t0 : Value) (w : World) (K : KV) : Prop :=
 al (Value.cells t0) 25 w fun t1 w =>
 fld 2 t1 w fun t9 w =>
 ld1 t9 w fun t10 w =>
 Cl prog 86 #[t10, (Iw 0), (Iw 1099511627776)] w fun t11 w =>
 gd t11 true (fun k => fld 1 t1 w k) w fun t13 w =>
 gd t11 true (fun k => ld1 t13 w k) w fun t14 w =>
 gd t11 true (fun k => lnS t14 w k) w fun t15 w =>
 gd t11 true (fun k => Cl prog 86 #[t15, (Iw 1), (Iw 8)] w k) w fun t16 w =>
 pk t11 t16 (Value.bool false) w fun t17 w =>
 Cl prog 85 #[t17, (Iw 1)] w fun t18 w =>
 bsl 127 1 2 (Zl prog 127) [(0, (Value.func (Fn.func 83) #[] #[t1])), (1, t18)] w fun t19 w =>
 Cl prog 82 #[t19] w fun t20 w =>
 bi .neq .i64 t20 (Iw 0) w fun t22 w =>
 Zr t22
 (K (Value.tuple #[(Iw (-1)), t20]) w)
 (fld 1 t1 w fun t24 w =>
 ld1 t24 w fun t25 w =>
 lnS t25 w fun t26 w =>
 lp [(Iw 0)] w (b1 fun t27 w g1 =>
 bi .lss .i64 t27 t26 w fun t28 w =>
 Zr t28
 (ixS 7 t25 t27 w fun t30 w =>
 ldN 7 t30 w fun t31 w =>
 al (Zl prog 76) 76 w fun t6 w =>
 stN 7 t6 t31 w fun _ w =>
 ldN 7 t6 w fun t32 w =>
 fld 0 t1 w fun t33 w =>
 ld1 t33 w fun t34 w =>
 lnS t34 w fun t35 w =>
 Cl prog 87 #[t32, t35] w fun t36 w =>
 bi .neq .i64 t36 (Iw 0) w fun t38 w =>
 Zr t38
 (K (Value.tuple #[t27, t36]) w)
 (bi .add .i64 t27 (Iw 1) w fun t41 w =>
 g1 [t41] w))
 (K (Value.tuple #[(Iw (-1)), (Iw 0)]) w)))
theorem Ziy (h : Zks t0 w K) : Cl prog 38 #[t0] w K :=
 ZML 42 [2, 3] Tryz.func38 h

def Zn6 (t0 t1 : Value) (w : World) (K : KV) : Prop :=
 bi .lss .i64 t0 (Iw 1) w fun t7 w =>
 gd t7 false (fun k => k t0 w) w fun t9 w =>
 gd t7 false (fun k => bi .gtr .i64 t9 (Iw 8) w k) w fun t10 w =>
 pk t7 (Value.bool true) t10 w fun t11 w =>
 gd t11 false (fun k => k t1 w) w fun t13 w =>
 gd t11 false (fun k => bi .lss .i64 t13 (Iw 1) w k) w fun t14 w =>
 pk t11 (Value.bool true) t14 w fun t15 w =>
 gd t15 false (fun k => k t1 w) w fun t17 w =>
 gd t15 false (fun k => bi .gtr .i64 t17 (Iw 16) w k) w fun t18 w =>
 pk t15 (Value.bool true) t18 w fun t19 w =>
 Zr t19
 (K (Value.tuple #[(Value.pointer none), (Iw 1)]) w)
 (bld (Zl prog 161) #[(0, 1), (1, 1), (2, 8320)] [(0, t0), (1, t1)] w fun t22 w =>
 al (Value.cells t22) 161 w fun t23 w =>
 K (Value.tuple #[t23, (Iw 0)]) w)
theorem Zhf (h : Zn6 t0 t1 w K) : Cl prog 39 #[t0, t1] w K :=
 ZML 24 [4, 5] Tryz.func39 h

def ZvA (t0 t1 : Value) (w : World) (K : KV) : Prop :=
 al (Value.cells t0) 25 w fun t2 w =>
 ldN 3 t2 w fun t11 w =>
 Cl prog 38 #[t11] w fun t12 w =>
 xt 0 t12 w fun _ w =>
 xt 1 t12 w fun t14 w =>
 bi .neq .i64 t14 (Iw 0) w fun t16 w =>
 Zr t16
 (K (Value.tuple #[(Value.pointer none), t14]) w)
 (bi .lss .i64 t1 (Iw 0) w fun t19 w =>
 gd t19 false (fun k => k t1 w) w fun t21 w =>
 gd t19 false (fun k => fld 1 t2 w k) w fun t22 w =>
 gd t19 false (fun k => ld1 t22 w k) w fun t23 w =>
 gd t19 false (fun k => lnS t23 w k) w fun t24 w =>
 gd t19 false (fun k => bi .geq .i64 t21 t24 w k) w fun t25 w =>
 pk t19 (Value.bool true) t25 w fun t26 w =>
 gd t26 false (fun k => fld 1 t2 w k) w fun t28 w =>
 gd t26 false (fun k => ld1 t28 w k) w fun t29 w =>
 gd t26 false (fun k => k t1 w) w fun t30 w =>
 gd t26 false (fun k => ixS 7 t29 t30 w k) w fun t31 w =>
 gd t26 false (fun k => fld 0 t31 w k) w fun t32 w =>
 gd t26 false (fun k => ld1 t32 w k) w fun t33 w =>
 gd t26 false (fun k => bi .neq .i64 t33 (Iw 0) w k) w fun t34 w =>
 pk t26 (Value.bool true) t34 w fun t35 w =>
 Zr t35
 (K (Value.tuple #[(Value.pointer none), (Iw 1)]) w)
 (fld 1 t2 w fun t37 w =>
 ld1 t37 w fun t38 w =>
 lnS t38 w fun t39 w =>
 Cl prog 88 #[t39, t1] w fun t41 w =>
 xt 0 t41 w fun t42 w =>
 xt 1 t41 w fun t43 w =>
 bi .neq .i64 t43 (Iw 0) w fun t45 w =>
 Zr t45
 (K (Value.tuple #[(Value.pointer none), t43]) w)
 (dr w fun w =>
 ldN 3 t2 w fun t50 _ =>
 fld 1 t2 w fun t53 _ =>
 ld1 t53 w fun t54 _ =>
 ixS 7 t54 t1 w fun t56 _ =>
 fld 2 t56 w fun t57 _ =>
 ld1 t57 w fun t58 _ =>
 fld 1 t2 w fun t59 _ =>
 ld1 t59 w fun t60 _ =>
 ixS 7 t60 t1 w fun t62 _ =>
 fld 6 t62 w fun t63 _ =>
 ld1 t63 w fun t64 _ =>
 lnS t64 w fun t65 _ =>
 Cl prog 89 #[(Iw 64)] w fun t48 w =>
 (ld1 t63 w (fun v' w'' => v' = t64 ∧ w'' = w)) ∧ ((ld1 t59 w (fun v' w'' => v' = t60 ∧ w'' = w)) ∧ ((ld1 t57 w (fun v' w'' => v' = t58 ∧ w'' = w)) ∧ ((ld1 t53 w (fun v' w'' => v' = t54 ∧ w'' = w)) ∧ ((ldN 3 t2 w (fun v' w'' => v' = t50 ∧ w'' = w)) ∧ ((bld (Zl prog 168) #[(0, 1)] [(0, t48)] w fun t49 w =>
 (ld1 t63 w (fun v' w'' => v' = t64 ∧ w'' = w)) ∧ ((ld1 t59 w (fun v' w'' => v' = t60 ∧ w'' = w)) ∧ ((ld1 t57 w (fun v' w'' => v' = t58 ∧ w'' = w)) ∧ ((ld1 t53 w (fun v' w'' => v' = t54 ∧ w'' = w)) ∧ ((ldN 3 t2 w (fun v' w'' => v' = t50 ∧ w'' = w)) ∧ (Cl prog 90 #[t50] w fun t51 w =>
 (ld1 t63 w (fun v' w'' => v' = t64 ∧ w'' = w)) ∧ ((ld1 t59 w (fun v' w'' => v' = t60 ∧ w'' = w)) ∧ ((ld1 t57 w (fun v' w'' => v' = t58 ∧ w'' = w)) ∧ ((ld1 t53 w (fun v' w'' => v' = t54 ∧ w'' = w)) ∧ (bld (Zl prog 171) #[(0, 1), (1, 1), (2, 3), (5, 1), (6, 1), (7, 1), (8, 1)] [(0, t42), (1, t49), (2, t51), (3, t1), (4, t58), (5, t65)] w fun t66 w =>
 al (Value.cells t66) 171 w fun t67 w =>
 K (Value.tuple #[t67, (Iw 0)]) w)))))))))) ∧ (Cl prog 90 #[t50] w fun t51_1 w =>
 (ld1 t63 w (fun v' w'' => v' = t64 ∧ w'' = w)) ∧ ((ld1 t59 w (fun v' w'' => v' = t60 ∧ w'' = w)) ∧ ((ld1 t57 w (fun v' w'' => v' = t58 ∧ w'' = w)) ∧ ((ld1 t53 w (fun v' w'' => v' = t54 ∧ w'' = w)) ∧ (bld (Zl prog 168) #[(0, 1)] [(0, t48)] w fun t49_1 w =>
 (ld1 t63 w (fun v' w'' => v' = t64 ∧ w'' = w)) ∧ ((ld1 t59 w (fun v' w'' => v' = t60 ∧ w'' = w)) ∧ ((ld1 t57 w (fun v' w'' => v' = t58 ∧ w'' = w)) ∧ ((ld1 t53 w (fun v' w'' => v' = t54 ∧ w'' = w)) ∧ ((ldN 3 t2 w (fun v' w'' => v' = t50 ∧ w'' = w)) ∧ (bld (Zl prog 171) #[(0, 1), (1, 1), (2, 3), (5, 1), (6, 1), (7, 1), (8, 1)] [(0, t42), (1, t49_1), (2, t51_1), (3, t1), (4, t58), (5, t65)] w fun t66_1 w =>
 al (Value.cells t66_1) 171 w fun t67_1 w =>
 K (Value.tuple #[t67_1, (Iw 0)]) w))))))))))))))))))
theorem Zol (h : ZvA t0 t1 w K) : Cl prog 40 #[t0, t1] w K :=
 ZML 68 [4, 5] Tryz.func40 h

def ZrQ (t0 t1 : Value) (w : World) (K : KV) : Prop :=
 al (Value.cells t0) 25 w fun t2 w =>
 ldN 3 t2 w fun t12 w =>
 Cl prog 38 #[t12] w fun t13 w =>
 xt 0 t13 w fun _ w =>
 xt 1 t13 w fun t15 w =>
 bi .neq .i64 t15 (Iw 0) w fun t17 w =>
 Zr t17
 (K (Value.tuple #[(Value.pointer none), t15]) w)
 (bi .lss .i64 t1 (Iw 0) w fun t20 w =>
 gd t20 false (fun k => k t1 w) w fun t22 w =>
 gd t20 false (fun k => fld 1 t2 w k) w fun t23 w =>
 gd t20 false (fun k => ld1 t23 w k) w fun t24 w =>
 gd t20 false (fun k => lnS t24 w k) w fun t25 w =>
 gd t20 false (fun k => bi .geq .i64 t22 t25 w k) w fun t26 w =>
 pk t20 (Value.bool true) t26 w fun t27 w =>
 gd t27 false (fun k => fld 1 t2 w k) w fun t29 w =>
 gd t27 false (fun k => ld1 t29 w k) w fun t30 w =>
 gd t27 false (fun k => k t1 w) w fun t31 w =>
 gd t27 false (fun k => ixS 7 t30 t31 w k) w fun t32 w =>
 gd t27 false (fun k => fld 0 t32 w k) w fun t33 w =>
 gd t27 false (fun k => ld1 t33 w k) w fun t34 w =>
 gd t27 false (fun k => bi .neq .i64 t34 (Iw 1) w k) w fun t35 w =>
 pk t27 (Value.bool true) t35 w fun t36 w =>
 Zr t36
 (K (Value.tuple #[(Value.pointer none), (Iw 1)]) w)
 (dr w fun w =>
 ldN 3 t2 w fun t37 _ =>
 fld 1 t2 w fun t40 _ =>
 ld1 t40 w fun t41 _ =>
 ixS 7 t41 t1 w fun t43 _ =>
 fld 2 t43 w fun t44 _ =>
 ld1 t44 w fun t45 _ =>
 fld 1 t2 w fun t46 _ =>
 ld1 t46 w fun t47 _ =>
 ixS 7 t47 t1 w fun t49 _ =>
 fld 6 t49 w fun t50 _ =>
 ld1 t50 w fun t51 _ =>
 lnS t51 w fun t52 _ =>
 (Cl prog 91 #[t37] w fun t38 w =>
 (ld1 t50 w (fun v' w'' => v' = t51 ∧ w'' = w)) ∧ ((ld1 t46 w (fun v' w'' => v' = t47 ∧ w'' = w)) ∧ ((ld1 t44 w (fun v' w'' => v' = t45 ∧ w'' = w)) ∧ ((ld1 t40 w (fun v' w'' => v' = t41 ∧ w'' = w)) ∧ ((Cl prog 89 #[(Iw 64)] w fun t53 w =>
 (ld1 t50 w (fun v' w'' => v' = t51 ∧ w'' = w)) ∧ ((ld1 t46 w (fun v' w'' => v' = t47 ∧ w'' = w)) ∧ ((ld1 t44 w (fun v' w'' => v' = t45 ∧ w'' = w)) ∧ ((ld1 t40 w (fun v' w'' => v' = t41 ∧ w'' = w)) ∧ ((Cl prog 92 #[] w fun t54 w =>
 (ld1 t50 w (fun v' w'' => v' = t51 ∧ w'' = w)) ∧ ((ld1 t46 w (fun v' w'' => v' = t47 ∧ w'' = w)) ∧ ((ld1 t44 w (fun v' w'' => v' = t45 ∧ w'' = w)) ∧ ((ld1 t40 w (fun v' w'' => v' = t41 ∧ w'' = w)) ∧ ((Cl prog 93 #[] w fun t55 w =>
 (ld1 t50 w (fun v' w'' => v' = t51 ∧ w'' = w)) ∧ ((ld1 t46 w (fun v' w'' => v' = t47 ∧ w'' = w)) ∧ ((ld1 t44 w (fun v' w'' => v' = t45 ∧ w'' = w)) ∧ ((ld1 t40 w (fun v' w'' => v' = t41 ∧ w'' = w)) ∧ (ZlQ w fun t56 w =>
 (ld1 t50 w (fun v' w'' => v' = t51 ∧ w'' = w)) ∧ ((ld1 t46 w (fun v' w'' => v' = t47 ∧ w'' = w)) ∧ ((ld1 t44 w (fun v' w'' => v' = t45 ∧ w'' = w)) ∧ ((ld1 t40 w (fun v' w'' => v' = t41 ∧ w'' = w)) ∧ ((ldN 3 t2 w (fun v' w'' => v' = t37 ∧ w'' = w)) ∧ (bld (Zl prog 178) #[(0, 3), (3, 1), (4, 1), (5, 1), (6, 1), (7, 1), (8, 1), (9, 1), (10, 1)] [(0, t38), (1, t1), (2, t45), (3, t52), (4, t53), (5, t54), (6, t55), (7, t56)] w fun t57 w =>
 al (Value.cells t57) 178 w fun t58 w =>
 fld 1 t2 w fun t59 w =>
 ld1 t59 w fun t60 w =>
 lnS t60 w fun t61 w =>
 lp [(Iw 0)] w (b1 fun t62 w g1 =>
 bi .lss .i64 t62 t61 w fun t63 w =>
 Zr t63
 (J0 (fun w =>
 bi .add .i64 t62 (Iw 1) w fun t75 w =>
 g1 [t75] w) fun k2 =>
 ixS 7 t60 t62 w fun t65 w =>
 ldN 7 t65 w fun t66 w =>
 al (Zl prog 76) 76 w fun t10 w =>
 stN 7 t10 t66 w fun _ w =>
 fld 0 t10 w fun t67 w =>
 ld1 t67 w fun t68 w =>
 bi .eql .i64 t68 (Iw 0) w fun t69 w =>
 Zr t69
 (ncP t58 <|
 fld 9 t58 w fun t72 w =>
 ld1 t72 w fun t73 w =>
 upM prog 176 t73 t62 (Iw 0) w fun _ w =>
 k2 w)
 (k2 w))
 (K (Value.tuple #[t58, (Iw 0)]) w)))))))))))) ∧ (ZlQ w fun t56_1 w =>
 (ld1 t50 w (fun v' w'' => v' = t51 ∧ w'' = w)) ∧ ((ld1 t46 w (fun v' w'' => v' = t47 ∧ w'' = w)) ∧ ((ld1 t44 w (fun v' w'' => v' = t45 ∧ w'' = w)) ∧ ((ld1 t40 w (fun v' w'' => v' = t41 ∧ w'' = w)) ∧ ((ldN 3 t2 w (fun v' w'' => v' = t37 ∧ w'' = w)) ∧ (Cl prog 93 #[] w fun t55_1 w =>
 (ld1 t50 w (fun v' w'' => v' = t51 ∧ w'' = w)) ∧ ((ld1 t46 w (fun v' w'' => v' = t47 ∧ w'' = w)) ∧ ((ld1 t44 w (fun v' w'' => v' = t45 ∧ w'' = w)) ∧ ((ld1 t40 w (fun v' w'' => v' = t41 ∧ w'' = w)) ∧ (bld (Zl prog 178) #[(0, 3), (3, 1), (4, 1), (5, 1), (6, 1), (7, 1), (8, 1), (9, 1), (10, 1)] [(0, t38), (1, t1), (2, t45), (3, t52), (4, t53), (5, t54), (6, t55_1), (7, t56_1)] w fun t57_1 w =>
 al (Value.cells t57_1) 178 w fun t58_1 w =>
 fld 1 t2 w fun t59_1 w =>
 ld1 t59_1 w fun t60_1 w =>
 lnS t60_1 w fun t61_1 w =>
 lp [(Iw 0)] w (b1 fun t62_1 w g3 =>
 bi .lss .i64 t62_1 t61_1 w fun t63_1 w =>
 Zr t63_1
 (J0 (fun w =>
 bi .add .i64 t62_1 (Iw 1) w fun t75_1 w =>
 g3 [t75_1] w) fun k4 =>
 ixS 7 t60_1 t62_1 w fun t65_1 w =>
 ldN 7 t65_1 w fun t66_1 w =>
 al (Zl prog 76) 76 w fun t10_1 w =>
 stN 7 t10_1 t66_1 w fun _ w =>
 fld 0 t10_1 w fun t67_1 w =>
 ld1 t67_1 w fun t68_1 w =>
 bi .eql .i64 t68_1 (Iw 0) w fun t69_1 w =>
 Zr t69_1
 (ncP t58_1 <|
 fld 9 t58_1 w fun t72_1 w =>
 ld1 t72_1 w fun t73_1 w =>
 upM prog 176 t73_1 t62_1 (Iw 0) w fun _ w =>
 k4 w)
 (k4 w))
 (K (Value.tuple #[t58_1, (Iw 0)]) w))))))))))))))))) ∧ (ZlQ w fun t56_2 w =>
 (ld1 t50 w (fun v' w'' => v' = t51 ∧ w'' = w)) ∧ ((ld1 t46 w (fun v' w'' => v' = t47 ∧ w'' = w)) ∧ ((ld1 t44 w (fun v' w'' => v' = t45 ∧ w'' = w)) ∧ ((ld1 t40 w (fun v' w'' => v' = t41 ∧ w'' = w)) ∧ ((ldN 3 t2 w (fun v' w'' => v' = t37 ∧ w'' = w)) ∧ (Cl prog 92 #[] w fun t54_1 w =>
 (ld1 t50 w (fun v' w'' => v' = t51 ∧ w'' = w)) ∧ ((ld1 t46 w (fun v' w'' => v' = t47 ∧ w'' = w)) ∧ ((ld1 t44 w (fun v' w'' => v' = t45 ∧ w'' = w)) ∧ ((ld1 t40 w (fun v' w'' => v' = t41 ∧ w'' = w)) ∧ (Cl prog 93 #[] w fun t55_2 w =>
 (ld1 t50 w (fun v' w'' => v' = t51 ∧ w'' = w)) ∧ ((ld1 t46 w (fun v' w'' => v' = t47 ∧ w'' = w)) ∧ ((ld1 t44 w (fun v' w'' => v' = t45 ∧ w'' = w)) ∧ ((ld1 t40 w (fun v' w'' => v' = t41 ∧ w'' = w)) ∧ (bld (Zl prog 178) #[(0, 3), (3, 1), (4, 1), (5, 1), (6, 1), (7, 1), (8, 1), (9, 1), (10, 1)] [(0, t38), (1, t1), (2, t45), (3, t52), (4, t53), (5, t54_1), (6, t55_2), (7, t56_2)] w fun t57_2 w =>
 al (Value.cells t57_2) 178 w fun t58_2 w =>
 fld 1 t2 w fun t59_2 w =>
 ld1 t59_2 w fun t60_2 w =>
 lnS t60_2 w fun t61_2 w =>
 lp [(Iw 0)] w (b1 fun t62_2 w g5 =>
 bi .lss .i64 t62_2 t61_2 w fun t63_2 w =>
 Zr t63_2
 (J0 (fun w =>
 bi .add .i64 t62_2 (Iw 1) w fun t75_2 w =>
 g5 [t75_2] w) fun k6 =>
 ixS 7 t60_2 t62_2 w fun t65_2 w =>
 ldN 7 t65_2 w fun t66_2 w =>
 al (Zl prog 76) 76 w fun t10_2 w =>
 stN 7 t10_2 t66_2 w fun _ w =>
 fld 0 t10_2 w fun t67_2 w =>
 ld1 t67_2 w fun t68_2 w =>
 bi .eql .i64 t68_2 (Iw 0) w fun t69_2 w =>
 Zr t69_2
 (ncP t58_2 <|
 fld 9 t58_2 w fun t72_2 w =>
 ld1 t72_2 w fun t73_2 w =>
 upM prog 176 t73_2 t62_2 (Iw 0) w fun _ w =>
 k6 w)
 (k6 w))
 (K (Value.tuple #[t58_2, (Iw 0)]) w))))))))))))))))))))) ∧ (ZlQ w fun t56_3 w =>
 (ld1 t50 w (fun v' w'' => v' = t51 ∧ w'' = w)) ∧ ((ld1 t46 w (fun v' w'' => v' = t47 ∧ w'' = w)) ∧ ((ld1 t44 w (fun v' w'' => v' = t45 ∧ w'' = w)) ∧ ((ld1 t40 w (fun v' w'' => v' = t41 ∧ w'' = w)) ∧ ((ldN 3 t2 w (fun v' w'' => v' = t37 ∧ w'' = w)) ∧ (Cl prog 89 #[(Iw 64)] w fun t53_1 w =>
 (ld1 t50 w (fun v' w'' => v' = t51 ∧ w'' = w)) ∧ ((ld1 t46 w (fun v' w'' => v' = t47 ∧ w'' = w)) ∧ ((ld1 t44 w (fun v' w'' => v' = t45 ∧ w'' = w)) ∧ ((ld1 t40 w (fun v' w'' => v' = t41 ∧ w'' = w)) ∧ (Cl prog 92 #[] w fun t54_2 w =>
 (ld1 t50 w (fun v' w'' => v' = t51 ∧ w'' = w)) ∧ ((ld1 t46 w (fun v' w'' => v' = t47 ∧ w'' = w)) ∧ ((ld1 t44 w (fun v' w'' => v' = t45 ∧ w'' = w)) ∧ ((ld1 t40 w (fun v' w'' => v' = t41 ∧ w'' = w)) ∧ (Cl prog 93 #[] w fun t55_3 w =>
 (ld1 t50 w (fun v' w'' => v' = t51 ∧ w'' = w)) ∧ ((ld1 t46 w (fun v' w'' => v' = t47 ∧ w'' = w)) ∧ ((ld1 t44 w (fun v' w'' => v' = t45 ∧ w'' = w)) ∧ ((ld1 t40 w (fun v' w'' => v' = t41 ∧ w'' = w)) ∧ (bld (Zl prog 178) #[(0, 3), (3, 1), (4, 1), (5, 1), (6, 1), (7, 1), (8, 1), (9, 1), (10, 1)] [(0, t38), (1, t1), (2, t45), (3, t52), (4, t53_1), (5, t54_2), (6, t55_3), (7, t56_3)] w fun t57_3 w =>
 al (Value.cells t57_3) 178 w fun t58_3 w =>
 fld 1 t2 w fun t59_3 w =>
 ld1 t59_3 w fun t60_3 w =>
 lnS t60_3 w fun t61_3 w =>
 lp [(Iw 0)] w (b1 fun t62_3 w g7 =>
 bi .lss .i64 t62_3 t61_3 w fun t63_3 w =>
 Zr t63_3
 (J0 (fun w =>
 bi .add .i64 t62_3 (Iw 1) w fun t75_3 w =>
 g7 [t75_3] w) fun k8 =>
 ixS 7 t60_3 t62_3 w fun t65_3 w =>
 ldN 7 t65_3 w fun t66_3 w =>
 al (Zl prog 76) 76 w fun t10_3 w =>
 stN 7 t10_3 t66_3 w fun _ w =>
 fld 0 t10_3 w fun t67_3 w =>
 ld1 t67_3 w fun t68_3 w =>
 bi .eql .i64 t68_3 (Iw 0) w fun t69_3 w =>
 Zr t69_3
 (ncP t58_3 <|
 fld 9 t58_3 w fun t72_3 w =>
 ld1 t72_3 w fun t73_3 w =>
 upM prog 176 t73_3 t62_3 (Iw 0) w fun _ w =>
 k8 w)
 (k8 w))
 (K (Value.tuple #[t58_3, (Iw 0)]) w))))))))))))))))))))))))) ∧ (ZlQ w fun t56_4 w =>
 (ld1 t50 w (fun v' w'' => v' = t51 ∧ w'' = w)) ∧ ((ld1 t46 w (fun v' w'' => v' = t47 ∧ w'' = w)) ∧ ((ld1 t44 w (fun v' w'' => v' = t45 ∧ w'' = w)) ∧ ((ld1 t40 w (fun v' w'' => v' = t41 ∧ w'' = w)) ∧ ((ldN 3 t2 w (fun v' w'' => v' = t37 ∧ w'' = w)) ∧ (Cl prog 91 #[t37] w fun t38_1 w =>
 (ld1 t50 w (fun v' w'' => v' = t51 ∧ w'' = w)) ∧ ((ld1 t46 w (fun v' w'' => v' = t47 ∧ w'' = w)) ∧ ((ld1 t44 w (fun v' w'' => v' = t45 ∧ w'' = w)) ∧ ((ld1 t40 w (fun v' w'' => v' = t41 ∧ w'' = w)) ∧ (Cl prog 89 #[(Iw 64)] w fun t53_2 w =>
 (ld1 t50 w (fun v' w'' => v' = t51 ∧ w'' = w)) ∧ ((ld1 t46 w (fun v' w'' => v' = t47 ∧ w'' = w)) ∧ ((ld1 t44 w (fun v' w'' => v' = t45 ∧ w'' = w)) ∧ ((ld1 t40 w (fun v' w'' => v' = t41 ∧ w'' = w)) ∧ (Cl prog 92 #[] w fun t54_3 w =>
 (ld1 t50 w (fun v' w'' => v' = t51 ∧ w'' = w)) ∧ ((ld1 t46 w (fun v' w'' => v' = t47 ∧ w'' = w)) ∧ ((ld1 t44 w (fun v' w'' => v' = t45 ∧ w'' = w)) ∧ ((ld1 t40 w (fun v' w'' => v' = t41 ∧ w'' = w)) ∧ (Cl prog 93 #[] w fun t55_4 w =>
 (ld1 t50 w (fun v' w'' => v' = t51 ∧ w'' = w)) ∧ ((ld1 t46 w (fun v' w'' => v' = t47 ∧ w'' = w)) ∧ ((ld1 t44 w (fun v' w'' => v' = t45 ∧ w'' = w)) ∧ ((ld1 t40 w (fun v' w'' => v' = t41 ∧ w'' = w)) ∧ (bld (Zl prog 178) #[(0, 3), (3, 1), (4, 1), (5, 1), (6, 1), (7, 1), (8, 1), (9, 1), (10, 1)] [(0, t38_1), (1, t1), (2, t45), (3, t52), (4, t53_2), (5, t54_3), (6, t55_4), (7, t56_4)] w fun t57_4 w =>
 al (Value.cells t57_4) 178 w fun t58_4 w =>
 fld 1 t2 w fun t59_4 w =>
 ld1 t59_4 w fun t60_4 w =>
 lnS t60_4 w fun t61_4 w =>
 lp [(Iw 0)] w (b1 fun t62_4 w g9 =>
 bi .lss .i64 t62_4 t61_4 w fun t63_4 w =>
 Zr t63_4
 (J0 (fun w =>
 bi .add .i64 t62_4 (Iw 1) w fun t75_4 w =>
 g9 [t75_4] w) fun k10 =>
 ixS 7 t60_4 t62_4 w fun t65_4 w =>
 ldN 7 t65_4 w fun t66_4 w =>
 al (Zl prog 76) 76 w fun t10_4 w =>
 stN 7 t10_4 t66_4 w fun _ w =>
 fld 0 t10_4 w fun t67_4 w =>
 ld1 t67_4 w fun t68_4 w =>
 bi .eql .i64 t68_4 (Iw 0) w fun t69_4 w =>
 Zr t69_4
 (ncP t58_4 <|
 fld 9 t58_4 w fun t72_4 w =>
 ld1 t72_4 w fun t73_4 w =>
 upM prog 176 t73_4 t62_4 (Iw 0) w fun _ w =>
 k10 w)
 (k10 w))
 (K (Value.tuple #[t58_4, (Iw 0)]) w))))))))))))))))))))))))))
theorem Zm5 (h : ZrQ t0 t1 w K) : Cl prog 41 #[t0, t1] w K :=
 ZML 77 [4, 5] Tryz.func41 h

def Zvg (t0 : Value) (w : World) (K : KV) : Prop :=
 bi .lss .i64 t0 (Iw 1) w fun t5 w =>
 gd t5 false (fun k => k t0 w) w fun t7 w =>
 gd t5 false (fun k => bi .gtr .i64 t7 (Iw 8) w k) w fun t8 w =>
 pk t5 (Value.bool true) t8 w fun t9 w =>
 Zr t9
 (K (Value.tuple #[(Value.pointer none), (Iw 1)]) w)
 (bld (Zl prog 183) #[(0, 1), (1, 1), (2, 1), (3, 16), (19, 2), (21, 1), (22, 1)] [(0, t0)] w fun t11 w =>
 al (Value.cells t11) 183 w fun t12 w =>
 K (Value.tuple #[t12, (Iw 0)]) w)
theorem ZoD (h : Zvg t0 w K) : Cl prog 42 #[t0] w K :=
 ZML 13 [2, 3] Tryz.func42 h

def Ziq (t0 : Value) (w : World) (K : KV) : Prop :=
 al (Value.cells t0) 25 w fun t1 w =>
 fld 1 t1 w fun t6 w =>
 ld1 t6 w fun t7 w =>
 lnS t7 w fun t8 w =>
 lp [(Value.slice none 0 0), (Iw 0)] w (b2 fun t3 t9 w g1 =>
 bi .lss .i64 t9 t8 w fun t10 w =>
 Zr t10
 (ixS 7 t7 t9 w fun t12 w =>
 ldN 7 t12 w fun t13 w =>
 al (Zl prog 76) 76 w fun t5 w =>
 stN 7 t5 t13 w fun _ w =>
 ldN 3 t1 w fun t15 w =>
 fld 6 t5 w fun t17 w =>
 ld1 t17 w fun t18 w =>
 Cl prog 94 #[t15, t9, (Iw 0), (Iw 0), (Iw 0), t18] w fun t19 w =>
 apS prog #[69, 69] 69 t3 t19 w fun t20 w =>
 bi .add .i64 t9 (Iw 1) w fun t21 w =>
 g1 [t20, t21] w)
 (K t3 w))
theorem ZhE (h : Ziq t0 w K) : Cl prog 43 #[t0] w K :=
 ZML 23 [2] Tryz.func43 h

def ZgU (t0 t1 t2 : Value) (w : World) (K : KV) : Prop :=
 dr w fun w =>
 ncP t0 <|
 fld 2 t0 w fun t8 _ =>
 ld1 t8 w fun t9 _ =>
 ncP t0 <|
 fld 2 t0 w fun t13 _ =>
 ld1 t13 w fun t14 _ =>
 ixS 1 t14 t1 w fun t16 _ =>
 ld1 t16 w fun t17 _ =>
 apS prog #[53, 53] 53 t17 t2 w fun t19 w =>
 (ld1 t8 w (fun v' w'' => v' = t9 ∧ w'' = w)) ∧ (ixS 1 t9 t1 w fun t20 _ =>
 stN 1 t20 t19 w fun _ w =>
 K (Value.tuple #[]) w)
theorem Zgq (h : ZgU t0 t1 t2 w K) : Cl prog 44 #[t0, t1, t2] w K :=
 ZML 21 [] Tryz.func44 h

def ZJN (t0 : Value) (w : World) (K : KV) : Prop :=
 al (Value.cells t0) 25 w fun t1 w =>
 fld 0 t1 w fun t7 w =>
 ld1 t7 w fun t8 w =>
 Cl prog 95 #[t8] w fun t9 w =>
 bi .neq .i64 t9 (Iw 0) w fun t11 w =>
 Zr t11
 (K (Value.tuple #[(Iw (-1)), t9]) w)
 (fld 2 t1 w fun t13 w =>
 ld1 t13 w fun t14 w =>
 bi .lss .i64 t14 (Iw 0) w fun t15 w =>
 gd t15 false (fun k => fld 2 t1 w k) w fun t17 w =>
 gd t15 false (fun k => ld1 t17 w k) w fun t18 w =>
 gd t15 false (fun k => bi .gtr .i64 t18 (Iw 1099511627776) w k) w fun t19 w =>
 pk t15 (Value.bool true) t19 w fun t20 w =>
 gd t20 false (fun k => fld 1 t1 w k) w fun t22 w =>
 gd t20 false (fun k => ld1 t22 w k) w fun t23 w =>
 gd t20 false (fun k => lnS t23 w k) w fun t24 w =>
 gd t20 false (fun k => bi .lss .i64 t24 (Iw 1) w k) w fun t25 w =>
 pk t20 (Value.bool true) t25 w fun t26 w =>
 gd t26 false (fun k => fld 1 t1 w k) w fun t28 w =>
 gd t26 false (fun k => ld1 t28 w k) w fun t29 w =>
 gd t26 false (fun k => lnS t29 w k) w fun t30 w =>
 gd t26 false (fun k => bi .gtr .i64 t30 (Iw 8) w k) w fun t31 w =>
 pk t26 (Value.bool true) t31 w fun t32 w =>
 Zr t32
 (K (Value.tuple #[(Iw (-1)), (Iw 1)]) w)
 (lp [(Iw 0)] w (b1 fun t5 w g1 =>
 fld 1 t1 w fun t34 w =>
 ld1 t34 w fun t35 w =>
 lnS t35 w fun t36 w =>
 bi .lss .i64 t5 t36 w fun t37 w =>
 Zr t37
 (dr w fun w =>
 fld 1 t1 w fun t40 _ =>
 ld1 t40 w fun t41 _ =>
 ixS 7 t41 t5 w fun t43 _ =>
 ldN 7 t43 w fun t44 _ =>
 fld 0 t1 w fun t45 _ =>
 ld1 t45 w fun t46 _ =>
 lnS t46 w fun t47 _ =>
 Cl prog 96 #[t44, t47] w fun t48 w =>
 bi .neq .i64 t48 (Iw 0) w fun t50 w =>
 Zr t50
 (K (Value.tuple #[t5, t48]) w)
 (bi .add .i64 t5 (Iw 1) w fun t39 w =>
 g1 [t39] w))
 (K (Value.tuple #[(Iw (-1)), (Iw 0)]) w))))
theorem ZJY (h : ZJN t0 w K) : Cl prog 45 #[t0] w K :=
 ZML 53 [2, 3] Tryz.func45 h

def ZMT (t0 t1 : Value) (w : World) (K : KV) : Prop :=
 bi .lss .i64 t0 (Iw 1) w fun t7 w =>
 gd t7 false (fun k => k t0 w) w fun t9 w =>
 gd t7 false (fun k => bi .gtr .i64 t9 (Iw 8) w k) w fun t10 w =>
 pk t7 (Value.bool true) t10 w fun t11 w =>
 gd t11 false (fun k => k t1 w) w fun t13 w =>
 gd t11 false (fun k => bi .lss .i64 t13 (Iw 1) w k) w fun t14 w =>
 pk t11 (Value.bool true) t14 w fun t15 w =>
 gd t15 false (fun k => k t1 w) w fun t17 w =>
 gd t15 false (fun k => bi .gtr .i64 t17 (Iw 16) w k) w fun t18 w =>
 pk t15 (Value.bool true) t18 w fun t19 w =>
 Zr t19
 (K (Value.tuple #[(Value.pointer none), (Iw 1)]) w)
 (bi .mul .i64 t0 t0 w fun t24 w =>
 mkS prog 55 t24 t24 w fun t25 w =>
 bld (Zl prog 186) #[(0, 1), (1, 1), (2, 1)] [(0, t0), (1, t1), (2, t25)] w fun t26 w =>
 al (Value.cells t26) 186 w fun t27 w =>
 K (Value.tuple #[t27, (Iw 0)]) w)
theorem ZMX (h : ZMT t0 t1 w K) : Cl prog 46 #[t0, t1] w K :=
 ZML 28 [4, 5] Tryz.func46 h

def ZMP (t0 t1 : Value) (w : World) (K : KV) : Prop :=
 al (Value.cells t0) 25 w fun t2 w =>
 ldN 3 t2 w fun t11 w =>
 Cl prog 45 #[t11] w fun t12 w =>
 xt 0 t12 w fun _ w =>
 xt 1 t12 w fun t14 w =>
 bi .neq .i64 t14 (Iw 0) w fun t16 w =>
 Zr t16
 (K (Value.tuple #[(Value.pointer none), t14]) w)
 (bi .lss .i64 t1 (Iw 0) w fun t19 w =>
 gd t19 false (fun k => k t1 w) w fun t21 w =>
 gd t19 false (fun k => fld 1 t2 w k) w fun t22 w =>
 gd t19 false (fun k => ld1 t22 w k) w fun t23 w =>
 gd t19 false (fun k => lnS t23 w k) w fun t24 w =>
 gd t19 false (fun k => bi .geq .i64 t21 t24 w k) w fun t25 w =>
 pk t19 (Value.bool true) t25 w fun t26 w =>
 gd t26 false (fun k => fld 1 t2 w k) w fun t28 w =>
 gd t26 false (fun k => ld1 t28 w k) w fun t29 w =>
 gd t26 false (fun k => k t1 w) w fun t30 w =>
 gd t26 false (fun k => ixS 7 t29 t30 w k) w fun t31 w =>
 gd t26 false (fun k => fld 0 t31 w k) w fun t32 w =>
 gd t26 false (fun k => ld1 t32 w k) w fun t33 w =>
 gd t26 false (fun k => bi .neq .i64 t33 (Iw 0) w k) w fun t34 w =>
 pk t26 (Value.bool true) t34 w fun t35 w =>
 Zr t35
 (K (Value.tuple #[(Value.pointer none), (Iw 1)]) w)
 (fld 1 t2 w fun t37 w =>
 ld1 t37 w fun t38 w =>
 lnS t38 w fun t39 w =>
 Cl prog 97 #[t39, t1] w fun t41 w =>
 xt 0 t41 w fun t42 w =>
 xt 1 t41 w fun _ w =>
 dr w fun w =>
 ldN 3 t2 w fun t44 _ =>
 fld 1 t2 w fun t46 _ =>
 ld1 t46 w fun t47 _ =>
 ixS 7 t47 t1 w fun t49 _ =>
 fld 2 t49 w fun t50 _ =>
 ld1 t50 w fun t51 _ =>
 fld 1 t2 w fun t52 _ =>
 ld1 t52 w fun t53 _ =>
 ixS 7 t53 t1 w fun t55 _ =>
 fld 6 t55 w fun t56 _ =>
 ld1 t56 w fun t57 _ =>
 lnS t57 w fun t58 _ =>
 Cl prog 98 #[(Iw 64)] w fun t60 w =>
 (ld1 t56 w (fun v' w'' => v' = t57 ∧ w'' = w)) ∧ ((ld1 t52 w (fun v' w'' => v' = t53 ∧ w'' = w)) ∧ ((ld1 t50 w (fun v' w'' => v' = t51 ∧ w'' = w)) ∧ ((ld1 t46 w (fun v' w'' => v' = t47 ∧ w'' = w)) ∧ ((ldN 3 t2 w (fun v' w'' => v' = t44 ∧ w'' = w)) ∧ (bld (Zl prog 141) #[(0, 3), (3, 1), (4, 1), (5, 1), (6, 1), (7, 1), (8, 1)] [(0, t44), (1, t1), (2, t51), (3, t58), (4, t42), (5, t60)] w fun t61 w =>
 al (Value.cells t61) 141 w fun t62 w =>
 K (Value.tuple #[t62, (Iw 0)]) w)))))))
theorem ZMY (h : ZMP t0 t1 w K) : Cl prog 47 #[t0, t1] w K :=
 ZML 63 [4, 5] Tryz.func47 h

def ZMW (t0 t1 : Value) (w : World) (K : KV) : Prop :=
 al (Value.cells t0) 25 w fun t2 w =>
 ldN 3 t2 w fun t11 w =>
 Cl prog 45 #[t11] w fun t12 w =>
 xt 0 t12 w fun _ w =>
 xt 1 t12 w fun t14 w =>
 bi .neq .i64 t14 (Iw 0) w fun t16 w =>
 Zr t16
 (K (Value.tuple #[(Value.pointer none), t14]) w)
 (bi .lss .i64 t1 (Iw 0) w fun t19 w =>
 gd t19 false (fun k => k t1 w) w fun t21 w =>
 gd t19 false (fun k => fld 1 t2 w k) w fun t22 w =>
 gd t19 false (fun k => ld1 t22 w k) w fun t23 w =>
 gd t19 false (fun k => lnS t23 w k) w fun t24 w =>
 gd t19 false (fun k => bi .geq .i64 t21 t24 w k) w fun t25 w =>
 pk t19 (Value.bool true) t25 w fun t26 w =>
 gd t26 false (fun k => fld 1 t2 w k) w fun t28 w =>
 gd t26 false (fun k => ld1 t28 w k) w fun t29 w =>
 gd t26 false (fun k => k t1 w) w fun t30 w =>
 gd t26 false (fun k => ixS 7 t29 t30 w k) w fun t31 w =>
 gd t26 false (fun k => fld 0 t31 w k) w fun t32 w =>
 gd t26 false (fun k => ld1 t32 w k) w fun t33 w =>
 gd t26 false (fun k => bi .neq .i64 t33 (Iw 1) w k) w fun t34 w =>
 pk t26 (Value.bool true) t34 w fun t35 w =>
 Zr t35
 (K (Value.tuple #[(Value.pointer none), (Iw 1)]) w)
 (dr w fun w =>
 ldN 3 t2 w fun t36 _ =>
 fld 1 t2 w fun t38 _ =>
 ld1 t38 w fun t39 _ =>
 ixS 7 t39 t1 w fun t41 _ =>
 fld 2 t41 w fun t42 _ =>
 ld1 t42 w fun t43 _ =>
 fld 1 t2 w fun t44 _ =>
 ld1 t44 w fun t45 _ =>
 ixS 7 t45 t1 w fun t47 _ =>
 fld 6 t47 w fun t48 _ =>
 ld1 t48 w fun t49 _ =>
 lnS t49 w fun t50 _ =>
 Cl prog 98 #[(Iw 64)] w fun t51 w =>
 (ld1 t48 w (fun v' w'' => v' = t49 ∧ w'' = w)) ∧ ((ld1 t44 w (fun v' w'' => v' = t45 ∧ w'' = w)) ∧ ((ld1 t42 w (fun v' w'' => v' = t43 ∧ w'' = w)) ∧ ((ld1 t38 w (fun v' w'' => v' = t39 ∧ w'' = w)) ∧ ((ldN 3 t2 w (fun v' w'' => v' = t36 ∧ w'' = w)) ∧ (Cl prog 99 #[] w fun t52 w =>
 (ld1 t48 w (fun v' w'' => v' = t49 ∧ w'' = w)) ∧ ((ld1 t44 w (fun v' w'' => v' = t45 ∧ w'' = w)) ∧ ((ld1 t42 w (fun v' w'' => v' = t43 ∧ w'' = w)) ∧ ((ld1 t38 w (fun v' w'' => v' = t39 ∧ w'' = w)) ∧ ((ldN 3 t2 w (fun v' w'' => v' = t36 ∧ w'' = w)) ∧ (Cl prog 100 #[] w fun t53 w =>
 (ld1 t48 w (fun v' w'' => v' = t49 ∧ w'' = w)) ∧ ((ld1 t44 w (fun v' w'' => v' = t45 ∧ w'' = w)) ∧ ((ld1 t42 w (fun v' w'' => v' = t43 ∧ w'' = w)) ∧ ((ld1 t38 w (fun v' w'' => v' = t39 ∧ w'' = w)) ∧ ((ldN 3 t2 w (fun v' w'' => v' = t36 ∧ w'' = w)) ∧ (bld (Zl prog 145) #[(0, 3), (3, 1), (4, 1), (5, 1), (6, 1), (7, 1), (8, 1), (9, 1), (10, 1)] [(0, t36), (1, t1), (2, t43), (3, t50), (4, t51), (5, t52), (6, t53)] w fun t54 w =>
 al (Value.cells t54) 145 w fun t55 w =>
 lp [(Iw 0)] w (b1 fun t9 w g1 =>
 fld 1 t2 w fun t57 w =>
 ld1 t57 w fun t58 w =>
 lnS t58 w fun t59 w =>
 bi .lss .i64 t9 t59 w fun t60 w =>
 Zr t60
 (J0 (fun w =>
 bi .add .i64 t9 (Iw 1) w fun t62 w =>
 g1 [t62] w) fun k2 =>
 ncP t55 <|
 fld 9 t55 w fun t66 w =>
 ld1 t66 w fun t67 w =>
 bsl 3 1 1 (Zl prog 3) [(0, (Iw (-1)))] w fun t68 w =>
 apS prog #[22, 22] 22 t67 t68 w fun t69 w =>
 ncP t55 <|
 fld 9 t55 w fun t71 w =>
 stN 1 t71 t69 w fun _ w =>
 fld 1 t2 w fun t72 w =>
 ld1 t72 w fun t73 w =>
 ixS 7 t73 t9 w fun t75 w =>
 fld 0 t75 w fun t76 w =>
 ld1 t76 w fun t77 w =>
 bi .eql .i64 t77 (Iw 0) w fun t78 w =>
 Zr t78
 (ncP t55 <|
 fld 9 t55 w fun t81 w =>
 ld1 t81 w fun t82 w =>
 ixS 1 t82 t9 w fun t84 w =>
 stN 1 t84 (Iw 0) w fun _ w =>
 k2 w)
 (k2 w))
 (K (Value.tuple #[t55, (Iw 0)]) w)))))))))))))))))))
theorem ZM2 (h : ZMW t0 t1 w K) : Cl prog 48 #[t0, t1] w K :=
 ZML 86 [4, 5] Tryz.func48 h

def ZMS (t0 : Value) (w : World) (K : KV) : Prop :=
 bi .lss .i64 t0 (Iw 1) w fun t5 w =>
 gd t5 false (fun k => k t0 w) w fun t7 w =>
 gd t5 false (fun k => bi .gtr .i64 t7 (Iw 8) w k) w fun t8 w =>
 pk t5 (Value.bool true) t8 w fun t9 w =>
 Zr t9
 (K (Value.tuple #[(Value.pointer none), (Iw 1)]) w)
 (dr w fun w =>
 (mkS prog 22 t0 t0 w fun t11 w =>
 (mkS prog 134 t0 t0 w fun t13 w =>
 mkS prog 134 t0 t0 w fun t15 w =>
 bld (Zl prog 137) #[(0, 1), (1, 1), (2, 1), (3, 2), (5, 1), (6, 1), (7, 1), (8, 1), (9, 1)] [(0, t11), (1, t13), (2, t15)] w fun t16 w =>
 al (Value.cells t16) 137 w fun t17 w =>
 K (Value.tuple #[t17, (Iw 0)]) w) ∧ (mkS prog 134 t0 t0 w fun t15_1 w =>
 mkS prog 134 t0 t0 w fun t13_1 w =>
 bld (Zl prog 137) #[(0, 1), (1, 1), (2, 1), (3, 2), (5, 1), (6, 1), (7, 1), (8, 1), (9, 1)] [(0, t11), (1, t13_1), (2, t15_1)] w fun t16_1 w =>
 al (Value.cells t16_1) 137 w fun t17_1 w =>
 K (Value.tuple #[t17_1, (Iw 0)]) w)) ∧ ((mkS prog 134 t0 t0 w fun t13_2 w =>
 (mkS prog 22 t0 t0 w fun t11_1 w =>
 mkS prog 134 t0 t0 w fun t15_2 w =>
 bld (Zl prog 137) #[(0, 1), (1, 1), (2, 1), (3, 2), (5, 1), (6, 1), (7, 1), (8, 1), (9, 1)] [(0, t11_1), (1, t13_2), (2, t15_2)] w fun t16_2 w =>
 al (Value.cells t16_2) 137 w fun t17_2 w =>
 K (Value.tuple #[t17_2, (Iw 0)]) w) ∧ (mkS prog 134 t0 t0 w fun t15_3 w =>
 mkS prog 22 t0 t0 w fun t11_2 w =>
 bld (Zl prog 137) #[(0, 1), (1, 1), (2, 1), (3, 2), (5, 1), (6, 1), (7, 1), (8, 1), (9, 1)] [(0, t11_2), (1, t13_2), (2, t15_3)] w fun t16_3 w =>
 al (Value.cells t16_3) 137 w fun t17_3 w =>
 K (Value.tuple #[t17_3, (Iw 0)]) w)) ∧ (mkS prog 134 t0 t0 w fun t15_4 w =>
 (mkS prog 22 t0 t0 w fun t11_3 w =>
 mkS prog 134 t0 t0 w fun t13_3 w =>
 bld (Zl prog 137) #[(0, 1), (1, 1), (2, 1), (3, 2), (5, 1), (6, 1), (7, 1), (8, 1), (9, 1)] [(0, t11_3), (1, t13_3), (2, t15_4)] w fun t16_4 w =>
 al (Value.cells t16_4) 137 w fun t17_4 w =>
 K (Value.tuple #[t17_4, (Iw 0)]) w) ∧ (mkS prog 134 t0 t0 w fun t13_4 w =>
 mkS prog 22 t0 t0 w fun t11_4 w =>
 bld (Zl prog 137) #[(0, 1), (1, 1), (2, 1), (3, 2), (5, 1), (6, 1), (7, 1), (8, 1), (9, 1)] [(0, t11_4), (1, t13_4), (2, t15_4)] w fun t16_5 w =>
 al (Value.cells t16_5) 137 w fun t17_5 w =>
 K (Value.tuple #[t17_5, (Iw 0)]) w))))
theorem ZMZ (h : ZMS t0 w K) : Cl prog 49 #[t0] w K :=
 ZML 18 [2, 3] Tryz.func49 h

def ZJB (t0 : Value) (w : World) (K : KV) : Prop :=
 al (Value.cells t0) 25 w fun t1 w =>
 bsl 47 6 0 #[] [] w fun t5 w =>
 lp [t5, (Iw 0)] w (b2 fun t3 t4 w g1 =>
 fld 1 t1 w fun t7 w =>
 ld1 t7 w fun t8 w =>
 lnS t8 w fun t9 w =>
 bi .lss .i64 t4 t9 w fun t10 w =>
 Zr t10
 (dr w fun w =>
 ldN 3 t1 w fun t14 _ =>
 fld 1 t1 w fun t16 _ =>
 ld1 t16 w fun t17 _ =>
 ixS 7 t17 t4 w fun t19 _ =>
 fld 6 t19 w fun t20 _ =>
 ld1 t20 w fun t21 _ =>
 Cl prog 101 #[t14, t4, (Iw 0), (Iw 0), (Iw 0), t21] w fun t22 w =>
 apS prog #[69, 69] 69 t3 t22 w fun t23 w =>
 bi .add .i64 t4 (Iw 1) w fun t12 w =>
 g1 [t23, t12] w)
 (K t3 w))
theorem ZJO (h : ZJB t0 w K) : Cl prog 50 #[t0] w K :=
 ZML 25 [2] Tryz.func50 h

def Zip (t0 t1 : Value) (w : World) (K : KV) : Prop :=
 bi .geq .i64 t1 (Iw 0) w fun t6 w =>
 gd t6 true (fun k => k t1 w) w fun t8 w =>
 gd t6 true (fun k => k t0 w) w fun t9 w =>
 gd t6 true (fun k => nc t9 w k) w fun t10 w =>
 gd t6 true (fun k => fld 1 t10 w k) w fun t11 w =>
 gd t6 true (fun k => ld1 t11 w k) w fun t12 w =>
 gd t6 true (fun k => lnS t12 w k) w fun t13 w =>
 gd t6 true (fun k => bi .lss .i64 t8 t13 w k) w fun t14 w =>
 pk t6 t14 (Value.bool false) w fun t15 w =>
 K t15 w
theorem ZhU (h : Zip t0 t1 w K) : Cl prog 51 #[t0, t1] w K :=
 ZML 16 [4] Tryz.func51 h

def Zfw (t0 t1 : Value) (w : World) (K : KV) : Prop :=
 ncP t0 <|
 fld 2 t0 w fun t9 w =>
 ld1 t9 w fun t10 w =>
 ixS 1 t10 t1 w fun t12 w =>
 ld1 t12 w fun t13 w =>
 lnS t13 w fun t14 w =>
 bi .gtr .i64 t14 (Iw 0) w fun t15 w =>
 Zr t15
 (K (Iw 2) w)
 (ncP t0 <|
 fld 1 t0 w fun t19 w =>
 ld1 t19 w fun t20 w =>
 ixS 1 t20 t1 w fun t22 w =>
 ld1 t22 w fun t23 w =>
 clI prog t23 "paceline/fed.step" #[] w fun t24 w =>
 xt 0 t24 w fun t25 w =>
 xt 1 t24 w fun t26 w =>
 Cl prog 44 #[t0, t1, t25] w fun _ w =>
 K t26 w)
theorem ZfK (h : Zfw t0 t1 w K) : Cl prog 52 #[t0, t1] w K :=
 ZML 32 [4] Tryz.func52 h

def ZeM (t0 t1 : Value) (w : World) (K : KV) : Prop :=
 ncP t0 <|
 fld 2 t0 w fun t11 w =>
 ld1 t11 w fun t12 w =>
 ixS 1 t12 t1 w fun t14 w =>
 ld1 t14 w fun t15 w =>
 lnS t15 w fun t16 w =>
 bi .eql .i64 t16 (Iw 0) w fun t17 w =>
 Zr t17
 (K (Iw 150) w)
 (ncP t0 <|
 fld 2 t0 w fun t20 w =>
 ld1 t20 w fun t21 w =>
 ixS 1 t21 t1 w fun t23 w =>
 ld1 t23 w fun t24 w =>
 ixS 8 t24 (Iw 0) w fun t25 w =>
 ldN 8 t25 w fun t26 w =>
 al (Zl prog 104) 104 w fun t5 w =>
 stN 8 t5 t26 w fun _ w =>
 dr w fun w =>
 ncP t0 <|
 fld 3 t0 w fun t29 _ =>
 ld1 t29 w fun t30 _ =>
 fld 1 t5 w fun t32 _ =>
 fld 3 t32 w fun t33 _ =>
 ld1 t33 w fun t34 _ =>
 Cl prog 102 #[t30, t1, t34] w fun t35 w =>
 bi .eql .i64 t35 (Iw 0) w fun t36 _ =>
 Zr t36
 (K (Iw 2) w)
 (fld 1 t5 w fun t40 w =>
 fld 3 t40 w fun t41 w =>
 ld1 t41 w fun t42 w =>
 ldN 8 t5 w fun t43 w =>
 Cl prog 103 #[t0, t1, t42, t43] w fun t44 w =>
 xt 0 t44 w fun t45 w =>
 xt 1 t44 w fun _ w =>
 xt 2 t44 w fun t47 w =>
 J0 (fun w =>
 dr w fun w =>
 ncP t0 <|
 fld 2 t0 w fun t68 _ =>
 ld1 t68 w fun t69 _ =>
 ncP t0 <|
 fld 2 t0 w fun t73 _ =>
 ld1 t73 w fun t74 _ =>
 ixS 1 t74 t1 w fun t76 _ =>
 ld1 t76 w fun t77 _ =>
 slc 8 t77 (some (Iw 1)) none w fun t78 _ =>
 Cl prog 65 #[t78] w fun t79 w =>
 (ld1 t68 w (fun v' w'' => v' = t69 ∧ w'' = w)) ∧ (ixS 1 t69 t1 w fun t80 _ =>
 stN 1 t80 t79 w fun _ w =>
 dr w fun w =>
 ncP t0 <|
 fld 3 t0 w fun t83 _ =>
 ld1 t83 w fun t84 _ =>
 fld 1 t5 w fun t86 _ =>
 fld 3 t86 w fun t87 _ =>
 ld1 t87 w fun t88 _ =>
 ldN 8 t5 w fun t89 _ =>
 Cl prog 105 #[t84, t1, t88, t89] w fun t90 w =>
 K t90 w)) fun k1 =>
 Zr t47
 (dr w fun w =>
 ncP t0 <|
 fld 4 t0 w fun t52 _ =>
 ld1 t52 w fun t53 _ =>
 ncP t45 <|
 fld 1 t45 w fun t56 _ =>
 ld1 t56 w fun t57 _ =>
 fld 1 t5 w fun t58 _ =>
 fld 0 t58 w fun t59 _ =>
 fld 0 t59 w fun t60 _ =>
 ld1 t60 w fun t61 _ =>
 Cl prog 104 #[t53, t57, t61] w fun t62 w =>
 xt 0 t62 w fun t63 _ =>
 xt 1 t62 w fun _ _ =>
 fld 7 t5 w fun t65 _ =>
 stN 1 t65 t63 w fun _ w =>
 k1 w)
 (k1 w)))
theorem Ze0 (h : ZeM t0 t1 w K) : Cl prog 53 #[t0, t1] w K :=
 ZML 91 [4] Tryz.func53 h

def Zdf (t0 t1 t2 : Value) (w : World) (K : KV) : Prop :=
 ncP t0 <|
 fld 3 t0 w fun t17 w =>
 ld1 t17 w fun t18 w =>
 Cl prog 106 #[t18, t1, t2] w fun t21 w =>
 xt 0 t21 w fun t22 w =>
 xt 1 t21 w fun t23 w =>
 al (Zl prog 104) 104 w fun t7 w =>
 stN 8 t7 t22 w fun _ w =>
 Zb3 t23 w fun t25 w =>
 Zr t25
 (K (Iw 150) w)
 (dr w fun w =>
 ncP t0 <|
 fld 1 t0 w fun t29 _ =>
 ld1 t29 w fun t30 _ =>
 ixS 1 t30 t2 w fun t32 _ =>
 ld1 t32 w fun t33 _ =>
 ldN 8 t7 w fun t35 _ =>
 clI prog t33 "paceline/fed.hear" #[t1, t35] w fun t36 w =>
 xt 0 t36 w fun t37 _ =>
 xt 1 t36 w fun t38 _ =>
 bi .neq .i64 t38 (Iw 0) w fun t40 w =>
 Zr t40
 (K t38 w)
 (ncP t0 <|
 fld 3 t0 w fun t44 w =>
 ld1 t44 w fun t45 w =>
 Cl prog 107 #[t45, t1, t2] w fun _ w =>
 ldN 8 t7 w fun t53 w =>
 Cl prog 103 #[t0, t1, t2, t53] w fun t54 w =>
 xt 0 t54 w fun _ w =>
 xt 1 t54 w fun t56 w =>
 xt 2 t54 w fun t57 w =>
 J0 (fun w =>
 Cl prog 44 #[t0, t2, t37] w fun _ w =>
 K (Iw 0) w) fun k1 =>
 Zr t57
 (dr w fun w =>
 ncP t0 <|
 fld 4 t0 w fun t61 _ =>
 ld1 t61 w fun t62 _ =>
 ncP t56 <|
 fld 1 t56 w fun t65 _ =>
 ld1 t65 w fun t66 _ =>
 fld 7 t7 w fun t67 _ =>
 ld1 t67 w fun t68 _ =>
 Cl prog 108 #[t62, t66, t68] w fun _ w =>
 k1 w)
 (k1 w)))
theorem ZdS (h : Zdf t0 t1 t2 w K) : Cl prog 54 #[t0, t1, t2] w K :=
 ZML 74 [6] Tryz.func54 h

def ZfA (t0 t1 : Value) (w : World) (K : KV) : Prop :=
 ncP t0 <|
 fld 2 t0 w fun t10 w =>
 ld1 t10 w fun t11 w =>
 ixS 1 t11 t1 w fun t13 w =>
 ld1 t13 w fun t14 w =>
 lnS t14 w fun t15 w =>
 bi .gtr .i64 t15 (Iw 0) w fun t16 w =>
 Zr t16
 (K (Iw 2) w)
 (ncP t0 <|
 fld 1 t0 w fun t20 w =>
 ld1 t20 w fun t21 w =>
 ixS 1 t21 t1 w fun t23 w =>
 ld1 t23 w fun t24 w =>
 clI prog t24 "paceline/fed.tell" #[] w fun t25 w =>
 xt 0 t25 w fun t26 w =>
 xt 1 t25 w fun t27 w =>
 Zb3 t27 w fun t29 w =>
 Zr t29
 (K (Iw 150) w)
 (ncP t0 <|
 fld 1 t0 w fun t32 w =>
 ld1 t32 w fun t33 w =>
 lnS t33 w fun t34 w =>
 lp [(Iw 0)] w (b1 fun t35 w g1 =>
 bi .lss .i64 t35 t34 w fun t36 w =>
 Zr t36
 (J0 (fun w =>
 bi .add .i64 t35 (Iw 1) w fun t62 w =>
 g1 [t62] w) fun k2 =>
 bi .neq .i64 t35 t1 w fun t40 w =>
 gd t40 true (fun k => k t0 w) w fun t42 w =>
 gd t40 true (fun k => k t1 w) w fun t43 w =>
 gd t40 true (fun k => Cl prog 57 #[t42, t43] w k) w fun t44 w =>
 gd t40 true (fun k => bn .eql t44 w k) w fun t45 w =>
 gd t40 true (fun k => k t45 w) w fun t46 w =>
 gd t46 false (fun k => k t0 w) w fun t47 w =>
 gd t46 false (fun k => k t35 w) w fun t48 w =>
 gd t46 false (fun k => Cl prog 57 #[t47, t48] w k) w fun t49 w =>
 gd t46 false (fun k => bn .eql t49 w k) w fun t50 w =>
 gd t40 true (fun k => pk t46 (Value.bool true) t50 w k) w fun t51 w =>
 pk t40 t51 (Value.bool false) w fun t52 w =>
 Zr t52
 (bld (Zl prog 45) #[(0, 1), (1, 1), (2, 1)] [(0, t26)] w fun t56 w =>
 bld (Zl prog 47) #[(0, 3), (3, 1), (4, 1), (5, 1)] [(0, t56), (1, t35)] w fun t58 w =>
 bld (Zl prog 104) #[(0, 1), (1, 6), (7, 1)] [(0, (Iw 2)), (1, t58)] w fun t59 w =>
 bsl 104 8 1 (Zl prog 104) [(0, t59)] w fun t60 w =>
 Cl prog 44 #[t0, t1, t60] w fun _ w =>
 k2 w)
 (k2 w))
 (K (Iw 0) w))))
theorem Ze9 (h : ZfA t0 t1 w K) : Cl prog 55 #[t0, t1] w K :=
 ZML 63 [4] Tryz.func55 h

def Ziu (t0 : Value) (w : World) (K : KV) : Prop :=
 Cl prog 109 #[t0] w fun t4 w =>
 Zr t4
 (K (Iw 130) w)
 (ncP t0 <|
 fld 1 t0 w fun t7 w =>
 ld1 t7 w fun t8 w =>
 bi .add .i64 t8 (Iw 1) w fun t9 w =>
 ncP t0 <|
 fld 1 t0 w fun t11 w =>
 stN 1 t11 t9 w fun _ w =>
 ncP t0 <|
 fld 21 t0 w fun t14 w =>
 stN 1 t14 (Iw 1125899906842624) w fun _ w =>
 K (Iw 0) w)
theorem Zh4 (h : Ziu t0 w K) : Cl prog 56 #[t0] w K :=
 ZML 15 [2] Tryz.func56 h

def Zfp (t0 t1 : Value) (w : World) (K : KV) : Prop :=
 ncP t0 <|
 fld 1 t0 w fun t8 w =>
 ld1 t8 w fun t9 w =>
 ixS 1 t9 t1 w fun t11 w =>
 ld1 t11 w fun t12 w =>
 tyA prog t12 123 96 true w fun t13 w =>
 xt 1 t13 w fun t14 w =>
 xt 0 t13 w fun t15 w =>
 Zr t14
 (K t15 w)
 (K (Value.pointer none) w)
theorem Zfq (h : Zfp t0 t1 w K) : Cl prog 57 #[t0, t1] w K :=
 ZML 17 [4] Tryz.func57 h

def ZkB (t0 t1 : Value) (w : World) (K : KV) : Prop :=
 Cl prog 110 #[t0, t1] w fun t8 w =>
 Zb3 t8 w fun t9 w =>
 Zr t9
 (K (Iw 1) w)
 (dr w fun w =>
 Cl prog 109 #[t0] w fun t12 w =>
 Zb3 t12 w fun t13 _ =>
 gd t13 false (fun k => k t0 w) w fun t15 _ =>
 gd t13 false (fun k => k t1 w) w fun t16 _ =>
 gd t13 false (fun k => nc t15 w k) w fun t17 _ =>
 gd t13 false (fun k => fld 3 t17 w k) w fun t18 _ =>
 gd t13 false (fun k => ixA 8 2 t18 t16 w k) w fun t19 _ =>
 gd t13 false (fun k => ldN 2 t19 w k) w fun t20 _ =>
 gd t13 false (fun k => k t0 w) w fun t21 _ =>
 gd t13 false (fun k => nc t21 w k) w fun t22 _ =>
 gd t13 false (fun k => fld 1 t22 w k) w fun t23 _ =>
 gd t13 false (fun k => ld1 t23 w k) w fun t24 _ =>
 gd t13 false (fun k => Cl prog 111 #[t20, t24] w k) w fun t25 w =>
 pk t13 (Value.bool true) t25 w fun t26 _ =>
 Zr t26
 (K (Iw 130) w)
 (dr w fun w =>
 ncP t0 <|
 fld 1 t0 w fun t31 _ =>
 ld1 t31 w fun t32 _ =>
 ncP t0 <|
 fld 3 t0 w fun t34 _ =>
 ixA 8 2 t34 t1 w fun t35 _ =>
 fld 0 t35 w fun t36 _ =>
 stN 1 t36 t32 w fun _ w =>
 K (Iw 0) w))
theorem Zjr (h : ZkB t0 t1 w K) : Cl prog 58 #[t0, t1] w K :=
 ZML 37 [4] Tryz.func58 h

def Zd5 (t0 t1 t2 : Value) (w : World) (K : KV) : Prop :=
 ncP t2 <|
 fld 0 t2 w fun t22 w =>
 ld1 t22 w fun t23 w =>
 Cl prog 112 #[t23] w fun t24 w =>
 bsl 3 1 1 (Zl prog 3) [(0, t24)] w fun t25 w =>
 ncP t0 <|
 fld 2 t0 w fun t28 w =>
 ld1 t28 w fun t29 w =>
 ixS 1 t29 t1 w fun t31 w =>
 ld1 t31 w fun t32 w =>
 lnS t32 w fun t33 w =>
 lp [t25, (Iw 0)] w (b2 fun t7 t34 w g1 =>
 bi .lss .i64 t34 t33 w fun t35 w =>
 Zr t35
 (J1 (fun t7_1 w =>
 bi .add .i64 t34 (Iw 1) w fun t57 w =>
 g1 [t7_1, t57] w) fun k2 =>
 ixS 8 t32 t34 w fun t36 w =>
 ldN 8 t36 w fun t37 w =>
 al (Zl prog 104) 104 w fun t9 w =>
 stN 8 t9 t37 w fun _ w =>
 fld 1 t9 w fun t41 w =>
 fld 3 t41 w fun t42 w =>
 ld1 t42 w fun t43 w =>
 ldN 8 t9 w fun t44 w =>
 Cl prog 103 #[t0, t1, t43, t44] w fun t45 w =>
 xt 0 t45 w fun _ w =>
 xt 1 t45 w fun _ w =>
 xt 2 t45 w fun t48 w =>
 Zr t48
 (fld 1 t9 w fun t51 w =>
 fld 0 t51 w fun t52 w =>
 fld 0 t52 w fun t53 w =>
 ld1 t53 w fun t54 w =>
 bsl 3 1 1 (Zl prog 3) [(0, t54)] w fun t55 w =>
 apS prog #[22, 22] 22 t7 t55 w fun t56 w =>
 k2 t56 w)
 (k2 t7 w))
 (ncP t0 <|
 fld 4 t0 w fun t60 w =>
 ld1 t60 w fun t61 w =>
 Cl prog 113 #[t61] w fun t62 w =>
 dr w fun w =>
 ncP t0 <|
 fld 4 t0 w fun t65 _ =>
 ld1 t65 w fun t66 _ =>
 ncP t2 <|
 fld 1 t2 w fun t69 _ =>
 ld1 t69 w fun t70 _ =>
 Cl prog 115 #[t7] w fun t72 w =>
 (ld1 t69 w (fun v' w'' => v' = t70 ∧ w'' = w)) ∧ ((ld1 t65 w (fun v' w'' => v' = t66 ∧ w'' = w)) ∧ (Cl prog 114 #[t66, t70, t72] w fun t73 w =>
 bi .neq .i64 t73 (Iw 0) w fun t75 w =>
 gd t75 false (fun k => k t0 w) w fun t77 w =>
 gd t75 false (fun k => nc t77 w k) w fun t78 w =>
 gd t75 false (fun k => fld 4 t78 w k) w fun t79 w =>
 gd t75 false (fun k => ld1 t79 w k) w fun t80 w =>
 gd t75 false (fun k => Cl prog 113 #[t80] w k) w fun t81 w =>
 gd t75 false (fun k => k t62 w) w fun t82 w =>
 gd t75 false (fun k => bi .eql .i64 t81 t82 w k) w fun t83 w =>
 pk t75 (Value.bool true) t83 w fun t84 w =>
 Zr t84
 (K t73 w)
 (ncP t0 <|
 fld 1 t0 w fun t88 w =>
 ld1 t88 w fun t89 w =>
 lnS t89 w fun t90 w =>
 lp [(Iw 0)] w (b1 fun t91 w g3 =>
 bi .lss .i64 t91 t90 w fun t92 w =>
 Zr t92
 (J0 (fun w =>
 bi .add .i64 t91 (Iw 1) w fun t118 w =>
 g3 [t118] w) fun k4 =>
 Cl prog 57 #[t0, t91] w fun t96 w =>
 bn .neq t96 w fun t98 w =>
 Zr t98
 (dr w fun w =>
 ncP t96 <|
 fld 0 t96 w fun t102 _ =>
 ld1 t102 w fun t103 _ =>
 ncP t0 <|
 fld 4 t0 w fun t106 _ =>
 ld1 t106 w fun t107 _ =>
 Cl prog 60 #[t107] w fun t108 w =>
 (ld1 t102 w (fun v' w'' => v' = t103 ∧ w'' = w)) ∧ (Cl prog 116 #[t103, t108] w fun t109 w =>
 xt 0 t109 w fun _ _ =>
 xt 1 t109 w fun t111 _ =>
 xt 2 t109 w fun _ _ =>
 Cl prog 117 #[t111] w fun t116 w =>
 Cl prog 44 #[t0, t91, t116] w fun _ w =>
 k4 w))
 (k4 w))
 (K (Iw 0) w)))))))
theorem Zei (h : Zd5 t0 t1 t2 w K) : Cl prog 59 #[t0, t1, t2] w K :=
 ZML 119 [6] Tryz.func59 h

def ZiR (t0 : Value) (w : World) (K : KV) : Prop :=
 ncP t0 <|
 fld 22 t0 w fun t5 w =>
 ld1 t5 w fun t6 w =>
 K t6 w
theorem Zhn (h : ZiR t0 w K) : Cl prog 60 #[t0] w K :=
 ZML 7 [2] Tryz.func60 h

def Zez (t0 t1 : Value) (w : World) (K : KV) : Prop :=
 al (Value.cells t1) 3 w fun t3 w =>
 al (Zl prog 3) 3 w fun t5 w =>
 stN 1 t5 (Iw 0) w fun _ w =>
 Cl prog 118 #[t0] w fun t9 w =>
 rfW prog t9 2 (fun l a w k =>
 al (Zl prog 104) 104 w fun t7 w =>
 stN 8 t7 (a 1) w fun _ w =>
 bgn l w fun w =>
 fld 0 t7 w fun t12 w =>
 ld1 t12 w fun t13 w =>
 bi .neq .i64 t13 (Iw 2) w fun t14 w =>
 gd t14 true (fun k => fld 7 t7 w k) w fun t16 w =>
 gd t14 true (fun k => ld1 t16 w k) w fun t17 w =>
 gd t14 true (fun k => ld1 t3 w k) w fun t18 w =>
 gd t14 true (fun k => bi .eql .i64 t17 t18 w k) w fun t19 w =>
 pk t14 t19 (Value.bool false) w fun t20 w =>
 Zr t20
 (ld1 t5 w fun t21 w =>
 bi .add .i64 t21 (Iw 1) w fun t22 w =>
 stN 1 t5 t22 w fun _ w =>
 edn l w k)
 (edn l w k)) w fun D w =>
 ld1 t5 w fun t23 w =>
 Zz7 D w fun w =>
 K t23 w
theorem ZeT (h : Zez t0 t1 w K) : Cl prog 61 #[t0, t1] w K :=
 Cl.mk (by kernel_rfl) (Zm6 (fn := Tryz.f61) (nt := 24) (rs := [4]) Zm Tryz.func61 (by kernel_rfl) (by kernel_rfl) (Nat.le_of_ble_eq_true (by kernel_rfl)) (by kernel_rfl) (by kernel_rfl) h)

def Zas (t0 t1 : Value) (w : World) (K : KV) : Prop :=
 Cl prog 119 #[t0, t1] w fun t7 w =>
 bi .geq .i64 t7 (Iw 0) w fun t8 w =>
 K t8 w
theorem Za8 (h : Zas t0 t1 w K) : Cl prog 62 #[t0, t1] w K :=
 ZML 9 [4] Tryz.func62 h
def Zds (t0 : Value) (w : World) (K : KV) : Prop :=
 al (Value.cells t0) 104 w fun t1 w =>
 fld 0 t1 w fun t3 w =>
 ld1 t3 w fun t4 w =>
 bi .neq .i64 t4 (Iw 2) w fun t5 w =>
 K t5 w
theorem ZdX (h : Zds t0 w K) : Cl prog 63 #[t0] w K :=
 ZML 6 [2] Tryz.func63 h

def Zfc (t0 : Value) (w : World) (K : KV) : Prop :=
 ncP t0 <|
 fld 7 t0 w fun t5 w =>
 ld1 t5 w fun t6 w =>
 Cl prog 120 #[t6] w fun t7 w =>
 K t7 w
theorem ZfZ (h : Zfc t0 w K) : Cl prog 64 #[t0] w K :=
 ZML 8 [2] Tryz.func64 h

def ZaZ (t0 : Value) (w : World) (K : KV) : Prop :=
 bO prog .eql 53 (Operand.tmp 3) (Operand.const (Value.slice none 0 0)) t0 (Value.slice none 0 0) w fun t4 w =>
 Zr t4
 (K (Value.slice none 0 0) w)
 (bsl 104 8 0 #[] [] w fun t5 w =>
 apS prog #[53, 53] 53 t5 t0 w fun t7 w =>
 K t7 w)
theorem ZbK (h : ZaZ t0 w K) : Cl prog 65 #[t0] w K :=
 ZML 8 [2] Tryz.func65 h

def Zkn (t0 : Value) (w : World) (K : KV) : Prop :=
 lnS t0 w fun t7 w =>
 lp [(Iw 0)] w (b1 fun t8 w g1 =>
 bi .lss .i64 t8 t7 w fun t9 w =>
 Zr t9
 (ixS 1 t0 t8 w fun t10 w =>
 ld1 t10 w fun t11 w =>
 clV prog t11 #[] w fun t13 w =>
 bi .neq .i64 t13 (Iw 0) w fun t15 w =>
 Zr t15
 (K t13 w)
 (bi .add .i64 t8 (Iw 1) w fun t17 w =>
 g1 [t17] w))
 (K (Iw 0) w))
theorem ZiT (h : Zkn t0 w K) : Cl prog 82 #[t0] w K :=
 ZML 18 [2] Tryz.func82 h

def Zhe (t0 : Value) (w : World) (K : KV) : Prop :=
 fld 0 t0 w fun t2 w =>
 ld1 t2 w fun t3 w =>
 Cl prog 84 #[t3] w fun t4 w =>
 K t4 w
theorem ZgJ (h : Zhe t0 w K) : Cl prog 83 #[t0] w K :=
 ZML 5 [1] Tryz.func83 h

def ZnC (t0 : Value) (w : World) (K : KV) : Prop :=
 lnS t0 w fun t7 w =>
 bi .lss .i64 t7 (Iw 1) w fun t9 w =>
 gd t9 false (fun k => k t7 w) w fun t11 w =>
 gd t9 false (fun k => bi .gtr .i64 t11 (Iw 16) w k) w fun t12 w =>
 pk t9 (Value.bool true) t12 w fun t13 w =>
 Zr t13
 (K (Iw 50) w)
 (lnS t0 w fun t15 w =>
 lp [(Iw 0)] w (b1 fun t16 w g1 =>
 bi .lss .i64 t16 t15 w fun t17 w =>
 Zr t17
 (ixS 1 t0 t16 w fun t19 w =>
 ld1 t19 w fun t20 w =>
 bi .lss .i64 t20 (Iw (-1)) w fun t22 w =>
 gd t22 false (fun k => k t20 w) w fun t24 w =>
 gd t22 false (fun k => k t16 w) w fun t25 w =>
 gd t22 false (fun k => bi .geq .i64 t24 t25 w k) w fun t26 w =>
 pk t22 (Value.bool true) t26 w fun t27 w =>
 Zr t27
 (K (Iw 50) w)
 (bi .add .i64 t16 (Iw 1) w fun t28 w =>
 g1 [t28] w))
 (K (Iw 0) w)))
theorem Zk1 (h : ZnC t0 w K) : Cl prog 84 #[t0] w K :=
 ZML 29 [2] Tryz.func84 h

def Ziv (t0 t1 : Value) (w : World) (K : KV) : Prop :=
 al (Value.cells t0) 4 w fun t2 w =>
 al (Value.cells t1) 30 w fun t3 w =>
 K (Value.func (Fn.func 146) #[] #[t2, t3]) w
theorem Zhy (h : Ziv t0 t1 w K) : Cl prog 85 #[t0, t1] w K :=
 ZML 6 [4] Tryz.func85 h

def Zjk (t0 t1 t2 : Value) (w : World) (K : KV) : Prop :=
 bi .geq .i64 t0 t1 w fun t9 w =>
 gd t9 true (fun k => k t0 w) w fun t11 w =>
 gd t9 true (fun k => k t2 w) w fun t12 w =>
 gd t9 true (fun k => bi .leq .i64 t11 t12 w k) w fun t13 w =>
 pk t9 t13 (Value.bool false) w fun t14 w =>
 K t14 w
theorem Zh6 (h : Zjk t0 t1 t2 w K) : Cl prog 86 #[t0, t1, t2] w K :=
 ZML 15 [6] Tryz.func86 h

def ZnF (t0 t1 : Value) (w : World) (K : KV) : Prop :=
 al (Value.cells t0) 76 w fun t2 w =>
 al (Value.cells t1) 3 w fun t3 w =>
 dr w fun w =>
 fld 0 t2 w fun t11 _ =>
 ld1 t11 w fun t12 _ =>
 fld 1 t2 w fun t15 _ =>
 ld1 t15 w fun t16 _ =>
 fld 2 t2 w fun t19 _ =>
 ld1 t19 w fun t20 _ =>
 fld 4 t2 w fun t25 _ =>
 ld1 t25 w fun t26 _ =>
 fld 6 t2 w fun t36 _ =>
 ld1 t36 w fun t37 _ =>
 lnS t37 w fun t38 _ =>
 bi .leq .i64 t38 (Iw 4) w fun t39 _ =>
 Cl prog 86 #[t12, (Iw 0), (Iw 1)] w fun t13 w =>
 (ld1 t36 w (fun v' w'' => v' = t37 ∧ w'' = w)) ∧ ((ld1 t25 w (fun v' w'' => v' = t26 ∧ w'' = w)) ∧ ((ld1 t19 w (fun v' w'' => v' = t20 ∧ w'' = w)) ∧ ((ld1 t15 w (fun v' w'' => v' = t16 ∧ w'' = w)) ∧ (Cl prog 85 #[t13, (Iw 1)] w fun t14 w =>
 (ld1 t36 w (fun v' w'' => v' = t37 ∧ w'' = w)) ∧ ((ld1 t25 w (fun v' w'' => v' = t26 ∧ w'' = w)) ∧ ((ld1 t19 w (fun v' w'' => v' = t20 ∧ w'' = w)) ∧ ((ld1 t15 w (fun v' w'' => v' = t16 ∧ w'' = w)) ∧ (Cl prog 86 #[t16, (Iw 1), (Iw 1048576)] w fun t17 w =>
 (ld1 t36 w (fun v' w'' => v' = t37 ∧ w'' = w)) ∧ ((ld1 t25 w (fun v' w'' => v' = t26 ∧ w'' = w)) ∧ ((ld1 t19 w (fun v' w'' => v' = t20 ∧ w'' = w)) ∧ (Cl prog 85 #[t17, (Iw 80)] w fun t18 w =>
 (ld1 t36 w (fun v' w'' => v' = t37 ∧ w'' = w)) ∧ ((ld1 t25 w (fun v' w'' => v' = t26 ∧ w'' = w)) ∧ ((ld1 t19 w (fun v' w'' => v' = t20 ∧ w'' = w)) ∧ (Cl prog 86 #[t20, (Iw 0), (Iw 7)] w fun t21 w =>
 (ld1 t36 w (fun v' w'' => v' = t37 ∧ w'' = w)) ∧ ((ld1 t25 w (fun v' w'' => v' = t26 ∧ w'' = w)) ∧ (Cl prog 85 #[t21, (Iw 70)] w fun t22 w =>
 (ld1 t36 w (fun v' w'' => v' = t37 ∧ w'' = w)) ∧ ((ld1 t25 w (fun v' w'' => v' = t26 ∧ w'' = w)) ∧ (clV prog (Value.func (Fn.func 147) #[] #[t3]) #[t26] w fun t27 w =>
 (ld1 t36 w (fun v' w'' => v' = t37 ∧ w'' = w)) ∧ (gd t27 true (fun k => k (Value.func (Fn.func 147) #[] #[t3]) w) w fun t29 _ =>
 gd t27 true (fun k => fld 5 t2 w k) w fun t30 _ =>
 gd t27 true (fun k => ld1 t30 w k) w fun t31 _ =>
 gd t27 true (fun k => clV prog t29 #[t31] w k) w fun t32 w =>
 (ld1 t36 w (fun v' w'' => v' = t37 ∧ w'' = w)) ∧ (pk t27 t32 (Value.bool false) w fun t33 _ =>
 Cl prog 85 #[t33, (Iw 81)] w fun t34 w =>
 (ld1 t36 w (fun v' w'' => v' = t37 ∧ w'' = w)) ∧ (gd t39 true (fun k => fld 6 t2 w k) w fun t41 _ =>
 gd t39 true (fun k => ld1 t41 w k) w fun t42 _ =>
 gd t39 true (fun k => k (Value.func (Fn.func 150) #[] #[t2]) w) w fun t43 _ =>
 gd t39 true (fun k => Cl prog 153 #[t42, t43] w k) w fun t44 w =>
 gd t39 true (fun k => Zb3 t44 w k) w fun t45 _ =>
 pk t39 t45 (Value.bool false) w fun t46 _ =>
 Cl prog 85 #[t46, (Iw 82)] w fun t47 w =>
 bsl 127 1 7 (Zl prog 127) [(0, t14), (1, t18), (2, t22), (3, (Value.func (Fn.func 151) #[] #[t2])), (4, t34), (5, (Value.func (Fn.func 148) #[] #[t2, t3])), (6, t47)] w fun t48 w =>
 Cl prog 82 #[t48] w fun t49 w =>
 K t49 w)))))))))))))))))))))
theorem Zk6 (h : ZnF t0 t1 w K) : Cl prog 87 #[t0, t1] w K :=
 ZML 50 [4] Tryz.func87 h

def ZpA (t0 t1 : Value) (w : World) (K : KV) : Prop :=
 bi .lss .i64 t0 (Iw 1) w fun t9 w =>
 gd t9 false (fun k => k t0 w) w fun t11 w =>
 gd t9 false (fun k => bi .gtr .i64 t11 (Iw 8) w k) w fun t12 w =>
 pk t9 (Value.bool true) t12 w fun t13 w =>
 gd t13 false (fun k => k t1 w) w fun t15 w =>
 gd t13 false (fun k => bi .lss .i64 t15 (Iw 0) w k) w fun t16 w =>
 pk t13 (Value.bool true) t16 w fun t17 w =>
 gd t17 false (fun k => k t1 w) w fun t19 w =>
 gd t17 false (fun k => k t0 w) w fun t20 w =>
 gd t17 false (fun k => bi .geq .i64 t19 t20 w k) w fun t21 w =>
 pk t17 (Value.bool true) t21 w fun t22 w =>
 Zr t22
 (K (Value.tuple #[(Value.pointer none), (Iw 1)]) w)
 (ZlQ w fun t23 w =>
 bld (Zl prog 232) #[(0, 1), (1, 1)] [(0, t23)] w fun t24 w =>
 al (Value.cells t24) 232 w fun t25 w =>
 lp [(Iw 0)] w (b1 fun t27 w g1 =>
 bi .lss .i64 t27 t0 w fun t28 w =>
 Zr t28
 (J0 (fun w =>
 bi .add .i64 t27 (Iw 1) w fun t38 w =>
 g1 [t38] w) fun k2 =>
 bi .neq .i64 t27 t1 w fun t32 w =>
 Zr t32
 (ncP t25 <|
 fld 0 t25 w fun t35 w =>
 ld1 t35 w fun t36 w =>
 upM prog 176 t36 t27 (Iw 0) w fun _ w =>
 k2 w)
 (k2 w))
 (K (Value.tuple #[t25, (Iw 0)]) w)))
theorem Zlo (h : ZpA t0 t1 w K) : Cl prog 88 #[t0, t1] w K :=
 ZML 40 [4, 5] Tryz.func88 h

def Zso (t0 : Value) (w : World) (K : KV) : Prop :=
 mnI .i64 t0 (Iw 64) w fun t4 w =>
 mxI .i64 (Iw 0) t4 w fun t5 w =>
 ZlQ w fun t6 w =>
 bld (Zl prog 235) #[(0, 1), (1, 1), (2, 1)] [(0, t5), (2, t6)] w fun t7 w =>
 al (Value.cells t7) 235 w fun t8 w =>
 K t8 w
theorem Zm2 (h : Zso t0 w K) : Cl prog 89 #[t0] w K :=
 ZML 9 [2] Tryz.func89 h

def ZnQ (t0 : Value) (w : World) (K : KV) : Prop :=
 al (Value.cells t0) 25 w fun t1 w =>
 al (Zl prog 25) 25 w fun t2 w =>
 fld 0 t1 w fun t6 w =>
 ld1 t6 w fun t7 w =>
 Cl prog 154 #[t7] w fun t8 w =>
 fld 0 t1 w fun t9 w =>
 stN 1 t9 t8 w fun _ w =>
 fld 1 t1 w fun t10 w =>
 ld1 t10 w fun t11 w =>
 Cl prog 155 #[t11] w fun t12 w =>
 fld 1 t1 w fun t13 w =>
 stN 1 t13 t12 w fun _ w =>
 fld 1 t1 w fun t14 w =>
 ld1 t14 w fun t15 w =>
 lnS t15 w fun t16 w =>
 lp [(Iw 0)] w (b1 fun t17 w g1 =>
 bi .lss .i64 t17 t16 w fun t18 w =>
 Zr t18
 (fld 1 t1 w fun t20 w =>
 ld1 t20 w fun t21 w =>
 ixS 7 t21 t17 w fun t23 w =>
 dr w fun w =>
 ncP t23 <|
 fld 4 t23 w fun t30 _ =>
 ld1 t30 w fun t31 _ =>
 ncP t23 <|
 fld 5 t23 w fun t35 _ =>
 ld1 t35 w fun t36 _ =>
 ncP t23 <|
 fld 6 t23 w fun t40 _ =>
 ld1 t40 w fun t41 _ =>
 ncP t23 <|
 fld 3 t23 w fun t45 _ =>
 ld1 t45 w fun t46 _ =>
 Cl prog 154 #[t31] w fun t32 w =>
 (ld1 t45 w (fun v' w'' => v' = t46 ∧ w'' = w)) ∧ ((ld1 t40 w (fun v' w'' => v' = t41 ∧ w'' = w)) ∧ ((ld1 t35 w (fun v' w'' => v' = t36 ∧ w'' = w)) ∧ (Cl prog 154 #[t36] w fun t37 w =>
 (ld1 t45 w (fun v' w'' => v' = t46 ∧ w'' = w)) ∧ ((ld1 t40 w (fun v' w'' => v' = t41 ∧ w'' = w)) ∧ (Cl prog 156 #[t41] w fun t42 w =>
 (ld1 t45 w (fun v' w'' => v' = t46 ∧ w'' = w)) ∧ (Cl prog 157 #[t46] w fun t47 w =>
 ncP t23 <|
 fld 4 t23 w fun t49 _ =>
 stN 1 t49 t32 w fun _ w =>
 ncP t23 <|
 fld 5 t23 w fun t51 _ =>
 stN 1 t51 t37 w fun _ w =>
 ncP t23 <|
 fld 6 t23 w fun t53 _ =>
 stN 1 t53 t42 w fun _ w =>
 ncP t23 <|
 fld 3 t23 w fun t55 _ =>
 stN 1 t55 t47 w fun _ w =>
 ncP t23 <|
 fld 3 t23 w fun t58 w =>
 ld1 t58 w fun t59 w =>
 lnS t59 w fun t60 w =>
 lp [(Iw 0)] w (b1 fun t61 w g2 =>
 bi .lss .i64 t61 t60 w fun t62 w =>
 Zr t62
 (dr w fun w =>
 ncP t23 <|
 fld 3 t23 w fun t66 _ =>
 ld1 t66 w fun t67 _ =>
 ncP t23 <|
 fld 3 t23 w fun t71 _ =>
 ld1 t71 w fun t72 _ =>
 ixS 4 t72 t61 w fun t74 _ =>
 fld 3 t74 w fun t75 _ =>
 ld1 t75 w fun t76 _ =>
 Cl prog 156 #[t76] w fun t77 w =>
 (ld1 t66 w (fun v' w'' => v' = t67 ∧ w'' = w)) ∧ (ixS 4 t67 t61 w fun t78 _ =>
 fld 3 t78 w fun t79 _ =>
 stN 1 t79 t77 w fun _ w =>
 bi .add .i64 t61 (Iw 1) w fun t80 w =>
 g2 [t80] w))
 (bi .add .i64 t17 (Iw 1) w fun t81 w =>
 g1 [t81] w)))))))))
 (ldN 3 t1 w fun t82 w =>
 stN 3 t2 t82 w fun _ w =>
 ldN 3 t2 w fun r0 _ =>
 K r0 w))
theorem ZkZ (h : ZnQ t0 w K) : Cl prog 90 #[t0] w K :=
 ZMM 83 [(2, some 25)] Tryz.func90 h

def ZlG (t0 : Value) (w : World) (K : KV) : Prop :=
 al (Value.cells t0) 25 w fun t1 w =>
 al (Zl prog 25) 25 w fun t2 w =>
 fld 0 t1 w fun t6 w =>
 ld1 t6 w fun t7 w =>
 Cl prog 154 #[t7] w fun t8 w =>
 fld 0 t1 w fun t9 w =>
 stN 1 t9 t8 w fun _ w =>
 fld 1 t1 w fun t10 w =>
 ld1 t10 w fun t11 w =>
 Cl prog 155 #[t11] w fun t12 w =>
 fld 1 t1 w fun t13 w =>
 stN 1 t13 t12 w fun _ w =>
 fld 1 t1 w fun t14 w =>
 ld1 t14 w fun t15 w =>
 lnS t15 w fun t16 w =>
 lp [(Iw 0)] w (b1 fun t17 w g1 =>
 bi .lss .i64 t17 t16 w fun t18 w =>
 Zr t18
 (fld 1 t1 w fun t20 w =>
 ld1 t20 w fun t21 w =>
 ixS 7 t21 t17 w fun t23 w =>
 dr w fun w =>
 ncP t23 <|
 fld 4 t23 w fun t30 _ =>
 ld1 t30 w fun t31 _ =>
 ncP t23 <|
 fld 5 t23 w fun t35 _ =>
 ld1 t35 w fun t36 _ =>
 ncP t23 <|
 fld 6 t23 w fun t40 _ =>
 ld1 t40 w fun t41 _ =>
 ncP t23 <|
 fld 3 t23 w fun t45 _ =>
 ld1 t45 w fun t46 _ =>
 Cl prog 154 #[t31] w fun t32 w =>
 (ld1 t45 w (fun v' w'' => v' = t46 ∧ w'' = w)) ∧ ((ld1 t40 w (fun v' w'' => v' = t41 ∧ w'' = w)) ∧ ((ld1 t35 w (fun v' w'' => v' = t36 ∧ w'' = w)) ∧ (Cl prog 154 #[t36] w fun t37 w =>
 (ld1 t45 w (fun v' w'' => v' = t46 ∧ w'' = w)) ∧ ((ld1 t40 w (fun v' w'' => v' = t41 ∧ w'' = w)) ∧ (Cl prog 156 #[t41] w fun t42 w =>
 (ld1 t45 w (fun v' w'' => v' = t46 ∧ w'' = w)) ∧ (Cl prog 157 #[t46] w fun t47 w =>
 ncP t23 <|
 fld 4 t23 w fun t49 _ =>
 stN 1 t49 t32 w fun _ w =>
 ncP t23 <|
 fld 5 t23 w fun t51 _ =>
 stN 1 t51 t37 w fun _ w =>
 ncP t23 <|
 fld 6 t23 w fun t53 _ =>
 stN 1 t53 t42 w fun _ w =>
 ncP t23 <|
 fld 3 t23 w fun t55 _ =>
 stN 1 t55 t47 w fun _ w =>
 ncP t23 <|
 fld 3 t23 w fun t58 w =>
 ld1 t58 w fun t59 w =>
 lnS t59 w fun t60 w =>
 lp [(Iw 0)] w (b1 fun t61 w g2 =>
 bi .lss .i64 t61 t60 w fun t62 w =>
 Zr t62
 (dr w fun w =>
 ncP t23 <|
 fld 3 t23 w fun t66 _ =>
 ld1 t66 w fun t67 _ =>
 ncP t23 <|
 fld 3 t23 w fun t71 _ =>
 ld1 t71 w fun t72 _ =>
 ixS 4 t72 t61 w fun t74 _ =>
 fld 3 t74 w fun t75 _ =>
 ld1 t75 w fun t76 _ =>
 Cl prog 156 #[t76] w fun t77 w =>
 (ld1 t66 w (fun v' w'' => v' = t67 ∧ w'' = w)) ∧ (ixS 4 t67 t61 w fun t78 _ =>
 fld 3 t78 w fun t79 _ =>
 stN 1 t79 t77 w fun _ w =>
 bi .add .i64 t61 (Iw 1) w fun t80 w =>
 g2 [t80] w))
 (bi .add .i64 t17 (Iw 1) w fun t81 w =>
 g1 [t81] w)))))))))
 (ldN 3 t1 w fun t82 w =>
 stN 3 t2 t82 w fun _ w =>
 ldN 3 t2 w fun r0 _ =>
 K r0 w))
theorem Zj5 (h : ZlG t0 w K) : Cl prog 91 #[t0] w K :=
 ZMM 83 [(2, some 25)] Tryz.func91 h

def ZrX (w : World) (K : KV) : Prop :=
 bld (Zl prog 243) #[(0, 1), (1, 1)] [] w fun t1 w =>
 al (Value.cells t1) 243 w fun t2 w =>
 K t2 w
theorem ZmL (h : ZrX w K) : Cl prog 92 #[] w K :=
 ZML 3 [0] Tryz.func92 h
def Zsc (w : World) (K : KV) : Prop :=
 bld (Zl prog 246) #[(0, 1), (1, 1)] [] w fun t1 w =>
 al (Value.cells t1) 246 w fun t2 w =>
 K t2 w
theorem ZmT (h : Zsc w K) : Cl prog 93 #[] w K :=
 ZML 3 [0] Tryz.func93 h

def ZiW (t0 t1 t2 t3 t4 t5 : Value) (w : World) (K : KV) : Prop :=
 al (Value.cells t0) 25 w fun t6 w =>
 lnS t5 w fun t20 w =>
 lp [(Value.slice none 0 0), (Iw 0)] w (b2 fun t13 t21 w g1 =>
 bi .lss .i64 t21 t20 w fun t22 w =>
 Zr t22
 (ixS 3 t5 t21 w fun t24 w =>
 ldN 3 t24 w fun t25 w =>
 al (Zl prog 147) 147 w fun t15 w =>
 stN 3 t15 t25 w fun _ w =>
 bi .add .i64 t2 t21 w fun t29 w =>
 ldN 3 t15 w fun t32 w =>
 Cl prog 158 #[t1, t29, t3, t4, t32] w fun t33 w =>
 al (Zl prog 47) 47 w fun t16 w =>
 stN 6 t16 t33 w fun _ w =>
 ldN 3 t6 w fun t34 w =>
 fld 4 t16 w fun t36 w =>
 ld1 t36 w fun t37 w =>
 Cl prog 159 #[t34, t1, t37] w fun t38 w =>
 lnS t38 w fun t39 w =>
 lp [t13, (Iw 0)] w (b2 fun t13_1 t40 w g2 =>
 bi .lss .i64 t40 t39 w fun t41 w =>
 Zr t41
 (ixS 1 t38 t40 w fun t42 w =>
 ld1 t42 w fun t43 w =>
 fld 3 t16 w fun t45 w =>
 stN 1 t45 t43 w fun _ w =>
 ldN 6 t16 w fun t47 w =>
 bsl 47 6 1 (Zl prog 47) [(0, t47)] w fun t48 w =>
 apS prog #[69, 69] 69 t13_1 t48 w fun t49 w =>
 bi .add .i64 t40 (Iw 1) w fun t50 w =>
 g2 [t49, t50] w)
 (bi .add .i64 t21 (Iw 1) w fun t51 w =>
 g1 [t13_1, t51] w)))
 (K t13 w))
theorem Zht (h : ZiW t0 t1 t2 t3 t4 t5 w K) : Cl prog 94 #[t0, t1, t2, t3, t4, t5] w K :=
 ZML 53 [12] Tryz.func94 h

def ZJG (t0 : Value) (w : World) (K : KV) : Prop :=
 lnS t0 w fun t5 w =>
 bi .lss .i64 t5 (Iw 1) w fun t6 w =>
 gd t6 false (fun k => k t0 w) w fun t8 w =>
 gd t6 false (fun k => lnS t8 w k) w fun t9 w =>
 gd t6 false (fun k => bi .gtr .i64 t9 (Iw 16) w k) w fun t10 w =>
 pk t6 (Value.bool true) t10 w fun t11 w =>
 Zr t11
 (K (Iw 50) w)
 (lp [(Iw 0)] w (b1 fun t3 w g1 =>
 lnS t0 w fun t14 w =>
 bi .lss .i64 t3 t14 w fun t15 w =>
 Zr t15
 (ixS 1 t0 t3 w fun t20 w =>
 ld1 t20 w fun t21 w =>
 bi .lss .i64 t21 (Iw (-1)) w fun t22 w =>
 gd t22 false (fun k => k t0 w) w fun t24 w =>
 gd t22 false (fun k => k t3 w) w fun t25 w =>
 gd t22 false (fun k => ixS 1 t24 t25 w k) w fun t26 w =>
 gd t22 false (fun k => ld1 t26 w k) w fun t27 w =>
 gd t22 false (fun k => k t3 w) w fun t28 w =>
 gd t22 false (fun k => bi .geq .i64 t27 t28 w k) w fun t29 w =>
 pk t22 (Value.bool true) t29 w fun t30 w =>
 Zr t30
 (K (Iw 50) w)
 (bi .add .i64 t3 (Iw 1) w fun t17 w =>
 g1 [t17] w))
 (K (Iw 0) w)))
theorem ZJ0 (h : ZJG t0 w K) : Cl prog 95 #[t0] w K :=
 ZML 31 [2] Tryz.func95 h

def ZJ7 (t0 t1 : Value) (w : World) (K : KV) : Prop :=
 al (Value.cells t0) 76 w fun t2 w =>
 fld 0 t2 w fun t10 w =>
 ld1 t10 w fun t11 w =>
 bi .neq .i64 t11 (Iw 0) w fun t12 w =>
 gd t12 true (fun k => fld 0 t2 w k) w fun t14 w =>
 gd t12 true (fun k => ld1 t14 w k) w fun t15 w =>
 gd t12 true (fun k => bi .neq .i64 t15 (Iw 1) w k) w fun t16 w =>
 pk t12 t16 (Value.bool false) w fun t17 w =>
 Zr t17
 (K (Iw 1) w)
 (fld 1 t2 w fun t18 w =>
 ld1 t18 w fun t19 w =>
 bi .lss .i64 t19 (Iw 1) w fun t20 w =>
 gd t20 false (fun k => fld 1 t2 w k) w fun t22 w =>
 gd t20 false (fun k => ld1 t22 w k) w fun t23 w =>
 gd t20 false (fun k => bi .gtr .i64 t23 (Iw 1048576) w k) w fun t24 w =>
 pk t20 (Value.bool true) t24 w fun t25 w =>
 Zr t25
 (K (Iw 80) w)
 (fld 2 t2 w fun t26 w =>
 ld1 t26 w fun t27 w =>
 bi .lss .i64 t27 (Iw 0) w fun t28 w =>
 gd t28 false (fun k => fld 2 t2 w k) w fun t30 w =>
 gd t28 false (fun k => ld1 t30 w k) w fun t31 w =>
 gd t28 false (fun k => bi .geq .i64 t31 (Iw 8) w k) w fun t32 w =>
 pk t28 (Value.bool true) t32 w fun t33 w =>
 gd t33 false (fun k => fld 3 t2 w k) w fun t35 w =>
 gd t33 false (fun k => ld1 t35 w k) w fun t36 w =>
 gd t33 false (fun k => Cl prog 160 #[t36] w k) w fun t37 w =>
 gd t33 false (fun k => bi .neq .i64 t37 (Iw 0) w k) w fun t38 w =>
 pk t33 (Value.bool true) t38 w fun t39 w =>
 Zr t39
 (K (Iw 70) w)
 (fld 4 t2 w fun t40 w =>
 ld1 t40 w fun t41 w =>
 Cl prog 161 #[t41, t1] w fun t43 w =>
 Zb3 t43 w fun t44 w =>
 gd t44 false (fun k => fld 5 t2 w k) w fun t46 w =>
 gd t44 false (fun k => ld1 t46 w k) w fun t47 w =>
 gd t44 false (fun k => k t1 w) w fun t48 w =>
 gd t44 false (fun k => Cl prog 161 #[t47, t48] w k) w fun t49 w =>
 gd t44 false (fun k => Zb3 t49 w k) w fun t50 w =>
 pk t44 (Value.bool true) t50 w fun t51 w =>
 Zr t51
 (K (Iw 81) w)
 (lp [(Iw 0)] w (b1 fun t5 w g1 =>
 fld 3 t2 w fun t53 w =>
 ld1 t53 w fun t54 w =>
 lnS t54 w fun t55 w =>
 bi .lss .i64 t5 t55 w fun t56 w =>
 Zr t56
 (fld 3 t2 w fun t59 w =>
 ld1 t59 w fun t60 w =>
 ixS 4 t60 t5 w fun t62 w =>
 fld 1 t62 w fun t63 w =>
 ld1 t63 w fun t64 w =>
 bi .geq .i64 t64 t1 w fun t66 w =>
 Zr t66
 (K (Iw 81) w)
 (lp [(Iw 0)] w (b1 fun t6 w g2 =>
 fld 3 t2 w fun t68 w =>
 ld1 t68 w fun t69 w =>
 ixS 4 t69 t5 w fun t71 w =>
 fld 3 t71 w fun t72 w =>
 ld1 t72 w fun t73 w =>
 lnS t73 w fun t74 w =>
 bi .lss .i64 t6 t74 w fun t75 w =>
 Zr t75
 (fld 3 t2 w fun t78 w =>
 ld1 t78 w fun t79 w =>
 ixS 4 t79 t5 w fun t81 w =>
 fld 3 t81 w fun t82 w =>
 ld1 t82 w fun t83 w =>
 ixS 3 t83 t6 w fun t85 w =>
 ldN 3 t85 w fun t86 w =>
 al (Zl prog 147) 147 w fun t7 w =>
 stN 3 t7 t86 w fun _ w =>
 fld 4 t2 w fun t87 w =>
 ld1 t87 w fun t88 w =>
 fld 0 t7 w fun t89 w =>
 ld1 t89 w fun t90 w =>
 Cl prog 162 #[t88, t90] w fun t91 w =>
 Zb3 t91 w fun t92 w =>
 Zr t92
 (K (Iw 81) w)
 (fld 1 t7 w fun t93 w =>
 ld1 t93 w fun t94 w =>
 fld 1 t2 w fun t95 w =>
 ld1 t95 w fun t96 w =>
 bi .lss .i64 t94 t96 w fun t97 w =>
 Zr t97
 (K (Iw 80) w)
 (bi .add .i64 t6 (Iw 1) w fun t77 w =>
 g2 [t77] w)))
 (bi .add .i64 t5 (Iw 1) w fun t58 w =>
 g1 [t58] w))))
 (fld 6 t2 w fun t98 w =>
 ld1 t98 w fun t99 w =>
 lnS t99 w fun t100 w =>
 bi .gtr .i64 t100 (Iw 4) w fun t101 w =>
 Zr t101
 (K (Iw 82) w)
 (lp [(Iw 0)] w (b1 fun t8 w g3 =>
 fld 6 t2 w fun t103 w =>
 ld1 t103 w fun t104 w =>
 lnS t104 w fun t105 w =>
 bi .lss .i64 t8 t105 w fun t106 w =>
 Zr t106
 (fld 6 t2 w fun t109 w =>
 ld1 t109 w fun t110 w =>
 ixS 3 t110 t8 w fun t112 w =>
 ldN 3 t112 w fun t113 w =>
 al (Zl prog 147) 147 w fun t9 w =>
 stN 3 t9 t113 w fun _ w =>
 fld 4 t2 w fun t114 w =>
 ld1 t114 w fun t115 w =>
 fld 0 t9 w fun t116 w =>
 ld1 t116 w fun t117 w =>
 Cl prog 162 #[t115, t117] w fun t118 w =>
 Zb3 t118 w fun t119 w =>
 gd t119 false (fun k => fld 1 t9 w k) w fun t121 w =>
 gd t119 false (fun k => ld1 t121 w k) w fun t122 w =>
 gd t119 false (fun k => bi .lss .i64 t122 (Iw 0) w k) w fun t123 w =>
 pk t119 (Value.bool true) t123 w fun t124 w =>
 gd t124 false (fun k => fld 1 t9 w k) w fun t126 w =>
 gd t124 false (fun k => ld1 t126 w k) w fun t127 w =>
 gd t124 false (fun k => bi .gtr .i64 t127 (Iw 1099511627776) w k) w fun t128 w =>
 pk t124 (Value.bool true) t128 w fun t129 w =>
 gd t129 false (fun k => fld 2 t9 w k) w fun t131 w =>
 gd t129 false (fun k => ld1 t131 w k) w fun t132 w =>
 gd t129 false (fun k => bi .lss .i64 t132 (Iw 0) w k) w fun t133 w =>
 pk t129 (Value.bool true) t133 w fun t134 w =>
 gd t134 false (fun k => fld 2 t9 w k) w fun t136 w =>
 gd t134 false (fun k => ld1 t136 w k) w fun t137 w =>
 gd t134 false (fun k => bi .geq .i64 t137 (Iw 1000) w k) w fun t138 w =>
 pk t134 (Value.bool true) t138 w fun t139 w =>
 Zr t139
 (K (Iw 82) w)
 (bi .add .i64 t8 (Iw 1) w fun t108 w =>
 g3 [t108] w))
 (K (Iw 0) w)))))))))
theorem ZKl (h : ZJ7 t0 t1 w K) : Cl prog 96 #[t0, t1] w K :=
 ZML 140 [4] Tryz.func96 h

def ZMR (t0 t1 : Value) (w : World) (K : KV) : Prop :=
 bi .lss .i64 t0 (Iw 1) w fun t7 w =>
 gd t7 false (fun k => k t0 w) w fun t9 w =>
 gd t7 false (fun k => bi .gtr .i64 t9 (Iw 8) w k) w fun t10 w =>
 pk t7 (Value.bool true) t10 w fun t11 w =>
 gd t11 false (fun k => k t1 w) w fun t13 w =>
 gd t11 false (fun k => bi .lss .i64 t13 (Iw 0) w k) w fun t14 w =>
 pk t11 (Value.bool true) t14 w fun t15 w =>
 gd t15 false (fun k => k t1 w) w fun t17 w =>
 gd t15 false (fun k => k t0 w) w fun t18 w =>
 gd t15 false (fun k => bi .geq .i64 t17 t18 w k) w fun t19 w =>
 pk t15 (Value.bool true) t19 w fun t20 w =>
 Zr t20
 (K (Value.tuple #[(Value.pointer none), (Iw 1)]) w)
 (mkS prog 22 t0 t0 w fun t22 w =>
 bld (Zl prog 250) #[(0, 1), (1, 1), (2, 1)] [(0, t22), (1, t1)] w fun t24 w =>
 al (Value.cells t24) 250 w fun t25 w =>
 K (Value.tuple #[t25, (Iw 0)]) w)
theorem ZM0 (h : ZMR t0 t1 w K) : Cl prog 97 #[t0, t1] w K :=
 ZML 26 [4, 5] Tryz.func97 h

def ZMQ (t0 : Value) (w : World) (K : KV) : Prop :=
 mnI .i64 t0 (Iw 64) w fun t4 w =>
 mxI .i64 (Iw 0) t4 w fun t5 w =>
 bld (Zl prog 252) #[(0, 1), (1, 1)] [(0, t5)] w fun t6 w =>
 al (Value.cells t6) 252 w fun t7 w =>
 K t7 w
theorem ZM1 (h : ZMQ t0 w K) : Cl prog 98 #[t0] w K :=
 ZML 8 [2] Tryz.func98 h

def ZMU (w : World) (K : KV) : Prop :=
 bld (Zl prog 221) #[(0, 1), (1, 1)] [] w fun t1 w =>
 al (Value.cells t1) 221 w fun t2 w =>
 K t2 w
theorem ZM4 (h : ZMU w K) : Cl prog 99 #[] w K :=
 ZML 3 [0] Tryz.func99 h

def ZMV (w : World) (K : KV) : Prop :=
 bld (Zl prog 255) #[(0, 1), (1, 1)] [] w fun t1 w =>
 al (Value.cells t1) 255 w fun t2 w =>
 K t2 w
theorem ZM3 (h : ZMV w K) : Cl prog 100 #[] w K :=
 ZML 3 [0] Tryz.func100 h

def ZJA (t0 t1 t2 t3 t4 t5 : Value) (w : World) (K : KV) : Prop :=
 al (Value.cells t0) 25 w fun t6 w =>
 bsl 47 6 0 #[] [] w fun t18 w =>
 lp [t18, (Iw 0)] w (b2 fun t13 t14 w g1 =>
 lnS t5 w fun t21 w =>
 bi .lss .i64 t14 t21 w fun t22 w =>
 Zr t22
 (bi .add .i64 t2 t14 w fun t28 w =>
 ixS 3 t5 t14 w fun t33 w =>
 ldN 3 t33 w fun t34 w =>
 Cl prog 163 #[t1, t28, t3, t4, t34] w fun t35 w =>
 al (Zl prog 47) 47 w fun t15 w =>
 stN 6 t15 t35 w fun _ w =>
 ldN 3 t6 w fun t36 w =>
 fld 4 t15 w fun t38 w =>
 ld1 t38 w fun t39 w =>
 Cl prog 164 #[t36, t1, t39] w fun t40 w =>
 lp [t13, (Iw 0)] w (b2 fun t13_1 t17 w g2 =>
 lnS t40 w fun t43 w =>
 bi .lss .i64 t17 t43 w fun t44 w =>
 Zr t44
 (ixS 1 t40 t17 w fun t49 w =>
 ld1 t49 w fun t50 w =>
 fld 3 t15 w fun t51 w =>
 stN 1 t51 t50 w fun _ w =>
 ldN 6 t15 w fun t53 w =>
 bsl 47 6 1 (Zl prog 47) [(0, t53)] w fun t54 w =>
 apS prog #[69, 69] 69 t13_1 t54 w fun t55 w =>
 bi .add .i64 t17 (Iw 1) w fun t46 w =>
 g2 [t55, t46] w)
 (bi .add .i64 t14 (Iw 1) w fun t24 w =>
 g1 [t13_1, t24] w)))
 (K t13 w))
theorem ZJP (h : ZJA t0 t1 t2 t3 t4 t5 w K) : Cl prog 101 #[t0, t1, t2, t3, t4, t5] w K :=
 ZML 57 [12] Tryz.func101 h

def Zi1 (t0 t1 t2 : Value) (w : World) (K : KV) : Prop :=
 Cl prog 165 #[t0, t1, t2] w fun t11 w =>
 bn .neq t11 w fun t13 w =>
 Zr t13
 (dr w fun w =>
 ncP t0 <|
 fld 1 t0 w fun t16 _ =>
 ld1 t16 w fun t17 _ =>
 ncP t11 <|
 fld 129 t11 w fun t20 _ =>
 ld1 t20 w fun t21 _ =>
 bi .sub .i64 t17 t21 w fun t22 _ =>
 K t22 w)
 (K (Iw 0) w)
theorem ZhN (h : Zi1 t0 t1 t2 w K) : Cl prog 102 #[t0, t1, t2] w K :=
 ZML 23 [6] Tryz.func102 h

def ZfB (t0 t1 t2 t3 : Value) (w : World) (K : KV) : Prop :=
 al (Value.cells t3) 104 w fun t7 w =>
 Cl prog 57 #[t0, t1] w fun t15 w =>
 Cl prog 57 #[t0, t2] w fun t18 w =>
 fld 0 t7 w fun t21 w =>
 ld1 t21 w fun t22 w =>
 bi .neq .i64 t22 (Iw 2) w fun t23 w =>
 gd t23 true (fun k => k t15 w) w fun t25 w =>
 gd t23 true (fun k => bn .neq t25 w k) w fun t26 w =>
 pk t23 t26 (Value.bool false) w fun t27 w =>
 gd t27 true (fun k => k t18 w) w fun t29 w =>
 gd t27 true (fun k => bn .neq t29 w k) w fun t30 w =>
 pk t27 t30 (Value.bool false) w fun t31 w =>
 K (Value.tuple #[t15, t18, t31]) w
theorem ZfP (h : ZfB t0 t1 t2 t3 w K) : Cl prog 103 #[t0, t1, t2, t3] w K :=
 ZML 32 [8, 9, 10] Tryz.func103 h

def ZkR (t0 t1 t2 : Value) (w : World) (K : KV) : Prop :=
 Cl prog 110 #[t0, t1] w fun t11 w =>
 Zb3 t11 w fun t12 w =>
 gd t12 false (fun k => k t2 w) w fun t14 w =>
 gd t12 false (fun k => Cl prog 166 #[t14] w k) w fun t15 w =>
 gd t12 false (fun k => Zb3 t15 w k) w fun t16 w =>
 pk t12 (Value.bool true) t16 w fun t17 w =>
 Zr t17
 (K (Value.tuple #[(Iw 0), (Iw 1)]) w)
 (Cl prog 167 #[t0, t1] w fun t20 w =>
 dr w fun w =>
 ncP t0 <|
 fld 19 t0 w fun t24 _ =>
 ixA 2 1 t24 t20 w fun t25 _ =>
 ld1 t25 w fun t26 _ =>
 bi .add .i64 t26 (Iw 1) w fun t27 _ =>
 ncP t0 <|
 fld 19 t0 w fun t29 _ =>
 ixA 2 1 t29 t20 w fun t30 _ =>
 stN 1 t30 t27 w fun _ w =>
 dr w fun w =>
 Cl prog 109 #[t0] w fun t32 w =>
 gd t32 true (fun k => k t0 w) w fun t34 _ =>
 gd t32 true (fun k => k t1 w) w fun t35 _ =>
 gd t32 true (fun k => nc t34 w k) w fun t36 _ =>
 gd t32 true (fun k => fld 3 t36 w k) w fun t37 _ =>
 gd t32 true (fun k => ixA 8 2 t37 t35 w k) w fun t38 _ =>
 gd t32 true (fun k => ldN 2 t38 w k) w fun t39 _ =>
 gd t32 true (fun k => k t0 w) w fun t40 _ =>
 gd t32 true (fun k => nc t40 w k) w fun t41 _ =>
 gd t32 true (fun k => fld 1 t41 w k) w fun t42 _ =>
 gd t32 true (fun k => ld1 t42 w k) w fun t43 _ =>
 gd t32 true (fun k => Cl prog 111 #[t39, t43] w k) w fun t44 w =>
 pk t32 t44 (Value.bool false) w fun t45 _ =>
 J0 (fun w =>
 K (Value.tuple #[t20, (Iw 0)]) w) fun k1 =>
 Zr t45
 (ncP t0 <|
 fld 21 t0 w fun t49 w =>
 ld1 t49 w fun t50 w =>
 mnI .i64 t50 t2 w fun t52 w =>
 ncP t0 <|
 fld 21 t0 w fun t54 w =>
 stN 1 t54 t52 w fun _ w =>
 k1 w)
 (k1 w))
theorem Zjy (h : ZkR t0 t1 t2 w K) : Cl prog 104 #[t0, t1, t2] w K :=
 ZML 56 [6, 7] Tryz.func104 h

def Ziw (t0 t1 t2 t3 : Value) (w : World) (K : KV) : Prop :=
 al (Value.cells t3) 104 w fun t7 w =>
 Cl prog 165 #[t0, t1, t2] w fun t13 w =>
 bn .eql t13 w fun t16 w =>
 gd t16 false (fun k => fld 0 t7 w k) w fun t18 w =>
 gd t16 false (fun k => ld1 t18 w k) w fun t19 w =>
 gd t16 false (fun k => bi .lss .i64 t19 (Iw 0) w k) w fun t20 w =>
 pk t16 (Value.bool true) t20 w fun t21 w =>
 gd t21 false (fun k => fld 0 t7 w k) w fun t23 w =>
 gd t21 false (fun k => ld1 t23 w k) w fun t24 w =>
 gd t21 false (fun k => bi .gtr .i64 t24 (Iw 2) w k) w fun t25 w =>
 pk t21 (Value.bool true) t25 w fun t26 w =>
 gd t26 false (fun k => fld 7 t7 w k) w fun t28 w =>
 gd t26 false (fun k => ld1 t28 w k) w fun t29 w =>
 gd t26 false (fun k => bO prog .shr 3 (Operand.tmp 29) (Operand.const (Value.int IntKind.u64 1)) t29 (Value.int IntKind.u64 1) w k) w fun t30 w =>
 gd t26 false (fun k => bi .neq .i64 t30 (Iw 0) w k) w fun t31 w =>
 pk t26 (Value.bool true) t31 w fun t32 w =>
 Zr t32
 (K (Iw 1) w)
 (dr w fun w =>
 ncP t13 <|
 fld 129 t13 w fun t36 _ =>
 ld1 t36 w fun t37 _ =>
 ncP t0 <|
 fld 1 t0 w fun t40 _ =>
 ld1 t40 w fun t41 _ =>
 bi .eql .i64 t37 t41 w fun t42 _ =>
 Zr t42
 (K (Iw 2) w)
 (dr w fun w =>
 ncP t13 <|
 fld 128 t13 w fun t46 _ =>
 ld1 t46 w fun t47 _ =>
 ncP t13 <|
 fld 129 t13 w fun t50 _ =>
 ld1 t50 w fun t51 _ =>
 bi .add .i64 t47 t51 w fun t52 _ =>
 bi .rem .i64 t52 (Iw 16) w fun t53 _ =>
 ldN 8 t7 w fun t54 _ =>
 ncP t13 <|
 fld 0 t13 w fun t56 _ =>
 ixA 16 8 t56 t53 w fun t57 _ =>
 stN 8 t57 t54 w fun _ w =>
 ncP t13 <|
 fld 129 t13 w fun t60 w =>
 ld1 t60 w fun t61 w =>
 bi .add .i64 t61 (Iw 1) w fun t62 w =>
 ncP t13 <|
 fld 129 t13 w fun t64 w =>
 stN 1 t64 t62 w fun _ w =>
 K (Iw 0) w))
theorem ZhI (h : Ziw t0 t1 t2 t3 w K) : Cl prog 105 #[t0, t1, t2, t3] w K :=
 ZML 65 [8] Tryz.func105 h

def ZdK (t0 t1 t2 : Value) (w : World) (K : KV) : Prop :=
 al (Zl prog 104) 104 w fun t6 w =>
 Cl prog 165 #[t0, t1, t2] w fun t12 w =>
 bn .eql t12 w fun t14 w =>
 gd t14 false (fun k => k t12 w) w fun t16 w =>
 gd t14 false (fun k => nc t16 w k) w fun t17 w =>
 gd t14 false (fun k => fld 129 t17 w k) w fun t18 w =>
 gd t14 false (fun k => ld1 t18 w k) w fun t19 w =>
 gd t14 false (fun k => bi .eql .i64 t19 (Iw 0) w k) w fun t20 w =>
 pk t14 (Value.bool true) t20 w fun t21 w =>
 Zr t21
 (bld (Zl prog 104) #[(0, 1), (1, 6), (7, 1)] [] w fun t22 w =>
 stN 8 t6 t22 w fun _ w =>
 ldN 8 t6 w fun r0 _ =>
 K (Value.tuple #[r0, (Value.bool false)]) w)
 (dr w fun w =>
 ncP t12 <|
 fld 128 t12 w fun t26 _ =>
 ld1 t26 w fun t27 _ =>
 ncP t12 <|
 fld 0 t12 w fun t29 _ =>
 ixA 16 8 t29 t27 w fun t30 _ =>
 ldN 8 t30 w fun t31 _ =>
 stN 8 t6 t31 w fun _ w =>
 ldN 8 t6 w fun r0 _ =>
 K (Value.tuple #[r0, (Value.bool true)]) w)
theorem ZcH (h : ZdK t0 t1 t2 w K) : Cl prog 106 #[t0, t1, t2] w K :=
 ZMM 32 [(6, some 104), (7, none)] Tryz.func106 h

def ZiP (t0 t1 t2 : Value) (w : World) (K : KV) : Prop :=
 al (Zl prog 104) 104 w fun t6 w =>
 Cl prog 106 #[t0, t1, t2] w fun t15 w =>
 xt 0 t15 w fun t16 w =>
 xt 1 t15 w fun t17 w =>
 al (Zl prog 104) 104 w fun t8 w =>
 stN 8 t8 t16 w fun _ w =>
 J0 (fun w =>
 ldN 8 t8 w fun t39 w =>
 stN 8 t6 t39 w fun _ w =>
 ldN 8 t6 w fun r0 _ =>
 K (Value.tuple #[r0, t17]) w) fun k1 =>
 Zr t17
 (Cl prog 165 #[t0, t1, t2] w fun t22 w =>
 ncP t22 <|
 fld 128 t22 w fun t26 w =>
 ld1 t26 w fun t27 w =>
 bi .add .i64 t27 (Iw 1) w fun t28 w =>
 bi .rem .i64 t28 (Iw 16) w fun t29 w =>
 ncP t22 <|
 fld 128 t22 w fun t31 w =>
 stN 1 t31 t29 w fun _ w =>
 ncP t22 <|
 fld 129 t22 w fun t34 w =>
 ld1 t34 w fun t35 w =>
 bi .sub .i64 t35 (Iw 1) w fun t36 w =>
 ncP t22 <|
 fld 129 t22 w fun t38 w =>
 stN 1 t38 t36 w fun _ w =>
 k1 w)
 (k1 w)
theorem ZhB (h : ZiP t0 t1 t2 w K) : Cl prog 107 #[t0, t1, t2] w K :=
 ZMM 41 [(6, some 104), (7, none)] Tryz.func107 h

def ZmI (t0 t1 t2 : Value) (w : World) (K : KV) : Prop :=
 Cl prog 110 #[t0, t1] w fun t9 w =>
 Zb3 t9 w fun t10 w =>
 gd t10 false (fun k => k t2 w) w fun t12 w =>
 gd t10 false (fun k => bO prog .shr 3 (Operand.tmp 12) (Operand.const (Value.int IntKind.u64 1)) t12 (Value.int IntKind.u64 1) w k) w fun t13 w =>
 gd t10 false (fun k => bi .neq .i64 t13 (Iw 0) w k) w fun t14 w =>
 pk t10 (Value.bool true) t14 w fun t15 w =>
 gd t15 false (fun k => k t0 w) w fun t17 w =>
 gd t15 false (fun k => k t2 w) w fun t18 w =>
 gd t15 false (fun k => nc t17 w k) w fun t19 w =>
 gd t15 false (fun k => fld 19 t19 w k) w fun t20 w =>
 gd t15 false (fun k => ixA 2 1 t20 t18 w k) w fun t21 w =>
 gd t15 false (fun k => ld1 t21 w k) w fun t22 w =>
 gd t15 false (fun k => bi .eql .i64 t22 (Iw 0) w k) w fun t23 w =>
 pk t15 (Value.bool true) t23 w fun t24 w =>
 Zr t24
 (K (Iw 1) w)
 (dr w fun w =>
 ncP t0 <|
 fld 19 t0 w fun t28 _ =>
 ixA 2 1 t28 t2 w fun t29 _ =>
 ld1 t29 w fun t30 _ =>
 bi .sub .i64 t30 (Iw 1) w fun t31 _ =>
 ncP t0 <|
 fld 19 t0 w fun t33 _ =>
 ixA 2 1 t33 t2 w fun t34 _ =>
 stN 1 t34 t31 w fun _ w =>
 K (Iw 0) w)
theorem ZjO (h : ZmI t0 t1 t2 w K) : Cl prog 108 #[t0, t1, t2] w K :=
 ZML 35 [6] Tryz.func108 h

def Zjj (t0 : Value) (w : World) (K : KV) : Prop :=
 dr w fun w =>
 ncP t0 <|
 fld 1 t0 w fun t5 _ =>
 ld1 t5 w fun t6 _ =>
 ncP t0 <|
 fld 2 t0 w fun t9 _ =>
 ld1 t9 w fun t10 _ =>
 bi .gtr .i64 t6 t10 w fun t11 _ =>
 K t11 w
theorem Zh7 (h : Zjj t0 w K) : Cl prog 109 #[t0] w K :=
 ZML 12 [2] Tryz.func109 h

def Zns (t0 t1 : Value) (w : World) (K : KV) : Prop :=
 bi .geq .i64 t1 (Iw 0) w fun t6 w =>
 gd t6 true (fun k => k t1 w) w fun t8 w =>
 gd t6 true (fun k => k t0 w) w fun t9 w =>
 gd t6 true (fun k => nc t9 w k) w fun t10 w =>
 gd t6 true (fun k => fld 0 t10 w k) w fun t11 w =>
 gd t6 true (fun k => ld1 t11 w k) w fun t12 w =>
 gd t6 true (fun k => bi .lss .i64 t8 t12 w k) w fun t13 w =>
 pk t6 t13 (Value.bool false) w fun t14 w =>
 K t14 w
theorem Zk7 (h : Zns t0 t1 w K) : Cl prog 110 #[t0, t1] w K :=
 ZML 15 [4] Tryz.func110 h

def Zg5 (t0 t1 : Value) (w : World) (K : KV) : Prop :=
 al (Value.cells t0) 180 w fun t2 w =>
 fld 0 t2 w fun t5 w =>
 ld1 t5 w fun t6 w =>
 bi .eql .i64 t6 t1 w fun t8 w =>
 K t8 w
theorem ZgN (h : Zg5 t0 t1 w K) : Cl prog 111 #[t0, t1] w K :=
 ZML 9 [4] Tryz.func111 h

def ZfF (t0 : Value) (w : World) (K : KV) : Prop :=
 ncP t0 <|
 fld 6 t0 w fun t11 w =>
 ld1 t11 w fun t12 w =>
 Cl prog 168 #[t12] w fun t13 w =>
 xt 0 t13 w fun t14 w =>
 xt 1 t13 w fun t15 w =>
 al (Zl prog 47) 47 w fun t4 w =>
 stN 6 t4 t14 w fun _ w =>
 J1 (fun t3 w =>
 ncP t0 <|
 fld 9 t0 w fun t25 w =>
 ld1 t25 w fun t26 w =>
 rgM prog 176 t26 w fun t27 w =>
 lp [t3] w (b1 fun t3_1 w g2 =>
 nxM prog t27 false 0 w fun t28 w =>
 xt 0 t28 w fun t29 w =>
 Zr t29
 (enM prog t27 w fun t30 w =>
 xt 1 t30 w fun t31 w =>
 bsl 3 1 1 (Zl prog 3) [(0, t31)] w fun t34 w =>
 apS prog #[22, 22] 22 t3_1 t34 w fun t35 w =>
 g2 [t35] w)
 (Cl prog 115 #[t3_1] w fun t37 w =>
 K t37 w))) fun k1 =>
 Zr t15
 (fld 0 t4 w fun t18 w =>
 fld 0 t18 w fun t19 w =>
 ld1 t19 w fun t20 w =>
 bsl 3 1 1 (Zl prog 3) [(0, t20)] w fun t21 w =>
 apS prog #[22, 22] 22 (Value.slice none 0 0) t21 w fun t22 w =>
 k1 t22 w)
 (k1 (Value.slice none 0 0) w)
theorem ZfJ (h : ZfF t0 w K) : Cl prog 112 #[t0] w K :=
 ZML 38 [2] Tryz.func112 h

def ZgY (t0 : Value) (w : World) (K : KV) : Prop :=
 ncP t0 <|
 fld 2 t0 w fun t5 w =>
 ld1 t5 w fun t6 w =>
 K t6 w
theorem ZgA (h : ZgY t0 w K) : Cl prog 113 #[t0] w K :=
 ZML 7 [2] Tryz.func113 h

def Zha (t0 t1 t2 : Value) (w : World) (K : KV) : Prop :=
 Cl prog 110 #[t0, t1] w fun t10 w =>
 Zb3 t10 w fun t11 w =>
 gd t11 false (fun k => k t2 w) w fun t13 w =>
 gd t11 false (fun k => Cl prog 166 #[t13] w k) w fun t14 w =>
 gd t11 false (fun k => Zb3 t14 w k) w fun t15 w =>
 pk t11 (Value.bool true) t15 w fun t16 w =>
 Zr t16
 (K (Iw 1) w)
 (dr w fun w =>
 Cl prog 109 #[t0] w fun t19 w =>
 Zb3 t19 w fun t20 _ =>
 gd t20 false (fun k => k t0 w) w fun t22 _ =>
 gd t20 false (fun k => Cl prog 169 #[t22, (Value.func (.func 111) #[] #[])] w k) w fun t23 w =>
 gd t20 false (fun k => Zb3 t23 w k) w fun t24 _ =>
 pk t20 (Value.bool true) t24 w fun t25 _ =>
 gd t25 false (fun k => k t0 w) w fun t27 _ =>
 gd t25 false (fun k => k t1 w) w fun t28 _ =>
 gd t25 false (fun k => nc t27 w k) w fun t29 _ =>
 gd t25 false (fun k => fld 3 t29 w k) w fun t30 _ =>
 gd t25 false (fun k => ixA 8 2 t30 t28 w k) w fun t31 _ =>
 gd t25 false (fun k => ldN 2 t31 w k) w fun t32 _ =>
 gd t25 false (fun k => k t0 w) w fun t33 _ =>
 gd t25 false (fun k => nc t33 w k) w fun t34 _ =>
 gd t25 false (fun k => fld 1 t34 w k) w fun t35 _ =>
 gd t25 false (fun k => ld1 t35 w k) w fun t36 _ =>
 gd t25 false (fun k => Cl prog 170 #[t32, t36] w k) w fun t37 w =>
 pk t25 (Value.bool true) t37 w fun t38 _ =>
 Zr t38
 (K (Iw 130) w)
 (dr w fun w =>
 ncP t0 <|
 fld 2 t0 w fun t43 _ =>
 ld1 t43 w fun t44 _ =>
 ncP t0 <|
 fld 19 t0 w fun t47 _ =>
 bO prog .and 3 (Operand.tmp 44) (Operand.const (Iw 1)) t44 (Iw 1) w fun t45 w =>
 ixA 2 1 t47 t45 w fun t48 _ =>
 ld1 t48 w fun t49 _ =>
 bi .gtr .i64 t49 (Iw 0) w fun t50 _ =>
 Zr t50
 (K (Iw 150) w)
 (dr w fun w =>
 ncP t0 <|
 fld 1 t0 w fun t55 _ =>
 ld1 t55 w fun t56 _ =>
 ncP t0 <|
 fld 3 t0 w fun t58 _ =>
 ixA 8 2 t58 t1 w fun t59 _ =>
 fld 1 t59 w fun t60 _ =>
 stN 1 t60 t56 w fun _ w =>
 ncP t0 <|
 fld 21 t0 w fun t64 w =>
 ld1 t64 w fun t65 w =>
 mnI .i64 t65 t2 w fun t67 w =>
 ncP t0 <|
 fld 21 t0 w fun t69 w =>
 stN 1 t69 t67 w fun _ w =>
 Cl prog 169 #[t0, (Value.func (.func 170) #[] #[])] w fun t71 w =>
 J0 (fun w =>
 K (Iw 0) w) fun k1 =>
 Zr t71
 (ncP t0 <|
 fld 1 t0 w fun t75 w =>
 ld1 t75 w fun t76 w =>
 ncP t0 <|
 fld 2 t0 w fun t78 w =>
 stN 1 t78 t76 w fun _ w =>
 dr w fun w =>
 ncP t0 <|
 fld 22 t0 w fun t82 _ =>
 ld1 t82 w fun t83 _ =>
 ncP t0 <|
 fld 21 t0 w fun t86 _ =>
 ld1 t86 w fun t87 _ =>
 mxI .i64 t83 t87 w fun t88 w =>
 ncP t0 <|
 fld 22 t0 w fun t90 _ =>
 stN 1 t90 t88 w fun _ w =>
 k1 w)
 (k1 w))))
theorem ZgB (h : Zha t0 t1 t2 w K) : Cl prog 114 #[t0, t1, t2] w K :=
 ZML 91 [6] Tryz.func114 h

def Zmt (t0 : Value) (w : World) (K : KV) : Prop :=
 lnS t0 w fun t7 w =>
 lp [(Iw 1125899906842624), (Iw 0)] w (b2 fun t3 t8 w g1 =>
 bi .lss .i64 t8 t7 w fun t9 w =>
 Zr t9
 (ixS 1 t0 t8 w fun t10 w =>
 ld1 t10 w fun t11 w =>
 Cl prog 171 #[t11] w fun t14 w =>
 mnI .i64 t3 t14 w fun t15 w =>
 bi .add .i64 t8 (Iw 1) w fun t16 w =>
 g1 [t15, t16] w)
 (K t3 w))
theorem ZjX (h : Zmt t0 w K) : Cl prog 115 #[t0] w K :=
 ZML 18 [2] Tryz.func115 h

def ZeF (t0 t1 : Value) (w : World) (K : KV) : Prop :=
 ncP t0 <|
 fld 7 t0 w fun t14 w =>
 ld1 t14 w fun t15 w =>
 Cl prog 172 #[t15] w fun t16 w =>
 bi .lss .i64 t1 t16 w fun t17 w =>
 Zr t17
 (K (Value.tuple #[(Value.slice none 0 0), (Value.slice none 0 0), (Iw 110)]) w)
 (Cl prog 112 #[t0] w fun t21 w =>
 bi .gtr .i64 t1 t21 w fun t22 w =>
 Zr t22
 (K (Value.tuple #[(Value.slice none 0 0), (Value.slice none 0 0), (Iw 130)]) w)
 (ncP t0 <|
 fld 7 t0 w fun t25 w =>
 ld1 t25 w fun t26 w =>
 Cl prog 173 #[t26, t1] w fun t28 w =>
 lnS t28 w fun t29 w =>
 lp [(Value.slice none 0 0), (Iw 0)] w (b2 fun t7 t30 w g1 =>
 bi .lss .i64 t30 t29 w fun t31 w =>
 Zr t31
 (ixS 10 t28 t30 w fun t32 w =>
 ldN 10 t32 w fun t33 w =>
 al (Zl prog 265) 265 w fun t9 w =>
 stN 10 t9 t33 w fun _ w =>
 fld 0 t9 w fun t35 w =>
 ldN 6 t35 w fun t36 w =>
 fld 8 t9 w fun t37 w =>
 ld1 t37 w fun t38 w =>
 bld (Zl prog 49) #[(0, 6), (6, 1)] [(0, t36), (1, t38)] w fun t39 w =>
 bsl 49 7 1 (Zl prog 49) [(0, t39)] w fun t40 w =>
 apS prog #[38, 38] 38 t7 t40 w fun t41 w =>
 bi .add .i64 t30 (Iw 1) w fun t42 w =>
 g1 [t41, t42] w)
 (ncP t0 <|
 fld 10 t0 w fun t46 w =>
 ld1 t46 w fun t47 w =>
 apS prog #[38, 38] 38 t47 t7 w fun t49 w =>
 ncP t0 <|
 fld 10 t0 w fun t51 w =>
 stN 1 t51 t49 w fun _ w =>
 ncP t0 <|
 fld 8 t0 w fun t55 w =>
 ld1 t55 w fun t56 w =>
 Cl prog 174 #[t56, t1] w fun t58 w =>
 K (Value.tuple #[t7, t58, (Iw 0)]) w))))
theorem ZeP (h : ZeF t0 t1 w K) : Cl prog 116 #[t0, t1] w K :=
 ZML 59 [4, 5, 6] Tryz.func116 h

def Zpz (t0 : Value) (w : World) (K : KV) : Prop :=
 lnS t0 w fun t7 w =>
 lp [(Value.slice none 0 0), (Iw 0)] w (b2 fun t3 t8 w g1 =>
 bi .lss .i64 t8 t7 w fun t9 w =>
 Zr t9
 (ixS 6 t0 t8 w fun t10 w =>
 ldN 6 t10 w fun t11 w =>
 al (Zl prog 47) 47 w fun t5 w =>
 stN 6 t5 t11 w fun _ w =>
 ldN 6 t5 w fun t13 w =>
 bld (Zl prog 104) #[(0, 1), (1, 6), (7, 1)] [(1, t13)] w fun t14 w =>
 bsl 104 8 1 (Zl prog 104) [(0, t14)] w fun t15 w =>
 apS prog #[53, 53] 53 t3 t15 w fun t16 w =>
 bi .add .i64 t8 (Iw 1) w fun t17 w =>
 g1 [t16, t17] w)
 (K t3 w))
theorem Zlt (h : Zpz t0 w K) : Cl prog 117 #[t0] w K :=
 ZML 19 [2] Tryz.func117 h

def Zg8 (t0 : Value) (w : World) (K : KV) : Prop :=
 al (Value.cells t0) 81 w fun t1 w =>
 K (Value.func (Fn.func 175) #[] #[t1]) w
theorem ZgQ (h : Zg8 t0 w K) : Cl prog 118 #[t0] w K :=
 ZML 4 [2] Tryz.func118 h

def ZaH (t0 t1 : Value) (w : World) (K : KV) : Prop :=
 lnS t0 w fun t7 w =>
 lp [(Iw 0)] w (b1 fun t8 w g1 =>
 bi .lss .i64 t8 t7 w fun t9 w =>
 Zr t9
 (ixS 8 t0 t8 w fun t14 w =>
 ldN 8 t14 w fun t15 w =>
 clV prog t1 #[t15] w fun t16 w =>
 Zr t16
 (K t8 w)
 (bi .add .i64 t8 (Iw 1) w fun t18 w =>
 g1 [t18] w))
 (K (Iw (-1)) w))
theorem Zbn (h : ZaH t0 t1 w K) : Cl prog 119 #[t0, t1] w K :=
 ZML 19 [4] Tryz.func119 h

def ZiH (t0 : Value) (w : World) (K : KV) : Prop :=
 ncP t0 <|
 fld 1 t0 w fun t5 w =>
 ld1 t5 w fun t6 w =>
 lnS t6 w fun t7 w =>
 K t7 w
theorem Zib (h : ZiH t0 w K) : Cl prog 120 #[t0] w K :=
 ZML 8 [2] Tryz.func120 h
end Go.Proofs.YtncgbaokgniphaaGreat
end
