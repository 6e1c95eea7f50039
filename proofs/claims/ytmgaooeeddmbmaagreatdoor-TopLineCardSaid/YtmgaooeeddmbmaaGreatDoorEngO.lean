/- The engine, part O: functions whose results stand in cells; slices of arrays. Conditions: none. -/
import Derived.Test.YtmgaooeeddmbmaaGreatDoorEngD
namespace Go.E
open Go.RowKit
variable {P : Program} {w : World} {K : KV}

/-- A slice of an array. -/
def slA (P : Program) (t : TypeId) (x : Value) (lo hi : Option Value) (w : World) (K : KV) : Prop := ex P (oV (Instr.sliceAt t x lo hi none)) w K

/-- A slice of a slice, its capacity too. -/
def slX (P : Program) (t : TypeId) (x : Value) (lo hi mx : Option Value) (w : World) (K : KV) : Prop := ex P (oV (Instr.sliceAt t x lo hi mx)) w K

/-- The two steps of a map's assignment among several. -/
def meM (P : Program) (t : TypeId) (m k : Value) (w : World) (K : KV) : Prop := ex P (oV (Instr.mapEntry t m k)) w K
def esM (P : Program) (t : TypeId) (m s x : Value) (w : World) (K : KV) : Prop := ex P (oU (Instr.entryStore t m s x)) w K
def clB (P : Program) (ts : Array TypeId) (t : TypeId) (x : Value) (w : World) (K : KV) : Prop := ex P (oV (Builtin.clear_ ts t #[x])) w K
/-- A builtin that stays a run. -/
def cpB (P : Program) (ts : Array TypeId) (t : TypeId) (x : Value) (w : World) (K : KV) : Prop := ex P (oV (Builtin.cap_ ts t #[x])) w K

/-- A call of an interface's method. -/
def clI (P : Program) (x : Value) (name : String) (args : Array Value) (w : World) (K : KV) : Prop := ex P (invoke (.fn (.method name) #[]) (#[x] ++ args)) w K
theorem clI_s {t : TypeId} {v rcv : Value} {name : String} {f : FuncId} {args : Array Value} (hm : (Go.method (P.types.size + Made.depth) t v name).run P w = .ok (f, rcv) w) (h : Cl P f (#[rcv] ++ args) w K) : clI P (.iface t v) name args w K := by
  refine ex_congr ?_ h
  have h1 : (#[Value.iface t v] ++ args)[0]? = some (Value.iface t v) := by rw [Array.getElem?_append_left (by simp)]; rfl
  have h2 : (#[Value.iface t v] ++ args).extract 1 (#[Value.iface t v] ++ args).size = args := by
    apply Array.ext'
    simp
  simp only [invoke, h1, h2, callMethod, Sem.run_bind]
  have h3 : (program).run P w = .ok P w := rfl
  rw [h3]
  simp only [Result.andThen_ok, hm]

def ldT (P : Program) (t : TypeId) (x : Value) (w : World) (K : KV) : Prop := match okT P t, isAggT P t with
  | true, true => ldN (szD P t) x w K
  | true, false => ld1 x w K
  | false, _ => False
theorem ldT_run {t : TypeId} {x : Value} (h : ldT P t x w K) : ∃ a v, x = .pointer (some a) ∧ (loadVar t a).run P w = .ok v w ∧ K v w := by
  unfold ldT at h
  split at h
  · rename_i ho ha
    obtain ⟨d, i, z, hd, hi, hz, hs, hg, hz'⟩ := okT_inv ho
    obtain ⟨a', vs, hx, hn, hc, hk⟩ := h
    exact ⟨a', _, hx, run_loadVarN hd hi (hg ▸ ha) (hs ▸ hn) hc, hk⟩
  · rename_i ho ha
    obtain ⟨d, i, z, hd, hi, hz, hs, hg, hz'⟩ := okT_inv ho
    obtain ⟨a', v, hx, hc, hk⟩ := h
    exact ⟨a', v, hx, run_loadVar1 hd (hg ▸ ha) hc, hk⟩
  · exact h.elim

def rvOf : Nat × Option TypeId → ResultVar
  | (t, none) => .tmp t
  | (t, some y) => .cell t y
def tupV (vs : List Value) : Value := match vs with
  | [v] => v
  | _ => .tuple vs.toArray
/-- The results, one after the other. -/
def retC (P : Program) : List (Nat × Option TypeId) → List Value → Ev → World → KV → Prop
  | [], vs, _, w, K => K (tupV vs) w
  | (t, none) :: l, vs, ρ, w, K => retC P l (vs ++ [ρ t]) ρ w K
  | (t, some y) :: l, vs, ρ, w, K => ldT P y (ρ t) w fun v _ => retC P l (vs ++ [v]) ρ w K

theorem retC_run {nt m : Nat} {a : Act} {ρ : Ev} (ha : Agr nt m a ρ) :
    ∀ (rs : List (Nat × Option TypeId)) (vs : List Value), (∀ r ∈ rs, m.testBit r.1 = true) → retC P rs vs ρ w K → ∃ us, (∀ (g : ResultVar → Sem Value), (∀ t, g (.tmp t) = pure (a.tmps.getD t undef)) → (∀ t y, g (.cell t y) = (do loadVar y (← asAddr (a.tmps.getD t undef)))) → ((rs.map rvOf).mapM g).run P w = .ok us w) ∧ K (tupV (vs ++ us)) w
  | [], vs, _, h => ⟨[], fun g _ _ => by simp, by simpa [retC] using h⟩
  | (t, none) :: l, vs, hm, h => by
    obtain ⟨us, k1, k2⟩ := retC_run ha l (vs ++ [ρ t]) (fun r hr => hm r (by simp [hr])) h
    refine ⟨ρ t :: us, fun g h1 h2 => ?_, by simpa using k2⟩
    have k1 := k1 g h1 h2
    have he := ha.2.2 t (hm (t, none) (by simp))
    simp only [List.map_cons, rvOf, List.mapM_cons, Sem.run_bind, h1, Sem.run_pure, Result.andThen_ok, k1, he]
  | (t, some y) :: l, vs, hm, h => by
    obtain ⟨a', v, hx, hl, hk⟩ := ldT_run (K := fun v _ => retC P l (vs ++ [v]) ρ w K) h
    obtain ⟨us, k1, k2⟩ := retC_run ha l (vs ++ [v]) (fun r hr => hm r (by simp [hr])) hk
    refine ⟨v :: us, fun g h1 h2 => ?_, by simpa using k2⟩
    have k1 := k1 g h1 h2
    have he := ha.2.2 t (hm (t, some y) (by simp))
    simp only [List.map_cons, rvOf, List.mapM_cons, Sem.run_bind, h2, Sem.run_pure, Result.andThen_ok, he, hx, asAddr, hl, k1]

theorem run_resultsC {fn : Func} {rs : List (Nat × Option TypeId)} (hr : fn.results = (rs.map rvOf).toArray) {nt m : Nat} {a : Act} {ρ : Ev} (ha : Agr nt m a ρ) (hm : ∀ r ∈ rs, m.testBit r.1 = true) (h : retC P rs [] ρ w K) :
    ∃ v, (results fn a.tmps).run P w = .ok v w ∧ K v w := by
  obtain ⟨us, k1, k2⟩ := retC_run ha rs [] hm h
  refine ⟨tupV us, ?_, by simpa using k2⟩
  unfold results
  rw [hr, Array.mapM_eq_mapM_toList]
  simp only [Sem.run_bind, Sem.run_map]
  rw [k1 _ (fun _ => rfl) (fun _ _ => rfl)]
  simp only [Result.andThen_ok, Sem.run_pure]
  congr 1
  unfold tupV
  match us with
  | [] => rfl
  | [v] => rfl
  | v :: u :: l => simp

def fnWC (P : Program) (nt : Nat) (rs : List (Nat × Option TypeId)) (c : Code) (args : Array Value) (w : World) (K : KV) : Prop :=
  cw P nt (bitsL (rs.map (·.1))) c (bitsL (rs.map (·.1))) (fun _ => 0) ⟨fun ρ w => retC P rs [] ρ w K, fun _ _ _ => False, fun ρ w => retC P rs [] ρ w K⟩ (Ev.init args) w
def fnOkC (P : Program) (nt : Nat) (rs : List (Nat × Option TypeId)) (c : Code) : Bool := cwOk P nt (bitsL (rs.map (·.1))) c (bitsL (rs.map (·.1))) (fun _ => 0)

theorem calls_of_fnWC {f : FuncId} {fn : Func} {c : Code} {args : Array Value} {nt : Nat} {rs : List (Nat × Option TypeId)} (hm : P.follows .mixedOrders = true)
    (hf : P.funcs[f]? = some fn) (hb : fn.body = some c) (hn : fn.ntmps = nt) (hr : fn.results = (rs.map rvOf).toArray) (hargs : args.size ≤ nt) (hok : fnOkC P nt rs c = true)
    (h : fnWC P nt rs c args w K) : CallsR P f args w K := by
  have hmem : ∀ r ∈ rs, (bitsL (rs.map (·.1))).testBit r.1 = true := fun r hr => bitsL_mem (List.mem_map.2 ⟨r, hr, rfl⟩)
  refine calls_of_wp hf hb (wpIn_wide (n := 0).1 (cw_sound (ro := none) hm c _ _ _ (Ev.init args) _ w _ (.inl rfl) hok ⟨by simp [hn]; omega, rfl, fun t _ => ?_⟩ ?_ ?_ ?_ h))
  · simp only [Ev.init, Array.getD_eq_getD_getElem?, Array.getElem?_append]
    split
    · rfl
    · rename_i hge
      rw [Array.getElem?_eq_none (xs := args) (by omega)]
      cases hx : (Array.replicate (fn.ntmps - args.size) undef)[t - args.size]? with
      | none => rfl
      | some v =>
        simp only [Array.getElem?_replicate] at hx
        split at hx
        · cases hx; rfl
        · cases hx
  · intro ρ' a' w' k1 k2 _
    obtain ⟨v, k3, k4⟩ := run_resultsC hr k2 hmem k1
    exact ⟨k2.2.1, _, k3, _, rfl, k4⟩
  · intro id ρ' a' w' k1
    exact k1.elim
  · intro ρ' a' w' k1 k2
    obtain ⟨v, k3, k4⟩ := run_resultsC hr k2 hmem k1
    exact ⟨k2.2.1, _, k3, _, rfl, k4⟩

/-- A function by its printed form. -/
theorem calls_of_FC {f : FuncId} {fn : Func} {args : Array Value} {nt : Nat} {rs : List (Nat × Option TypeId)} {F : Prop} (hm : P.follows .mixedOrders = true)
    (hf : P.funcs[f]? = some fn) (hs : (match fn.body with | some _ => true | none => false) = true) (hn : fn.ntmps = nt) (hr : fn.results = (rs.map rvOf).toArray) (hargs : args.size ≤ nt)
    (hok : fnOkC P nt rs (match fn.body with | some c => c | none => .skip) = true) (he : F = fnWC P nt rs (match fn.body with | some c => c | none => .skip) args w K) (h : F) : CallsR P f args w K := by
  cases hb : fn.body with
  | none => rw [hb] at hs; cases hs
  | some c =>
    rw [hb] at hok he
    exact calls_of_fnWC hm hf hb hn hr hargs hok (he ▸ h)
end Go.E
