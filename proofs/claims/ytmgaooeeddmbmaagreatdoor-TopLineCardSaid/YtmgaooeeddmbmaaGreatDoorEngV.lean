/- The engine, part V: copy, append in place, append of a make, clear, cap and three-index slices over a block's rows; slices.overlaps of two blocks. Conditions: none. -/
import Derived.Test.YtmgaooeeddmbmaaGreatDoorEngU
import Derived.Lib.Overlaps
namespace Go.E
open Go.RowKit

theorem add_at (b k j : Nat) : ((⟨b, k, none⟩ : Addr).add j) = ⟨b, k + j, none⟩ := by
  unfold Addr.add
  split
  · rename_i h0; subst h0; rfl
  · rfl
section
variable {P : Program} {e w : World} {L : List HP} {K : KV} {size bytes : Nat} {t st ty : TypeId} {α : Type} {f : α → List Value}

/-- Cells stored into a block. -/
theorem Sat.stc {b k : Nat} {cs new : List Value} (hS : Sat e w L) (i : Nat) (hi : L[i]? = some (blk b t cs)) (hk : k + new.length ≤ cs.length) (hf : ∀ v ∈ new, flat v = true) :
    (storeCells ⟨b, k, none⟩ new).run P w = .ok () (setCs w ⟨b, k, none⟩ 0 new) ∧ Sat e (setCs w ⟨b, k, none⟩ 0 new) (L.set i (blk b t (wrL cs k new))) := by
  have hhb := hS.heap i hi
  constructor
  · refine run_storeCells new 0 w hf (fun j _ h2 => ?_)
    rw [add_at]
    constructor
    · simp only [World.cell?, hhb]
      simp
      omega
    · simp [World.frozen?, hhb]
  · rw [setCs_blk _ w k 0 cs hhb (by omega), Nat.add_zero]
    have h2 := hS.pick i hi
    have h3 : Sat e (World.setB w b (.cells (wrL cs k new).toArray t (0, 0))) (blk b t (wrL cs k new) :: L.eraseIdx i) := h2.setB
    exact h3.perm (set_perm L i _ _ hi)
theorem Sat.blk_at {b k n : Nat} {cs : List Value} (hS : Sat e w L) (i : Nat) (hi : L[i]? = some (blk b t cs)) : CellsAt w ⟨b, k, none⟩ ((cs.drop k).take n) :=
  hS.cells i hi fun _ h => (blk_cells h k).take n
/-- copy(d, s) -/
theorem cp_s {xt : TypeId} {b k n m c c' : Nat} {a : Addr} {cs new : List Value} (T : TE P st t size bytes) (hS : Sat e w L) (i : Nat) (hi : L[i]? = some (blk b t cs)) (hc : CellsAt w a new) (hn : new.length = min m n * size) (hk : k + new.length ≤ cs.length) (hf : ∀ v ∈ new, flat v = true)
    (hK : ∀ v w', Sat e w' (L.set i (blk b t (wrL cs k new))) → K v w') : cpS P #[st, xt] ty (.slice (some ⟨b, k, none⟩) n c) (.slice (some a) m c') w K := by
  obtain ⟨h1, h2⟩ := hS.stc (P := P) i hi hk hf
  obtain ⟨inf, z, hinf, z1, z2, z3, z4⟩ := T.inf
  refine ex_oV (w' := setCs w ⟨b, k, none⟩ 0 new) (v := goInt (min m n : Nat)) ?_ (hK _ _ h2)
  have hfc := run_first (P := P) (c := c') hn hc
  unfold Builtin.copy_
  simp only [List.getElem?_toArray, List.getElem?_cons_zero, List.getElem?_cons_succ, Sem.run_bind, run_und T.und, Result.andThen_ok, run_sz hinf, z1, Sem.run_pure, Builtin.lenOf]
  have e1 : Builtin.firstCells size (Nat.min m n) (.slice (some a) m c') = Builtin.firstCells size (min m n) (.slice (some a) (min m n) c') := rfl
  rw [e1, hfc]
  simp only [Result.andThen_ok, h1]
/-- append(s[:i], x..), with room. -/
theorem ap_in {xt t2 : TypeId} {b n m c c' : Nat} {A : Option Addr} {cs new : List Value} (T : TE P st t size bytes) (hx : P.underlying xt = some (.slice t2)) (hS : Sat e w L) (i : Nat) (hi : L[i]? = some (blk b t cs)) (hroom : n + m ≤ c) (hcl : cs.length = c * size)
    (hn : new.length = m * size) (hc : m ≠ 0 → ∃ a, A = some a ∧ CellsAt w a new) (hf : ∀ v ∈ new, flat v = true)
    (hK : ∀ w', Sat e w' (L.set i (blk b t (wrL cs (n * size) new))) → K (.slice (some ⟨b, 0, none⟩) (n + m) c) w') : apS P #[st, xt] ty (.slice (some ⟨b, 0, none⟩) n c) (.slice A m c') w K := by
  have hk : n * size + new.length ≤ cs.length := by rw [hn, hcl, ← Nat.add_mul]; exact Nat.mul_le_mul_right _ hroom
  obtain ⟨h1, h2⟩ := hS.stc (P := P) i hi hk hf
  have hsrc : (Builtin.firstCells size m (.slice A m c')).run P w = .ok new.toArray w := by
    by_cases h0 : m = 0
    · subst h0
      have : new = [] := List.length_eq_zero_iff.1 (by rw [hn, Nat.zero_mul])
      subst this
      cases A with
      | none => simp [Builtin.firstCells]
      | some a => exact run_first (vs := []) (by simp) (fun i v hv => by simp at hv)
    · obtain ⟨a, rfl, hca⟩ := hc h0
      exact run_first hn hca
  have hhb := hS.heap i hi
  refine ex_oV (run_append_room T hx hroom hsrc hf (fun j hj => ?_)) (hK _ h2)
  rw [add_at]
  constructor
  · simp only [World.cell?, hhb]
    simp
    omega
  · simp [World.frozen?, hhb]
/-- append(s[:i], make(..)..), without room. -/
theorem ap_made {it : TypeId} {b n m c : Nat} {k : IntKind} {cs : List Value} (T : TE P st t size bytes) (hx : P.underlying it = some (.int k)) (hS : Sat e w L) (i : Nat) (hi : L[i]? = some (blk b t cs)) (hroom : ¬ n + m ≤ c) (hnc : n ≤ c) (hcl : cs.length = c * size) (hb : (n + m) * bytes ≤ 140737488355328)
    (hK : ∀ b' cap cs' w', n + m ≤ cap → cs'.length = cap * size → cs'.take (n * size) = cs.take (n * size) → Sat e w' (blk b' t cs' :: L) → K (.slice (some ⟨b', 0, none⟩) (n + m) cap) w') : apS P #[st, it] ty (.slice (some ⟨b, 0, none⟩) n c) (.int .i64 (m : Int)) w K := by
  obtain ⟨inf, z, hinf, h1, h2, h3, h4⟩ := T.inf
  have hn : n + m ≤ 140737488355328 := Nat.le_trans (Nat.le_mul_of_pos_right _ T.pos.2) hb
  have hmb : m * bytes ≤ 140737488355328 := Nat.le_trans (Nat.mul_le_mul_right _ (Nat.le_add_left _ _)) hb
  have hnl : (cs.take (n * size)).length = n * size := by rw [List.length_take, hcl]; exact Nat.min_eq_left (Nat.mul_le_mul_right _ hnc)
  obtain ⟨cap, hcap⟩ : ∃ cap, cap = (Question.appendCap (n + m) c t).cut (w.tape w.drawn (.appendCap (n + m) c t)) := ⟨_, rfl⟩
  have hcapn : n + m ≤ cap := by rw [hcap]; simp [Question.cut]
  have g1 : ¬ ((n + m : Nat) : Int) > IntKind.i64.max := by
    simp only [IntKind.max, IntKind.signed, IntKind.bits]; simp; omega
  have g2 : ¬ Builtin.nextslicecap (n + m) c * bytes > 2 ^ 48 := by
    have := growslice_fits (need := n + m) (old := c) (bytes := bytes) (by omega) hb
    omega
  have g3 : ¬ ((m : Int) < 0) := by omega
  have g4 : ¬ ((m : Int) * (bytes : Int) > 2 ^ 48) := by
    have h0 : ((m * bytes : Nat) : Int) ≤ 140737488355328 := Int.ofNat_le.2 hmb
    rw [Int.natCast_mul] at h0
    have e1 : (2 : Int) ^ 48 = 281474976710656 := by decide
    rw [e1]
    omega
  have hask : ∀ (x : Nat) (w' : World), (askRoom x).run P w' = .ok () w' := by
    intro x w'
    unfold askRoom
    split <;> rfl
  have ho : (Builtin.firstCells size n (.slice (some ⟨b, 0, none⟩) n c)).run P w.drew = .ok (cs.take (n * size)).toArray w.drew := by
    refine run_first hnl ?_
    have := (hS.drew).blk_at (k := 0) (n := n * size) i hi
    rw [List.drop_zero] at this
    exact this
  obtain ⟨zs, hzs⟩ : ∃ zs : Array Value, zs = if m * size = 0 then #[] else Builtin.zeroCells z.cells m := ⟨_, rfl⟩
  have hzl : zs.size = m * size := by
    rw [hzs]
    split
    · simp; omega
    · rw [zeroCells_size, h4]
  have happ : ∀ w' : World, (if m * size = 0 then (pure #[] : Sem (Array Value)) else do pure (Builtin.zeroCells (← zeroValue t).cells m)).run P w' = .ok zs w' := by
    intro w'
    rw [hzs]
    by_cases h0 : m * size = 0
    · simp only [if_pos h0, Sem.run_pure]
    · simp only [if_neg h0, Sem.run_bind, run_zero hinf h3, Result.andThen_ok, Sem.run_pure]
  refine ex_oV (w' := w.drew.alloc (.cells ((cs.take (n * size)).toArray ++ zs ++ Builtin.zeroCells z.cells (cap - (n + m))) t)) (v := .slice (some ⟨w.heap.size, 0, none⟩) (n + m) cap) ?_ (hK w.heap.size cap (cs.take (n * size) ++ zs.toList ++ (Builtin.zeroCells z.cells (cap - (n + m))).toList) _ hcapn ?_ ?_ ?_)
  · unfold Builtin.append_
    simp only [List.getElem?_toArray, List.getElem?_cons_zero, List.getElem?_cons_succ, Sem.run_bind, run_und T.und, Result.andThen_ok, run_sz hinf, h1, run_und hx, Sem.run_pure, if_true, asInt, asIntOf, wrap_i64 (show -9223372036854775808 ≤ (m : Int) from by omega) (show (m : Int) ≤ 9223372036854775807 from by omega), g3, if_false, run_ti hinf, h2, g4, Int.toNat_natCast, hroom, Bool.not_true, Bool.false_eq_true, g1, false_and, g2]
    simp only [choose, Sem.run, Question.forced, Bool.false_eq_true, if_false, Result.andThen_ok, hask]
    change ((Builtin.firstCells size n (.slice (some ⟨b, 0, none⟩) n c)).run P w.drew).andThen _ = _
    rw [ho]
    simp only [Result.andThen_ok]
    change ((if m * size = 0 then (pure #[] : Sem (Array Value)) else do pure (Builtin.zeroCells (← zeroValue t).cells m)).run P w.drew).andThen _ = _
    rw [happ]
    simp only [Result.andThen_ok, run_zero hinf h3, newRow, newObj, Sem.run_bind, Sem.run, Sem.run_pure, ← hcap]
    rfl
  · rw [List.length_append, List.length_append, hnl, Array.length_toList, hzl, Array.length_toList, zeroCells_size, h4, ← Nat.add_mul, ← Nat.add_mul]; congr 1; omega
  · rw [List.append_assoc, List.take_append_of_le_length (by omega), List.take_of_length_le (by omega)]
  · have h3 := hS.drew.alloc (.cells ((cs.take (n * size)).toArray ++ zs ++ Builtin.zeroCells z.cells (cap - (n + m))) t)
    refine h3.imp fun g hg => ?_
    unfold blk
    rw [show (cs.take (n * size) ++ zs.toList ++ (Builtin.zeroCells z.cells (cap - (n + m))).toList).toArray = (cs.take (n * size)).toArray ++ zs ++ Builtin.zeroCells z.cells (cap - (n + m)) from by apply Array.ext'; simp]
    exact hg
/-- clear(s[k:k+n]) -/
theorem cl_at {b k n c : Nat} {cs : List Value} {z0 : List Value} (T : TE P st t size bytes) (hz : (zeroD P t).toList = z0) (hff : ∀ v ∈ z0, flat v = true) (hS : Sat e w L) (i : Nat) (hi : L[i]? = some (blk b t cs)) (hk : k + n * size ≤ cs.length)
    (hK : ∀ zs w', zs.length = n * size → Sat e w' (L.set i (blk b t (wrL cs k zs))) → K (.tuple #[]) w') : clB P #[st] ty (.slice (some ⟨b, k, none⟩) (n) c) w K := by
  obtain ⟨inf, z, hinf, z1, z2, z3, z4⟩ := T.inf
  cases n with
  | zero =>
    refine ex_oV (w' := w) (v := .tuple #[]) ?_ (hK [] w (by simp) ?_)
    · unfold Builtin.clear_
      simp only [List.getElem?_toArray, List.getElem?_cons_zero, Sem.run_bind, run_und T.und, Result.andThen_ok, Sem.run_pure]
    · have e0 : wrL cs k [] = cs := by simp [wrL]
      rw [e0]
      have e1 : L.set i (blk b t cs) = L := by
        apply List.ext_getElem?
        intro n
        rw [List.getElem?_set]
        by_cases h : i = n
        · subst h
          rw [if_pos rfl, if_pos (List.getElem?_eq_some_iff.1 hi).1, hi]
        · rw [if_neg h]
      rw [e1]
      exact hS
  | succ n =>
    have hzz : z.cells.toList = z0 := by
      rw [← hz]
      unfold zeroD
      simp only [hinf, Option.bind_some, z3]
    have hzc := zeroCells_size z.cells (n + 1)
    rw [z4] at hzc
    have hfl : ∀ v ∈ (Builtin.zeroCells z.cells (n + 1)).toList, flat v = true := by
      intro v hv
      have e1 : (Builtin.zeroCells z.cells (n + 1)).toList = (List.replicate (n + 1) ()).flatMap fun _ => z0 := by
        unfold Builtin.zeroCells
        have := range_mod (f := fun _ : Unit => z0) (x := ()) hzz z4 (n + 1)
        rw [z4] at this ⊢
        exact this
      rw [e1] at hv
      obtain ⟨_, _, hx⟩ := List.mem_flatMap.1 hv
      exact hff v hx
    obtain ⟨h1, h2⟩ := hS.stc (P := P) (new := (Builtin.zeroCells z.cells (n + 1)).toList) i hi (by rw [Array.length_toList, hzc]; exact hk) hfl
    refine ex_oV (w' := setCs w ⟨b, k, none⟩ 0 (Builtin.zeroCells z.cells (n + 1)).toList) (v := .tuple #[]) ?_ (hK _ _ (by rw [Array.length_toList, hzc]) h2)
    unfold Builtin.clear_
    simp only [List.getElem?_toArray, List.getElem?_cons_zero, Sem.run_bind, run_und T.und, Result.andThen_ok, run_zero hinf z3, h1, Sem.run_pure]
theorem cap_s {A : Option Addr} {n c : Nat} (hu : P.underlying st = some (.slice t)) (hK : K (.int .i64 (c : Int)) w) : cpB P #[st] ty (.slice A n c) w K := by
  refine ex_oV (w' := w) (v := .int .i64 (c : Int)) ?_ hK
  unfold Builtin.cap_
  simp only [List.getElem?_toArray, List.getElem?_cons_zero, Sem.run_bind, run_und hu, Result.andThen_ok, Sem.run_pure, goInt]
theorem slX_s {A : Option Addr} {n c lo hi mx : Nat} {k1 k2 k3 : IntKind} (T : TE P st t size bytes) (h1 : lo ≤ hi) (h2 : hi ≤ mx) (h3 : mx ≤ c) (hK : ∀ v, K v w) : slX P st (.slice A n c) (some (.int k1 (lo : Int))) (some (.int k2 (hi : Int))) (some (.int k3 (mx : Int))) w K := by
  obtain ⟨inf, z, hinf, z1, z2, z3, z4⟩ := T.inf
  refine ex_oV (w' := w) (v := .slice (if mx = lo then A else A.map (·.add (lo * size))) (hi - lo) (mx - lo)) ?_ (hK _)
  have hb : (Instr.sliceBounds true n c (some (.int k1 (lo : Int))) (some (.int k2 (hi : Int))) (some (.int k3 (mx : Int)))).run P w = .ok (lo, hi, mx) w := by
    unfold Instr.sliceBounds Instr.sliceBound
    simp only [Sem.run_bind, asIntOf, Sem.run_pure, Result.andThen_ok, if_true]
    rw [if_pos ⟨by omega, by omega⟩]
    simp only [Sem.run_pure, Result.andThen_ok, Int.toNat_natCast]
    rw [if_pos ⟨by omega, by omega⟩]
    simp only [Sem.run_pure, Result.andThen_ok]
    rw [if_pos ⟨by omega, by omega⟩]
    simp only [Sem.run_pure, Result.andThen_ok]
  unfold Instr.sliceAt Instr.slice
  simp only [Sem.run_bind, run_und T.und, Result.andThen_ok, hb, run_sz hinf, z1, Sem.run_pure]
/-- s[lo:hi] of a block's row. -/
theorem sl_at {b k n c lo hi : Nat} {lo' hi' : Option Value} (h1 : bnd lo' 0 lo) (h2 : bnd hi' n hi) (h3 : lo ≤ hi) (h4 : hi ≤ c) (h5 : lo < c) (hK : K (.slice (some ⟨b, k + lo * size, none⟩) (hi - lo) (c - lo)) w) : slc size (.slice (some ⟨b, k, none⟩) n c) lo' hi' w K := by
  refine ⟨_, _, _, lo, hi, rfl, h1, h2, h3, h4, ?_⟩
  rw [if_neg (by omega), Option.map_some, add_at]
  exact hK
/-- s[:hi] of a whole block. -/
theorem sl_to0 {b n c hi : Nat} {k : IntKind} (h4 : hi ≤ c) (hK : K (.slice (some ⟨b, 0, none⟩) hi c) w) : slc size (.slice (some ⟨b, 0, none⟩) n c) none (some (.int k (hi : Int))) w K := by
  refine ⟨_, _, _, 0, hi, rfl, rfl, ⟨k, hi, rfl, by omega, by omega⟩, Nat.zero_le _, h4, ?_⟩
  have hA : (if c = 0 then (some (⟨b, 0, none⟩ : Addr)) else (some (⟨b, 0, none⟩ : Addr)).map (·.add (0 * size))) = some ⟨b, 0, none⟩ := by
    split
    · rfl
    · simp [Addr.add]
  rw [hA]
  exact hK
theorem bnd_i {k : IntKind} {d : Nat} (j : Nat) : bnd (some (.int k (j : Int))) d j := ⟨k, j, rfl, by omega, by omega⟩
theorem bnd_n (d : Nat) : bnd none d d := rfl
/-- slices.overlaps of two blocks. -/
theorem ov_s {g : FuncId} {fn : Func} {tR : TypeId} {a b ka kb la ca lb cb : Nat} {cs cs2 : List Value} {t2 : TypeId} (hf : P.funcs[g]? = some fn) (hname : (fn.name == "runtime.NumGoroutine") = false) (hb : fn.body.isNone = true) (hn : Extern.findNext fn = none)
    (he : Extern.find fn = some (Extern.SlicesOverlaps.overlaps #[st, st] #[tR])) (T : TE P st t size bytes) (hS : Sat e w L) (i j : Nat) (hij : i ≠ j) (hi : L[i]? = some (blk a t cs)) (hj : L[j]? = some (blk b t2 cs2)) (h0 : cs2 ≠ [])
    (hK : K (.bool false) w) : Cl P g #[.slice (some ⟨a, ka, none⟩) la ca, .slice (some ⟨b, kb, none⟩) lb cb] w K := by
  obtain ⟨inf, z, hinf, z1, z2, z3, z4⟩ := T.inf
  have ha := hS.heap i hi
  have hb' := hS.heap j hj
  have hne : a ≠ b := by
    rintro rfl
    obtain ⟨hs, k1, k2, k3⟩ := hS.mem.parts
    have e1 : hs i a = some _ := k3 i _ hi
    have e2 : hs j a = some _ := k3 j _ hj
    rcases k1 i j hij a with h | h
    · rw [e1] at h; cases h
    · rw [e2] at h; cases h
  unfold Cl
  refine ex_congr (s' := oV (pure (.bool false))) ?_ (ex_oV (w' := w) (v := .bool false) rfl hK)
  rw [run_callFunc_extern hf hname hb hn he]
  rw [Lib.run_overlaps_apart w st tR t T.und size (fun w => by rw [run_sz hinf, z1]) ⟨a, ka, none⟩ ⟨b, kb, none⟩ la ca lb cb hne t t2 cs.length cs2.length (by simp [World.shape?, ha]) (by simp [World.shape?, hb']) (by simpa using h0) (by simp [World.frozen?, ha]) (by simp [World.frozen?, ha])]
  rfl
end

section
variable {P : Program} {w : World} {K : KV}
theorem quoI_s {a b : Int} (hb : b ≠ 0) (h1 : -9223372036854775808 ≤ a.tdiv b) (h2 : a.tdiv b ≤ 9223372036854775807) (h : K (.int .i64 (a.tdiv b)) w) : bi .quo .i64 (.int .i64 a) (.int .i64 b) w K :=
  ⟨a, b, rfl, rfl, fun _ => hb, by simp only [intBin, wrap_i64 h1 h2]; exact h⟩
/-- An element of an array that is a value. -/
theorem ixV_1 {t e : TypeId} {n j : Nat} {k : IntKind} {vs : List Value} {v : Value} (hu : P.underlying t = some (.array n e)) (ho : okT P e = true) (ha : isAggT P e = false) (hs : szD P e = 1) (hj : j < n) (hv : vs[j]? = some v) (h : K v w) : ixV P t (.agg vs.toArray) (.int k (j : Int)) w K := by
  obtain ⟨d, i, z, hd, hi, hz, hs', hg, hz'⟩ := okT_inv ho
  refine ex_oV (w' := w) (v := v) ?_ h
  unfold Instr.index
  simp only [Sem.run_bind, asIntOf, Sem.run_pure, Result.andThen_ok, run_und hu]
  rw [if_pos ⟨by omega, by omega⟩]
  simp only [Sem.run_bind, run_sz hi, Result.andThen_ok, Int.toNat_natCast]
  rw [← hs', hs, Nat.mul_one]
  exact run_part1 hd (hg ▸ ha) (by simpa using hv)
end

theorem wrL_take {cs vs : List Value} {j k : Nat} (h : j ≤ k) (hk : k ≤ cs.length) : (wrL cs k vs).take j = cs.take j := by
  unfold wrL
  rw [List.append_assoc, List.take_append_of_le_length (by rw [List.length_take]; omega), List.take_take, Nat.min_eq_left h]
theorem wrL_drop {cs vs : List Value} {k : Nat} (hk : k ≤ cs.length) : (wrL cs k vs).drop k = vs ++ cs.drop (k + vs.length) := by
  unfold wrL
  rw [List.append_assoc, List.drop_left' (by rw [List.length_take]; omega)]
theorem wrL_length {cs vs : List Value} {k : Nat} (hk : k + vs.length ≤ cs.length) : (wrL cs k vs).length = cs.length := by
  unfold wrL
  simp only [List.length_append, List.length_take, List.length_drop]
  omega
section
variable {α : Type} {f : α → List Value} {size : Nat}
theorem row_take {cs : List Value} {l : List α} (hf : ∀ x, (f x).length = size) (h : cs.take (l.length * size) = l.flatMap f) {i : Nat} (hi : i ≤ l.length) : cs.take (i * size) = (l.take i).flatMap f := by
  rw [← replicate_flatMap_take hf l i hi, ← h, List.take_take, Nat.min_eq_left (Nat.mul_le_mul_right _ hi)]
theorem row_drop {cs : List Value} {l : List α} (hf : ∀ x, (f x).length = size) (h : cs.take (l.length * size) = l.flatMap f) {i : Nat} (hi : i ≤ l.length) : (cs.drop (i * size)).take ((l.length - i) * size) = (l.drop i).flatMap f := by
  have e1 : (cs.drop (i * size)).take ((l.length - i) * size) = (cs.take (l.length * size)).drop (i * size) := by
    rw [List.drop_take]
    congr 1
    rw [← Nat.sub_mul]
  rw [e1, h]
  have e2 : l.flatMap f = (l.take i).flatMap f ++ (l.drop i).flatMap f := by rw [← List.flatMap_append, List.take_append_drop]
  rw [e2, List.drop_left' (by rw [flatMap_length hf, List.length_take, Nat.min_eq_left hi])]
end
end Go.E
