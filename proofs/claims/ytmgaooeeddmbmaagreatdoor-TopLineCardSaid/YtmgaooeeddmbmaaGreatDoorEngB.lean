/- The engine, part B: each operation's shallow form is sound. Conditions: none. -/
import Derived.Test.YtmgaooeeddmbmaaGreatDoorEngA
namespace Go.E
open Go.RowKit
section
variable {P : Program} {f : Operand → Value} {w : World} {K : KV}

theorem okT_inv {t : TypeId} (h : okT P t = true) : ∃ d i z, P.underlying t = some d ∧ P.info? t = some i ∧ i.zero = some z ∧ szD P t = i.size ∧ isAggT P t = isAggD d ∧ zeroD P t = z.cells := by
  unfold okT at h
  simp only [Bool.and_eq_true] at h
  obtain ⟨⟨h1, h2⟩, h3⟩ := h
  obtain ⟨d, hd⟩ := Option.isSome_iff_exists.1 h1
  obtain ⟨i, hi⟩ := Option.isSome_iff_exists.1 h2
  rw [hi] at h3
  obtain ⟨z, hz⟩ := Option.isSome_iff_exists.1 h3
  simp at hz
  exact ⟨d, i, z, hd, hi, hz, by simp [szD, hi], by simp [isAggT, hd], by simp [zeroD, hi, hz]⟩

theorem run_und {t : TypeId} {d : TypeDesc} (h : P.underlying t = some d) (w : World) : (underlying t).run P w = .ok d w := by
  simp [underlying, program, h, Sem.run]
theorem run_ti {t : TypeId} {i : TypeInfo} (h : P.info? t = some i) (w : World) : (typeInfo t).run P w = .ok i w := by
  simp [typeInfo, program, h, Sem.run]
theorem run_sz {t : TypeId} {i : TypeInfo} (h : P.info? t = some i) (w : World) : (sizeOf t).run P w = .ok i.size w := by
  simp [sizeOf, run_ti h]
theorem run_zero {t : TypeId} {i : TypeInfo} {z : Value} (h : P.info? t = some i) (hz : i.zero = some z) (w : World) : (zeroValue t).run P w = .ok z w := by
  simp [zeroValue, run_ti h, hz]
theorem run_isAgg {t : TypeId} {d : TypeDesc} (h : P.underlying t = some d) (w : World) : (isAgg t).run P w = .ok (isAggD d) w := by
  cases d <;> simp [isAgg, run_und h, isAggD]

theorem run_load1 {a : Addr} {v : Value} (h : w.cell? a = some v) : (load a).run P w = .ok v w := by simp [load, Sem.run, h]

theorem run_cellsFrom {a : Addr} : ∀ (vs : List Value) (i : Nat) (acc : Array Value), (∀ j v, vs[j]? = some v → w.cell? (a.add (i + j)) = some v) →
    (loadCellsFrom a i vs.length acc).run P w = .ok (acc ++ vs.toArray) w
  | [], i, acc, _ => by simp [loadCellsFrom]
  | v :: vs, i, acc, h => by
    have h0 := h 0 v rfl
    simp only [Nat.add_zero] at h0
    have ih := run_cellsFrom vs (i + 1) (acc.push v) (fun j u hj => by
      have := h (j + 1) u (by simpa using hj)
      rw [show i + 1 + j = i + (j + 1) from by omega]; exact this)
    simp only [List.length_cons, loadCellsFrom, Sem.run_bind, run_load1 h0, Result.andThen_ok]
    rw [ih]
    simp

theorem run_cells {a : Addr} {vs : List Value} (h : CellsAt w a vs) : (loadCells a vs.length).run P w = .ok vs.toArray w := by
  unfold loadCells
  rw [run_cellsFrom vs 0 #[] (fun j v hj => by rw [Nat.zero_add]; exact h j v hj)]
  simp

theorem run_loadVarN {t : TypeId} {d : TypeDesc} {i : TypeInfo} (hd : P.underlying t = some d) (hi : P.info? t = some i) (hg : isAggD d = true) {a : Addr} {vs : List Value} (hn : vs.length = i.size) (h : CellsAt w a vs) :
    (loadVar t a).run P w = .ok (.agg vs.toArray) w := by
  simp only [loadVar, Sem.run_bind, run_isAgg hd, Result.andThen_ok, hg, if_true, run_sz hi, ← hn, run_cells h, Sem.run_pure]
theorem run_loadVar1 {t : TypeId} {d : TypeDesc} (hd : P.underlying t = some d) (hg : isAggD d = false) {a : Addr} {v : Value} (h : w.cell? a = some v) :
    (loadVar t a).run P w = .ok v w := by
  simp only [loadVar, Sem.run_bind, run_isAgg hd, Result.andThen_ok, hg, Bool.false_eq_true, if_false, run_load1 h]

theorem run_store1 {a : Addr} {v u : Value} (hv : flat v = true) (h : w.cell? a = some u) (hf : w.frozen? a = false) : (store a v).run P w = .ok () (w.setCell a v) := by
  cases v <;> simp [flat] at hv <;> simp [store, Sem.run, h, hf]

theorem cell_isSome_setCell (a b : Addr) (v : Value) (h : (w.cell? b).isSome = true) : ((w.setCell a v).cell? b).isSome = true := by
  obtain ⟨u, hu⟩ := Option.isSome_iff_exists.1 h
  obtain ⟨v', hv'⟩ := cell?_setCell_some (w := w) (p := a) (x := v) (q := b) (v := u) hu
  rw [hv']
  rfl
theorem run_storeCells {a : Addr} : ∀ (vs : List Value) (i : Nat) (w : World), (∀ c ∈ vs, flat c = true) → (∀ j, i ≤ j → j < i + vs.length → (w.cell? (a.add j)).isSome = true ∧ w.frozen? (a.add j) = false) →
    (storeCells a vs i).run P w = .ok () (setCs w a i vs)
  | [], i, w, _, _ => by simp [storeCells, setCs]
  | v :: vs, i, w, hv, h => by
    obtain ⟨h1, h2⟩ := h i (Nat.le_refl _) (by simp)
    obtain ⟨u, hu⟩ := Option.isSome_iff_exists.1 h1
    have hs : (store (a.add i) v).run P w = .ok () (w.setCell (a.add i) v) := run_store1 (hv v (by simp)) hu h2
    have ih := run_storeCells vs (i + 1) (w.setCell (a.add i) v) (fun c hc => hv c (by simp [hc])) (fun j h3 h4 => by
      obtain ⟨h5, h6⟩ := h j (by omega) (by simp at h4 ⊢; omega)
      exact ⟨cell_isSome_setCell _ _ _ h5, by rw [World.frozen?_setCell]; exact h6⟩)
    simp only [storeCells, setCs, Sem.run_bind, hs, Result.andThen_ok]
    exact ih

theorem run_storeVar {t : TypeId} {i : TypeInfo} (hi : P.info? t = some i) {a : Addr} {v : Value} (hn : v.cells.toList.length = i.size) (hf : ∀ c ∈ v.cells.toList, flat c = true) (hc : CanSet w a i.size) :
    (storeVar t a v).run P w = .ok () (setCs w a 0 v.cells.toList) := by
  have hn' : v.cells.size = i.size := by simpa using hn
  have hs : (storeCells a v.cells.toList 0).run P w = .ok () (setCs w a 0 v.cells.toList) :=
    run_storeCells v.cells.toList 0 w hf (fun j _ h2 => hc j (by rw [hn] at h2; omega))
  simp only [storeVar, Sem.run_bind, run_sz hi, Result.andThen_ok, hn', ne_eq, not_true_eq_false, if_false]
  exact hs

theorem ex_oV {s : Sem Value} {v : Value} {w' : World} (h : s.run P w = .ok v w') (hk : K v w') : ex P (oV s) w K := by
  unfold ex oV
  simp only [Sem.run_bind, h, Result.andThen_ok, Sem.run_pure]
  exact hk
theorem ex_oU {s : Sem Unit} {w' : World} (h : s.run P w = .ok () w') (hk : K undef w') : ex P (oU s) w K := by
  unfold ex oU
  simp only [Sem.run_bind, h, Result.andThen_ok, Sem.run_pure]
  exact hk
theorem ex_oV_inv {s : Sem Value} (h : ex P (oV s) w K) : ∃ v w', s.run P w = .ok v w' ∧ K v w' := by
  unfold ex oV at h
  simp only [Sem.run_bind] at h
  cases hs : s.run P w with
  | ok v w' => rw [hs] at h; simp only [Result.andThen_ok, Sem.run_pure] at h; exact ⟨v, w', rfl, h⟩
  | halt x w' => rw [hs] at h; simp at h

theorem run_callFunc {g : FuncId} {args : Array Value} (hb : hasBody P g = true) : (callFunc g args).run P w = .ok (.enter g args) w := by
  unfold hasBody at hb
  cases hf : P.funcs[g]? with
  | none => rw [hf] at hb; simp at hb
  | some fn =>
    rw [hf] at hb
    simp only [Bool.and_eq_true, Bool.not_eq_true'] at hb
    obtain ⟨h1, h2⟩ := hb
    have h3 : fn.body.isNone = false := by cases hbd : fn.body <;> simp_all
    simp only [callFunc, program, Sem.run_bind, Sem.run, Result.andThen_ok, hf, h2, h3, Bool.false_eq_true, if_false]
    rfl

theorem ex_enter {s : Sem Next} {g : FuncId} {args : Array Value} (h : s.run P w = .ok (.enter g args) w) (hk : CallsR P g args w K) : ex P s w K := by
  unfold ex
  rw [h]
  exact hk

theorem Cl.mk {g : FuncId} {args : Array Value} (hb : hasBody P g = true) (h : CallsR P g args w K) : Cl P g args w K := ex_enter (run_callFunc hb) h
theorem Cl.ret {g : FuncId} {args : Array Value} (hb : hasBody P g = true) (h : Cl P g args w K) : CallsR P g args w K := by
  unfold Cl ex at h
  rw [run_callFunc hb] at h
  exact h
theorem ex_congr {s s' : Sem Next} (e : s.run P w = s'.run P w) (h : ex P s' w K) : ex P s w K := by
  unfold ex at h ⊢
  rw [e]
  exact h

theorem run_fields (w : World) : ∀ (l : List Field), l.all (fun g => okT P g.type) = true →
    (l.mapM (m := Sem) fun g => do pure (g.offset, ← sizeOf g.type)).run P w = .ok (l.map fun g => (g.offset, szD P g.type)) w
  | [], _ => by simp
  | g :: l, h => by
    simp only [List.all_cons, Bool.and_eq_true] at h
    obtain ⟨d, i, z, hd, hi, hz, hs, hg, hz'⟩ := okT_inv h.1
    have ih := run_fields w l h.2
    simp only [List.mapM_cons, Sem.run_bind, run_sz hi, Result.andThen_ok, Sem.run_pure, ih, hs, List.map_cons]

theorem run_bound {x : Value} {y r : Nat} {k : IntKind} {i : Int} (hx : x = .int k i) (h0 : 0 ≤ i) (hr : r = i.toNat) (hy : r ≤ y) (c : BoundsCode) : (Instr.sliceBound x y c).run P w = .ok r w := by
  subst hx
  have h2 : i ≤ y := by omega
  simp [Instr.sliceBound, asIntOf, h0, h2, hr]

theorem run_bounds {lo hi : Option Value} {n c l h : Nat} (hl : bnd lo 0 l) (hh : bnd hi n h) (h1 : l ≤ h) (h2 : h ≤ c) (b : Bool) :
    (Instr.sliceBounds b n c lo hi none).run P w = .ok (l, h, c) w := by
  unfold Instr.sliceBounds
  cases hi with
  | none =>
    unfold bnd at hh
    subst hh
    cases lo with
    | none => unfold bnd at hl; subst hl; simp
    | some v =>
      obtain ⟨k, i, hv, h0, hr⟩ := hl
      simp only [Sem.run_bind, Sem.run_pure, Result.andThen_ok, run_bound hv h0 hr h1]
  | some u =>
    obtain ⟨k', i', hv', h0', hr'⟩ := hh
    cases lo with
    | none => unfold bnd at hl; subst hl; simp only [Sem.run_bind, Sem.run_pure, Result.andThen_ok, run_bound hv' h0' hr' h2]
    | some v =>
      obtain ⟨k, i, hv, h0, hr⟩ := hl
      simp only [Sem.run_bind, Sem.run_pure, Result.andThen_ok, run_bound hv h0 hr h1, run_bound hv' h0' hr' h2]

theorem run_intBin {op : BinOp} {k : IntKind} {a b : Int} (t : TypeId) (hd : isDiv op = true → b ≠ 0) (hop : op = .add ∨ op = .sub ∨ op = .mul ∨ op = .quo ∨ op = .rem ∨ op = .eql ∨ op = .neq ∨ op = .lss ∨ op = .leq ∨ op = .gtr ∨ op = .geq) :
    (binOp op t (.int k a) (.int k b)).run P w = .ok (intBin op k a b) w := by
  rcases hop with rfl | rfl | rfl | rfl | rfl | rfl | rfl | rfl | rfl | rfl | rfl <;>
    simp [binOp, Op.intArith, Op.intDiv, Op.intCmp, intBin, isDiv] at hd ⊢ <;> simp [hd]

theorem run_guard_int {op : BinOp} {t : TypeId} {x y : Operand} {k : IntKind} {a b : Int} : (eqGuard op t x y (.int k a) (.int k b)).run P w = .ok () w := by
  cases op <;> rfl

theorem semOp_bi {op : BinOp} {k : IntKind} {t u : TypeId} {x y : Operand} {dst : Option Tmp} {ty : TypeId} {pos : String} {af : Array Edge} {g : Option (Nat × Bool)}
    (hop : op = .add ∨ op = .sub ∨ op = .mul ∨ op = .quo ∨ op = .rem ∨ op = .eql ∨ op = .neq ∨ op = .lss ∨ op = .leq ∨ op = .gtr ∨ op = .geq) (h : bi op k (f x) (f y) w K) :
    ex P (execOp f ⟨dst, .binOp op t x y u, ty, pos, af, g⟩) w K := by
  obtain ⟨a, b, hx, hy, hd, hk⟩ := h
  refine ex_oV (s := do eqGuard op t x y (f x) (f y); binOp op t (f x) (f y)) ?_ hk
  rw [hx, hy]
  simp only [Sem.run_bind, run_guard_int, Result.andThen_ok, run_intBin t hd hop]

section
variable {dst : Option Tmp} {ty : TypeId} {pos : String} {af : Array Edge} {g : Option (Nat × Bool)}
theorem so_pick {c a b : Operand} (h : pk (f c) (f a) (f b) w K) : ex P (execOp f ⟨dst, .pick c a b, ty, pos, af, g⟩) w K := by
  obtain ⟨q, hq, hk⟩ := h
  unfold ex execOp
  simp only [hq, asBool, Sem.run_bind, Sem.run_pure, Result.andThen_ok]
  cases q
  · exact hk
  · exact hk

theorem so_alloc {e : TypeId} (h : semOp P ⟨dst, .alloc e, ty, pos, af, g⟩ f w K) : ex P (execOp f ⟨dst, .alloc e, ty, pos, af, g⟩) w K := by
  unfold semOp at h
  simp only at h
  split at h
  · rename_i ho
    obtain ⟨d, i, z, hd, hi, hz, hs, hg, hz'⟩ := okT_inv ho
    unfold al at h
    refine ex_oV (s := Instr.alloc e true (.tuple #[])) ?_ h
    simp only [Instr.alloc, Sem.run_bind, run_zero hi hz, Result.andThen_ok, newVar, newRow, newObj, Sem.run, Sem.run_pure, hz', World.alloc]
  · exact h.elim

theorem so_box {e : TypeId} {x : Operand} (h : al (f x).cells e w K) : ex P (execOp f ⟨dst, .box e x, ty, pos, af, g⟩) w K := by
  refine ex_oV (s := Instr.box e (f x)) (w' := w.alloc (.cells (f x).cells e)) ?_ h
  simp only [Instr.box, newVar, newRow, newObj, Sem.run_bind, Sem.run, Sem.run_pure, Result.andThen_ok, World.alloc]

theorem run_buildS {t : TypeId} {i : TypeInfo} {z : Value} {fs : Array Field} {parts : Array (Nat × Value)} {cells : Array Value} (hi : P.info? t = some i) (hz : i.zero = some z) (hu : P.underlying t = some (.struct fs)) (hall : (fs.all fun g => okT P g.type) = true)
    (hc : Instr.fill ((fs.map fun g => (g.offset, szD P g.type))[·]?) z.cells parts.toList = some cells) : (Instr.build t parts).run P w = .ok (.agg cells) w := by
  have hfs := run_fields w fs.toList (by simpa using hall)
  have hm : (fs.mapM (m := Sem) fun g => do pure (g.offset, ← sizeOf g.type)).run P w = .ok (fs.map fun g => (g.offset, szD P g.type)) w := by
    rw [Array.mapM_eq_mapM_toList]
    simp only [Sem.run_map, hfs, Result.andThen_ok]
    simp
    rw [← Array.toList_map]
  simp only [Instr.build, Sem.run_bind, run_zero hi hz, Result.andThen_ok, run_und hu, hm, hc, Sem.run_pure]
theorem run_buildA {t e : TypeId} {len : Nat} {i i1 : TypeInfo} {z : Value} {parts : Array (Nat × Value)} {cells : Array Value} (hi : P.info? t = some i) (hz : i.zero = some z) (hu : P.underlying t = some (.array len e)) (hi1 : P.info? e = some i1)
    (hc : Instr.fill (fun j => some (j * i1.size, i1.size)) z.cells parts.toList = some cells) : (Instr.build t parts).run P w = .ok (.agg cells) w := by
  simp only [Instr.build, Sem.run_bind, run_zero hi hz, Result.andThen_ok, run_und hu, run_sz hi1, hc, Sem.run_pure]

theorem so_build {t : TypeId} {parts : Array (Nat × Operand)} (h : semOp P ⟨dst, .build t parts, ty, pos, af, g⟩ f w K) : ex P (execOp f ⟨dst, .build t parts, ty, pos, af, g⟩) w K := by
  unfold semOp at h
  simp only at h
  split at h
  · rename_i fs hu ho
    split at h
    · rename_i hall
      obtain ⟨d, i, z, hd, hi, hz, hs, hg, hz'⟩ := okT_inv ho
      obtain ⟨cells, hc, hk⟩ := h
      rw [hz'] at hc
      exact ex_oV (s := Instr.build t (parts.map fun (i, x) => (i, f x))) (run_buildS hi hz hu hall hc) hk
    · exact h.elim
  · rename_i len e hu ho
    split at h
    · rename_i hoe
      obtain ⟨d, i, z, hd, hi, hz, hs, hg, hz'⟩ := okT_inv ho
      obtain ⟨d1, i1, z1, hd1, hi1, hz1, hs1, hg1, hz1'⟩ := okT_inv hoe
      obtain ⟨cells, hc, hk⟩ := h
      rw [hz', hs1] at hc
      have hr := run_buildA (w := w) (parts := parts.map fun (i, x) => (i, f x)) hi hz hu hi1 hc
      have h3 := ex_oV (K := K) hr hk
      exact h3
    · exact h.elim
  · exact h.elim

theorem run_bsl {t e : TypeId} {len : Nat} {i : TypeInfo} {z : Value} {parts : Array (Nat × Value)} {cells zero : Array Value} (hi : P.info? e = some i) (hz : i.zero = some z) (hu : P.underlying t = some (.slice e)) (hl : len * i.size ≤ 65536)
    (hzz : zero = if len * i.size = 0 then #[] else z.cells)
    (hc : Instr.fill (fun j => some (j * i.size, i.size)) ((Array.range (len * i.size)).map (zero[· % zero.size]!)) parts.toList = some cells) :
    (Instr.buildSlice t len parts).run P w = .ok (.slice (some ⟨w.heap.size, 0, none⟩) len len) (w.alloc (.cells cells e)) := by
  have hl' : ¬ len * i.size > 2 ^ 24 := by omega
  subst hzz
  by_cases h0 : len * i.size = 0
  · rw [if_pos h0] at hc
    simp only [Instr.buildSlice, Sem.run_bind, run_und hu, Result.andThen_ok, run_sz hi, hl', if_false, Sem.run_pure, if_pos h0, hc, newRow, newObj, Sem.run, World.alloc]
  · rw [if_neg h0] at hc
    simp only [Instr.buildSlice, Sem.run_bind, run_und hu, Result.andThen_ok, run_sz hi, hl', if_false, Sem.run_pure, if_neg h0, run_zero hi hz, hc, newRow, newObj, Sem.run, World.alloc]

theorem so_buildSlice {t : TypeId} {len : Nat} {parts : Array (Nat × Operand)} (h : semOp P ⟨dst, .buildSlice t len parts, ty, pos, af, g⟩ f w K) : ex P (execOp f ⟨dst, .buildSlice t len parts, ty, pos, af, g⟩) w K := by
  unfold semOp at h
  simp only at h
  split at h
  · rename_i e hu
    split at h
    · rename_i ho h0
      simp only [Bool.and_eq_true, decide_eq_true_eq] at ho h0
      obtain ⟨d, i, z, hd, hi, hz, hs, hg, hz'⟩ := okT_inv ho.1
      obtain ⟨cells, hc, hk⟩ := h
      rw [hs] at hc h0 ho
      have hr := run_bsl (w := w) (parts := parts.map fun (i, x) => (i, f x)) hi hz hu ho.2 (by rw [if_pos h0]) hc
      have h3 := ex_oV (K := K) hr hk
      exact h3
    · rename_i ho h0
      simp only [Bool.and_eq_true, decide_eq_true_eq, decide_eq_false_iff_not] at ho h0
      obtain ⟨d, i, z, hd, hi, hz, hs, hg, hz'⟩ := okT_inv ho.1
      obtain ⟨cells, hc, hk⟩ := h
      rw [hs, hz'] at hc
      rw [hs] at h0 ho
      have hr := run_bsl (w := w) (parts := parts.map fun (i, x) => (i, f x)) hi hz hu ho.2 (by rw [if_neg h0]) hc
      have h3 := ex_oV (K := K) hr hk
      exact h3
    · exact h.elim
  · exact h.elim

theorem so_load {t : TypeId} {a : Operand} (h : semOp P ⟨dst, .load t a, ty, pos, af, g⟩ f w K) : ex P (execOp f ⟨dst, .load t a, ty, pos, af, g⟩) w K := by
  unfold semOp at h
  simp only at h
  split at h
  · rename_i ho ha
    obtain ⟨d, i, z, hd, hi, hz, hs, hg, hz'⟩ := okT_inv ho
    obtain ⟨a', vs, hx, hn, hc, hk⟩ := h
    refine ex_oV (s := Instr.loadAt t (f a)) ?_ hk
    rw [hx]
    simp only [Instr.loadAt, Instr.sureAddr, Sem.run_bind, Sem.run_pure, Result.andThen_ok]
    exact run_loadVarN hd hi (hg ▸ ha) (hs ▸ hn) hc
  · rename_i ho ha
    obtain ⟨d, i, z, hd, hi, hz, hs, hg, hz'⟩ := okT_inv ho
    obtain ⟨a', v, hx, hc, hk⟩ := h
    refine ex_oV (s := Instr.loadAt t (f a)) ?_ hk
    rw [hx]
    simp only [Instr.loadAt, Instr.sureAddr, Sem.run_bind, Sem.run_pure, Result.andThen_ok]
    exact run_loadVar1 hd (hg ▸ ha) hc
  · exact h.elim

theorem so_store {t : TypeId} {a x : Operand} (h : semOp P ⟨dst, .store t a x, ty, pos, af, g⟩ f w K) : ex P (execOp f ⟨dst, .store t a x, ty, pos, af, g⟩) w K := by
  unfold semOp at h
  simp only at h
  split at h
  · rename_i ho
    obtain ⟨d, i, z, hd, hi, hz, hs, hg, hz'⟩ := okT_inv ho
    obtain ⟨a', hx, hn, hf, hc, hk⟩ := h
    refine ex_oU (s := Instr.storeAt t (f a) (f x)) ?_ hk
    rw [hx]
    simp only [Instr.storeAt, Instr.sureAddr, Sem.run_bind, Sem.run_pure, Result.andThen_ok]
    exact run_storeVar hi (hs ▸ hn) hf (hs ▸ hc)
  · exact h.elim

theorem so_nilCheck {x : Operand} (h : nc (f x) w K) : ex P (execOp f ⟨dst, .nilCheck x, ty, pos, af, g⟩) w K := by
  obtain ⟨h1, h2⟩ := h
  unfold execOp ex
  simp only
  generalize f x = v at *
  cases v with
  | pointer a => cases a <;> simp [notNil] at h1 ⊢; exact h2
  | func fn first captured => cases fn <;> simp [notNil] at h1 ⊢ <;> exact h2
  | nilFunc => simp [notNil] at h1
  | nilIface => simp [notNil] at h1
  | _ => exact h2

theorem eqIn_bool {t : TypeId} (n : Nat) (a b : Bool) (hu : P.underlying t = some .bool) : (Op.equalIn (n + 1) t (.bool a) (.bool b)).run P w = .ok (a == b) w := by
  simp only [Op.equalIn, Sem.run_bind, run_und hu, Result.andThen_ok, Sem.run_pure]
theorem eqIn_nil {t e : TypeId} (n : Nat) (a : Option Addr) (hu : P.underlying t = some (.pointer e)) : (Op.equalIn (n + 1) t (.pointer a) (.pointer none)).run P w = .ok a.isNone w := by
  cases a <;> simp [Op.equalIn, run_und hu]
theorem run_eq_bool {t : TypeId} (a b : Bool) (hu : P.underlying t = some .bool) : (Op.equal t (.bool a) (.bool b)).run P w = .ok (a == b) w := eqIn_bool 9999 a b hu
theorem run_eq_nil {t e : TypeId} (a : Option Addr) (hu : P.underlying t = some (.pointer e)) : (Op.equal t (.pointer a) (.pointer none)).run P w = .ok a.isNone w := eqIn_nil 9999 a hu
theorem so_bb {op : BinOp} {t u : TypeId} {x y : Operand} (hop : op = .eql ∨ op = .neq) (hu : P.underlying t = some .bool) (h : bb op (f x) (f y) w K) : ex P (execOp f ⟨dst, .binOp op t x y u, ty, pos, af, g⟩) w K := by
  obtain ⟨a, b, hx, hy, hk⟩ := h
  refine ex_oV (s := do eqGuard op t x y (f x) (f y); binOp op t (f x) (f y)) ?_ hk
  rw [hx, hy]
  rcases hop with rfl | rfl
  · simp only [eqGuard, binOp, Sem.run_bind, run_eq_bool a b hu, Result.andThen_ok, Sem.run_pure]; rfl
  · simp only [eqGuard, binOp, Sem.run_bind, run_eq_bool a b hu, Result.andThen_ok, Sem.run_pure]; rfl
theorem so_bn {op : BinOp} {t e u : TypeId} {x : Operand} (hc : ∀ v, f (.const v) = v) (hop : op = .eql ∨ op = .neq) (hu : P.underlying t = some (.pointer e)) (h : bn op (f x) w K) : ex P (execOp f ⟨dst, .binOp op t x (.const (.pointer none)) u, ty, pos, af, g⟩) w K := by
  obtain ⟨a, hx, hk⟩ := h
  refine ex_oV (s := do eqGuard op t x (.const (.pointer none)) (f x) (f (.const (.pointer none))); binOp op t (f x) (f (.const (.pointer none)))) ?_ hk
  rw [hx, hc]
  rcases hop with rfl | rfl
  · simp only [eqGuard, binOp, Sem.run_bind, run_eq_nil a hu, Result.andThen_ok, Sem.run_pure]; rfl
  · simp only [eqGuard, binOp, Sem.run_bind, run_eq_nil a hu, Result.andThen_ok, Sem.run_pure]; rfl

theorem so_not {t : TypeId} {x : Operand} (h : bnot (f x) w K) : ex P (execOp f ⟨dst, .unOp .not t x, ty, pos, af, g⟩) w K := by
  obtain ⟨q, hx, hk⟩ := h
  refine ex_oV (s := Op.unary .not (f x)) ?_ hk
  rw [hx]
  rfl
theorem so_cvI {s d : TypeId} {x : Operand} {j k : IntKind} (hs : P.underlying s = some (.int j)) (hd : P.underlying d = some (.int k)) (h : cvI k (f x) w K) : ex P (execOp f ⟨dst, .convert s d x, ty, pos, af, g⟩) w K := by
  obtain ⟨j', n, hx, hk⟩ := h
  refine ex_oV (s := convert s d (f x)) ?_ hk
  rw [hx]
  simp only [convert, Sem.run_bind, run_und hs, run_und hd, Result.andThen_ok, Conv.intToInt, Sem.run_pure]
theorem so_mkI {t : TypeId} {x : Operand} (h : semOp P ⟨dst, .makeInterface t x, ty, pos, af, g⟩ f w K) : ex P (execOp f ⟨dst, .makeInterface t x, ty, pos, af, g⟩) w K := by
  unfold semOp at h
  simp only at h
  split at h
  · exact h.elim
  · rename_i d hne hd
    refine ex_oV (s := Instr.makeInterface t (f x)) ?_ h
    cases d <;> simp_all [Instr.makeInterface, run_und hd]
  · exact h.elim
theorem so_mkMap {t : TypeId} (h : mkMap w K) : ex P (execOp f ⟨dst, .makeMap t none, ty, pos, af, g⟩) w K := by
  refine ex_oV (s := Instr.makeMap t (Option.map f none)) (w' := w.alloc (.map #[] 0)) ?_ h
  simp only [Instr.makeMap, Option.map_none, newObj, Sem.run_bind, Sem.run, Sem.run_pure, Result.andThen_ok, World.alloc]
theorem so_slice {t : TypeId} {x : Operand} {lo hi : Option Operand} {e : TypeId} (hu : P.underlying t = some (.slice e)) (ho : okT P e = true) (h : slc (szD P e) (f x) (lo.map f) (hi.map f) w K) :
    ex P (execOp f ⟨dst, .slice t x lo hi none, ty, pos, af, g⟩) w K := by
  obtain ⟨d, i, z, hd, hi', hz, hs, hg, hz'⟩ := okT_inv ho
  obtain ⟨a, n, c, l, hh, hx, hl, hh', h1, h2, hk⟩ := h
  refine ex_oV (s := Instr.sliceAt t (f x) (lo.map f) (hi.map f) (Option.map f none)) ?_ hk
  rw [hx, hs]
  simp only [Instr.sliceAt, Instr.slice, Option.map_none, Sem.run_bind, run_und hu, Result.andThen_ok, run_bounds hl hh' h1 h2, run_sz hi', Sem.run_pure]
theorem so_fieldAddr {s : TypeId} {x : Operand} {n : Nat} (h : semOp P ⟨dst, .fieldAddr s x n, ty, pos, af, g⟩ f w K) : ex P (execOp f ⟨dst, .fieldAddr s x n, ty, pos, af, g⟩) w K := by
  unfold semOp at h
  simp only at h
  split at h
  · rename_i fd hfd
    split at h
    · rename_i ho h0
      obtain ⟨d, i, z, hd, hi, hz, hs, hg, hz'⟩ := okT_inv ho
      obtain ⟨a, hx, hk⟩ := h
      refine ex_oV (s := Instr.fieldAt s (f x) n) ?_ hk
      unfold fieldOf at hfd
      split at hfd
      · rename_i fs hfs
        have h0' : ¬ i.size = 0 := by rw [← hs]; simpa using h0
        rw [hx]
        simp only [Instr.fieldAt, Sem.run_bind, run_und hfs, Result.andThen_ok, hfd, Instr.sureAddr, Sem.run_pure, fieldPlace, run_sz hi, if_neg h0']
      · cases hfd
    · exact h.elim
  · exact h.elim
theorem run_part1 {t : TypeId} {d : TypeDesc} {cs : Array Value} {off : Nat} {v : Value} (hd : P.underlying t = some d) (hg : isAggD d = false) (hv : cs[off]? = some v) : (part t cs off).run P w = .ok v w := by
  simp only [part, Sem.run_bind, run_isAgg hd, Result.andThen_ok, hg, Bool.false_eq_true, if_false, hv, Sem.run_pure]
theorem run_partN {t : TypeId} {d : TypeDesc} {i : TypeInfo} {cs : Array Value} {off : Nat} (hd : P.underlying t = some d) (hi : P.info? t = some i) (hg : isAggD d = true) : (part t cs off).run P w = .ok (.agg (cs.extract off (off + i.size))) w := by
  simp only [part, Sem.run_bind, run_isAgg hd, Result.andThen_ok, hg, if_true, run_sz hi, Sem.run_pure]
theorem so_field {s : TypeId} {x : Operand} {n : Nat} (h : semOp P ⟨dst, .field s x n, ty, pos, af, g⟩ f w K) : ex P (execOp f ⟨dst, .field s x n, ty, pos, af, g⟩) w K := by
  unfold semOp at h
  simp only at h
  split at h
  · rename_i fd hfd
    unfold fieldOf at hfd
    split at hfd
    · rename_i fs hfs
      split at h
      · rename_i ho h0
        obtain ⟨d, i, z, hd, hi, hz, hs, hg, hz'⟩ := okT_inv ho
        obtain ⟨cs, hx, hk⟩ := h
        refine ex_oV (s := Instr.field s (f x) n) ?_ hk
        rw [hx, hs]
        simp only [Instr.field, Sem.run_bind, run_und hfs, Result.andThen_ok, hfd, asAgg, Sem.run_pure]
        exact run_partN hd hi (hg ▸ h0)
      · rename_i ho h0
        obtain ⟨d, i, z, hd, hi, hz, hs, hg, hz'⟩ := okT_inv ho
        obtain ⟨cs, v, hx, hv, hk⟩ := h
        refine ex_oV (s := Instr.field s (f x) n) ?_ hk
        rw [hx]
        simp only [Instr.field, Sem.run_bind, run_und hfs, Result.andThen_ok, hfd, asAgg, Sem.run_pure]
        exact run_part1 hd (hg ▸ h0) hv
      · exact h.elim
    · cases hfd
  · exact h.elim
theorem so_indexAddr {t : TypeId} {x i : Operand} (h : semOp P ⟨dst, .indexAddr t x i, ty, pos, af, g⟩ f w K) : ex P (execOp f ⟨dst, .indexAddr t x i, ty, pos, af, g⟩) w K := by
  unfold semOp at h
  simp only at h
  split at h
  · rename_i e hu
    split at h
    · rename_i ho
      obtain ⟨d, i', z, hd, hi, hz, hs, hg, hz'⟩ := okT_inv ho
      obtain ⟨a, n, c, k, j, hx, hj, h0, h1, hk⟩ := h
      refine ex_oV (s := Instr.indexAt t (f x) (f i)) ?_ hk
      rw [hx, hj, hs]
      simp [Instr.indexAt, asIntOf, run_und hu, h0, h1, run_sz hi]
    · exact h.elim
  · rename_i len e hu
    split at h
    · rename_i ho
      obtain ⟨d, i', z, hd, hi, hz, hs, hg, hz'⟩ := okT_inv ho
      obtain ⟨a, k, j, hx, hj, h0, h1, hk⟩ := h
      refine ex_oV (s := Instr.indexAt t (f x) (f i)) ?_ hk
      rw [hx, hj, hs]
      simp [Instr.indexAt, asIntOf, run_und hu, h0, h1, run_sz hi, Instr.sureAddr]
    · exact h.elim
  · exact h.elim
theorem so_extract {x : Operand} {i : Nat} (h : xt i (f x) w K) : ex P (execOp f ⟨dst, .extract x i, ty, pos, af, g⟩) w K := by
  obtain ⟨vs, v, hx, hv, hk⟩ := h
  refine ex_oV (s := Instr.extract (f x) i) ?_ hk
  rw [hx]
  simp only [Instr.extract, hv, Sem.run_pure]
theorem so_call {g' : FuncId} {c : Call} (hfn : ∀ g, f (.func g) = .func (.func g) #[] #[]) (hcal : c.callee = .value (.func g')) (h : Cl P g' (c.args.map f) w K) : ex P (execOp f ⟨dst, .call c, ty, pos, af, g⟩) w K := by
  refine ex_congr ?_ h
  simp only [execOp, resolve, hcal, hfn, Deferred.ofValue, Sem.run_bind, Sem.run_pure, Result.andThen_ok, invoke]
  simp
theorem so_clV {t : Tmp} {c : Call} (hcal : c.callee = .value (.tmp t)) (h : clV P (f (.tmp t)) (c.args.map f) w K) : ex P (execOp f ⟨dst, .call c, ty, pos, af, g⟩) w K := by
  obtain ⟨fn, first, captured, hx, hk⟩ := h
  unfold clF at hk
  split at hk
  · refine ex_congr ?_ hk
    simp only [execOp, resolve, hcal, hx, Deferred.ofValue, Sem.run_bind, Sem.run_pure, Result.andThen_ok, invoke]
  · refine ex_congr ?_ hk
    simp only [execOp, resolve, hcal, hx, Deferred.ofValue, Sem.run_bind, Sem.run_pure, Result.andThen_ok, invoke]
  · exact hk.elim

theorem so_binOp {op : BinOp} {t u : TypeId} {x y : Operand} (hc : ∀ v, f (.const v) = v) (h : semOp P ⟨dst, .binOp op t x y u, ty, pos, af, g⟩ f w K) : ex P (execOp f ⟨dst, .binOp op t x y u, ty, pos, af, g⟩) w K := by
  unfold semOp at h
  simp only at h
  split at h
  all_goals first
    | exact semOp_bi (by simp) h
    | (rename_i hu; exact so_bb (by simp) hu h)
    | (rename_i hu; split at h; · exact so_bn hc (by simp) hu h
       · exact h)
    | exact h

theorem run_len_slice {t e : TypeId} {a : Option Addr} {n c : Nat} (ty : TypeId) (hu : P.underlying t = some (.slice e)) : (Builtin.len_ #[t] ty #[.slice a n c]).run P w = .ok (.int .i64 n) w := by
  simp [Builtin.len_, run_und hu, goInt]
theorem run_len_str {t : TypeId} {s : ByteArray} (ty : TypeId) (hu : P.underlying t = some .string) : (Builtin.len_ #[t] ty #[.string s]).run P w = .ok (.int .i64 s.size) w := by
  simp [Builtin.len_, run_und hu, goInt]

theorem so_builtin {b : Builtin} {c : Call} {s : Array Value → Sem Value} (hcal : c.callee = .builtin b) {v : Value} {w' : World}
    (hb : ∀ cs, builtin b c.argTypes ty cs (c.args.map f) = (do pure (.value (← s (c.args.map f))))) (h : (s (c.args.map f)).run P w = .ok v w') (hk : K v w') : ex P (execOp f ⟨dst, .call c, ty, pos, af, g⟩) w K := by
  refine (ex_oV (s := s (c.args.map f)) h hk : ex P (oV (s (c.args.map f))) w K) |> fun h2 => ?_
  unfold ex at h2 ⊢
  have e : (execOp f ⟨dst, .call c, ty, pos, af, g⟩ : Sem Next).run P w = (oV (s (c.args.map f))).run P w := by
    simp only [execOp, resolve, hcal, Sem.run_bind, Sem.run_pure, Result.andThen_ok, invoke, hb, oV]
  rw [e]
  exact h2

theorem so_builtin2 {b : Builtin} {c : Call} {s : Sem Value} (hcal : c.callee = .builtin b) 
    (hb : ∀ cs, builtin b c.argTypes ty cs (c.args.map f) = (do pure (.value (← s)))) (h : ex P (oV s) w K) : ex P (execOp f ⟨dst, .call c, ty, pos, af, g⟩) w K := by
  unfold ex at h ⊢
  have e : (execOp f ⟨dst, .call c, ty, pos, af, g⟩ : Sem Next).run P w = (oV s).run P w := by
    simp only [execOp, resolve, hcal, Sem.run_bind, Sem.run_pure, Result.andThen_ok, invoke, hb, oV]
  rw [e]
  exact h

theorem so_calls {c : Call} (hfn : ∀ g, f (.func g) = .func (.func g) #[] #[]) (h : semOp P ⟨dst, .call c, ty, pos, af, g⟩ f w K) : ex P (execOp f ⟨dst, .call c, ty, pos, af, g⟩) w K := by
  obtain ⟨callee, args, argTypes⟩ := c
  unfold semOp at h
  simp only at h
  split at h
  · rename_i g'
    exact so_call hfn rfl h
  · rename_i t
    exact so_clV rfl h
  · rename_i b
    split at h
    · rename_i x t ha ht
      obtain rfl : args = #[x] := by simpa using congrArg List.toArray ha
      obtain rfl : argTypes = #[t] := by simpa using congrArg List.toArray ht
      split at h
      · rename_i e hu
        obtain ⟨a, n, c, hx, hk⟩ := h
        refine so_builtin (s := fun vs => Builtin.len_ #[t] ty vs) rfl (fun cs => rfl) (v := .int .i64 n) (w' := w) ?_ hk
        simp only [List.map_toArray, List.map_cons, List.map_nil, hx]
        exact run_len_slice ty hu
      · rename_i hu
        obtain ⟨s, hx, hk⟩ := h
        refine so_builtin (s := fun vs => Builtin.len_ #[t] ty vs) rfl (fun cs => rfl) (v := .int .i64 s.size) (w' := w) ?_ hk
        simp only [List.map_toArray, List.map_cons, List.map_nil, hx]
        exact run_len_str ty hu
      · exact so_builtin2 rfl (fun cs => by simp [builtin]) h
    · rename_i x y t t' ha ht
      obtain rfl : args = #[x, y] := by simpa using congrArg List.toArray ha
      split at h
      · obtain ⟨a, b, hx, hy, hk⟩ := h
        refine so_builtin (s := fun vs => Builtin.min_ argTypes ty vs) rfl (fun cs => rfl) (w' := w) ?_ hk
        simp only [List.map_toArray, List.map_cons, List.map_nil, hx, hy]
        simp [Builtin.min_, Builtin.min2]
      · exact h
    · rename_i x y t t' ha ht
      obtain rfl : args = #[x, y] := by simpa using congrArg List.toArray ha
      split at h
      · obtain ⟨a, b, hx, hy, hk⟩ := h
        refine so_builtin (s := fun vs => Builtin.max_ argTypes ty vs) rfl (fun cs => rfl) (w' := w) ?_ hk
        simp only [List.map_toArray, List.map_cons, List.map_nil, hx, hy]
        simp [Builtin.max_, Builtin.max2]
      · exact h
    · rename_i x y ha
      obtain rfl : args = #[x, y] := by simpa using congrArg List.toArray ha
      exact so_builtin2 rfl (fun cs => by simp [builtin]) h
    · rename_i x y ha
      obtain rfl : args = #[x, y] := by simpa using congrArg List.toArray ha
      exact so_builtin2 rfl (fun cs => by simp [builtin]) h
    · rename_i x y ha
      obtain rfl : args = #[x, y] := by simpa using congrArg List.toArray ha
      exact so_builtin2 rfl (fun cs => by simp [builtin]) h
    · exact h
  · exact h
end

theorem semOp_sound (hc : ∀ v, f (.const v) = v) (hfn : ∀ g, f (.func g) = .func (.func g) #[] #[]) (o : Oper) (h : semOp P o f w K) : ex P (execOp f o) w K := by
  obtain ⟨dst, op, ty, pos, af, g⟩ := o
  cases op with
  | move x => exact h
  | assign x => exact h
  | pick c a b => exact so_pick h
  | alloc e => exact so_alloc h
  | box e x => exact so_box h
  | build t parts => exact so_build h
  | buildSlice t len parts => exact so_buildSlice h
  | load t a => exact so_load h
  | store t a x => exact so_store h
  | nilCheck x => exact so_nilCheck h
  | binOp op t x y u => exact so_binOp hc h
  | unOp op t x => cases op <;> first | exact so_not h | exact h
  | convert s d x =>
    unfold semOp at h
    simp only at h
    split at h
    · rename_i h1 h2
      exact so_cvI h1 h2 h
    · exact h
  | makeInterface t x => exact so_mkI h
  | makeFunc fn first captured => exact h
  | makeMap t r => cases r with
    | none => exact so_mkMap h
    | some r => exact h
  | slice t x lo hi mx => cases mx with
    | some m => exact h
    | none =>
      unfold semOp at h
      simp only at h
      split at h
      · rename_i e hu
        split at h
        · rename_i ho
          exact so_slice hu ho h
        · exact h.elim
      · exact h
  | fieldAddr s x n => exact so_fieldAddr h
  | field s x n => exact so_field h
  | indexAddr t x i => exact so_indexAddr h
  | extract x i => exact so_extract h
  | index t x i => exact h
  | lookup t x i ok => exact h
  | mapUpdate t m k x => exact h
  | range t x => exact h
  | next it s => exact h
  | entry it => exact h
  | typeAssert x s t ok => exact h
  | makeSlice t l c => exact h
  | call c => exact so_calls hfn h
  | _ => exact h
end
end Go.E
