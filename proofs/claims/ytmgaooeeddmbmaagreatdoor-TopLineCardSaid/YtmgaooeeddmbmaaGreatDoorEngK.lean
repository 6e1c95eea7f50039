/- The engine, part K: maps whose keys are structs of ints. Conditions: none. -/
import Derived.Test.YtmgaooeeddmbmaaGreatDoorEngN
import Derived.DeepKeys3
namespace Go.E
open Go.RowKit

section
variable {κ : Type} [DecidableEq κ] {P : Program} {kt : TypeId} {ns : κ → List Int} {s n m D : Nat}
theorem sameBits_ints (d : Nat) : ∀ l : List Int, ((ints l).zip (ints l)).all (fun (x, y) => Instr.sameBits d x y) = true
  | [] => rfl
  | a :: l => by
    have ih := sameBits_ints d l
    simp only [ints, List.map_cons, List.zip_cons_cons, List.all_cons] at ih ⊢
    rw [ih]
    cases d <;> simp [Instr.sameBits]
theorem run_findAsking (hT : eqT P n kt = some s) (hag : isAggT P kt = true) (hn : n ≤ 10000) (hl : ∀ k, (ns k).length = s) (hinj : ∀ a b, (ns a == ns b) = decide (a = b)) (k : κ) :
    ∀ (es : List MapEntry) (ks : List κ) (i : Nat) (w : World), es.map (·.key) = ks.map (fun k => Value.agg (ints (ns k)).toArray) →
      (Instr.findAsking kt (.agg (ints (ns k)).toArray) es i).run P w = .ok ((ks.findIdx? fun x => decide (x = k)).bind fun j => (es[j]?).map fun e => (i + j, e.val)) w
  | [], ks, i, w, h => by
    cases ks with
    | nil => rfl
    | cons => cases h
  | e :: es, ks, i, w, h => by
    cases ks with
    | nil => cases h
    | cons x ks =>
      simp only [List.map_cons, List.cons.injEq] at h
      have he := (run_eqIn n kt s hT (10000 - n) (ns k) (ns x) (hl k) (hl x) w).2 hag
      rw [show 10000 - n + n = 10000 from by omega, hinj] at he
      have he' : (Op.equal kt (.agg (ints (ns k)).toArray) (.agg (ints (ns x)).toArray)).run P w = .ok (decide (k = x)) w := he
      simp only [Instr.findAsking, Sem.run_bind, h.1, he', Result.andThen_ok, List.findIdx?_cons]
      by_cases hx : x = k
      · subst hx
        simp
      · have hk : ¬ k = x := fun e => hx e.symm
        simp only [hk, hx, decide_false, Bool.false_eq_true, if_false]
        rw [run_findAsking hT hag hn hl hinj k es ks (i + 1) w h.2]
        cases ks.findIdx? (fun x => decide (x = k)) with
        | none => rfl
        | some j => simp [Nat.add_comm, Nat.add_left_comm]

theorem keyT_struct {fs : Array Field} (hu : P.underlying kt = some (.struct fs)) (hT : eqT P n kt = some s) (hag : isAggT P kt = true) (hn : n ≤ 10000) (hl : ∀ k, (ns k).length = s) (hinj : ∀ a b, (ns a == ns b) = decide (a = b))
    (hk : P.keyTypeAt m kt = true) (hm : m ≤ 10000) (hf : ∀ k, (Value.agg (ints (ns k)).toArray).formed P kt = true) (hlit : ∀ k, ∃ la, P.keyLits D kt (ints (ns k)) = some la) : KeyT P kt (fun k => .agg (ints (ns k)).toArray) where
  chk b k w := by
    obtain ⟨la, hla⟩ := hlit k
    have := run_checkKey_deep (P := P) b (10000 - m) m kt hk w D (.agg (ints (ns k)).toArray) la (hf k) (by simpa [Value.cells] using hla)
    rw [show 10000 - m + m = 10000 from by omega] at this
    exact this
  fnd k es ks h w := by
    unfold Instr.findKey
    have h1 := run_findAsking (w := w) hT hag hn hl hinj k es ks 0 h
    cases es with
    | nil =>
      cases ks with
      | nil => simp only [Sem.run_bind, run_und hu, Result.andThen_ok, Instr.findNow, Sem.run_pure]; rfl
      | cons => cases h
    | cons e es =>
      have h2 : Instr.findNow (.struct fs) (.agg (ints (ns k)).toArray) (e :: es) 0 = none := by
        unfold Instr.findNow
        simp [Instr.sameNow]
      simp only [Sem.run_bind, run_und hu, Result.andThen_ok, h2, h1, Nat.zero_add]
  sam k := by
    show Instr.sameBits (9999 + 1) _ _ = true
    simp only [Instr.sameBits, beq_self_eq_true, Bool.true_and]
    exact sameBits_ints 9999 (ns k)
theorem keyT_chk {fs : Array Field} (hu : P.underlying kt = some (.struct fs)) (hT : eqT P n kt = some s) (hag : isAggT P kt = true) (hn : n ≤ 10000) (hl : ∀ k, (ns k).length = s) (hinj : ∀ a b, (ns a == ns b) = decide (a = b))
    (hc : ∀ (b : Bool) (k : κ) (w : World), (Instr.checkKey b 10000 kt (.agg (ints (ns k)).toArray)).run P w = .ok () w) : KeyT P kt (fun k => .agg (ints (ns k)).toArray) where
  chk := hc
  fnd k es ks h w := by
    unfold Instr.findKey
    have h1 := run_findAsking (w := w) hT hag hn hl hinj k es ks 0 h
    cases es with
    | nil =>
      cases ks with
      | nil => simp only [Sem.run_bind, run_und hu, Result.andThen_ok, Instr.findNow, Sem.run_pure]; rfl
      | cons => cases h
    | cons e es =>
      have h2 : Instr.findNow (.struct fs) (.agg (ints (ns k)).toArray) (e :: es) 0 = none := by
        unfold Instr.findNow
        simp [Instr.sameNow]
      simp only [Sem.run_bind, run_und hu, Result.andThen_ok, h2, h1, Nat.zero_add]
  sam k := by
    show Instr.sameBits (9999 + 1) _ _ = true
    simp only [Instr.sameBits, beq_self_eq_true, Bool.true_and]
    exact sameBits_ints 9999 (ns k)
end

section
variable {κ ν : Type} [DecidableEq κ] {P : Program} {kt vt t : TypeId} {kf : κ → Value} {vf : ν → Value} {zv : Value} {e w : World} {L : List HP} {K : KV} {b : Nat} {m : List (κ × ν)}
def dlA (m : List (κ × ν)) (k : κ) : List (κ × ν) := match (m.map (·.1)).findIdx? fun x => decide (x = k) with
  | some i => m.eraseIdx i
  | none => m
theorem dlM_s {ty : TypeId} (KT : KeyT P kt kf) (MT : MapT P t kt vt zv) {x : TypeId} (hS : Sat e w (isMap kf vf b m :: L)) (k : κ)
    (hk : ∀ w', Sat e w' (isMap kf vf b (dlA m k) :: L) → K (.tuple #[]) w') : dlM P #[t, x] ty (.map (some b)) (kf k) w K := by
  obtain ⟨h1, h2, d, s1, s2, ⟨es, clock, hb, hm, hbo⟩, r⟩ := hS.mem
  have hh : w.heap[b]? = some (.map es clock) := s1 _ _ hb
  have hS0 : Sat e w ((fun g => g b = some (.map es clock)) :: L) := ⟨hS.os, hS.tape, hS.output, hS.drawn, hS.size, h1, h2, d, s1, s2, hb, r⟩
  have hf := KT.fnd k es.toList (m.map (·.1)) (es_keys hm) w
  cases hx : (m.map (·.1)).findIdx? (fun x => decide (x = k)) with
  | none =>
    rw [hx] at hf
    simp only [Option.bind_none] at hf
    refine ex_oV (w' := World.setB w b (.map es clock)) (v := .tuple #[]) ?_ (hk _ ?_)
    · unfold Builtin.delete_
      simp only [List.getElem?_toArray, List.getElem?_cons_zero, List.getElem?_cons_succ, Sem.run_bind, run_und MT.und, Result.andThen_ok, run_getObj hh, KT.chk, hf, setObj, Sem.run, hh, World.setB, Sem.run_pure]
    · refine hS0.setB.imp fun g hg => ⟨_, _, hg, ?_, hbo⟩
      rw [show dlA m k = m from by unfold dlA; rw [hx]]
      exact hm
  | some i =>
    rw [hx] at hf
    simp only [Option.bind_some] at hf
    obtain ⟨hi, _, _⟩ := List.findIdx?_eq_some_iff_getElem.1 hx
    simp only [List.length_map] at hi
    have hle : es.toList.length = m.length := by simpa using congrArg List.length hm
    have hie : i < es.toList.length := by omega
    rw [List.getElem?_eq_getElem hie] at hf
    simp only [Option.map_some] at hf
    have he : (es.eraseIdxIfInBounds i).toList = es.toList.eraseIdx i := by
      unfold Array.eraseIdxIfInBounds
      rw [dif_pos (by simpa using hie), Array.toList_eraseIdx]
    refine ex_oV (w' := World.setB w b (.map (es.eraseIdxIfInBounds i) clock)) (v := .tuple #[]) ?_ (hk _ ?_)
    · unfold Builtin.delete_
      simp only [List.getElem?_toArray, List.getElem?_cons_zero, List.getElem?_cons_succ, Sem.run_bind, run_und MT.und, Result.andThen_ok, run_getObj hh, KT.chk, hf, setObj, Sem.run, hh, World.setB, Sem.run_pure]
    · refine hS0.setB.imp fun g hg => ⟨_, _, hg, ?_, ?_, ?_⟩
      · rw [show dlA m k = m.eraseIdx i from by unfold dlA; rw [hx], he, List.eraseIdx_map_c, hm, ← List.eraseIdx_map_c]
      · rw [he]
        exact hbo.1.sublist (List.eraseIdx_sublist _ _)
      · intro x hx
        rw [he] at hx
        exact hbo.2 x (List.mem_of_mem_eraseIdx hx)
theorem dlA_filter : ∀ {m : List (κ × ν)}, Uniq m → ∀ k, dlA m k = m.filter fun p => !decide (p.1 = k)
  | [], _, k => rfl
  | p :: m, h, k => by
    unfold Uniq at h
    rw [List.map_cons, List.nodup_cons] at h
    by_cases hp : p.1 = k
    · have h1 : dlA (p :: m) k = m := by unfold dlA; simp [List.findIdx?_cons, hp]
      rw [h1, List.filter_cons]
      simp only [hp, decide_true, Bool.not_true, Bool.false_eq_true, if_false]
      symm
      apply List.filter_eq_self.2
      intro q hq
      have : ¬ q.1 = k := fun e => h.1 (by rw [hp, ← e]; exact List.mem_map.2 ⟨q, hq, rfl⟩)
      simp [this]
    · have ih := dlA_filter (m := m) h.2 k
      have h1 : dlA (p :: m) k = p :: dlA m k := by
        unfold dlA
        rw [List.map_cons, List.findIdx?_cons]
        simp only [hp, decide_false, Bool.false_eq_true, if_false]
        cases (m.map (·.1)).findIdx? (fun x => decide (x = k)) with
        | none => rfl
        | some i => rfl
      rw [h1, ih, List.filter_cons]
      simp [hp]
theorem Uniq.dl {m : List (κ × ν)} (h : Uniq m) (k : κ) : Uniq (dlA m k) := by
  rw [dlA_filter h]
  exact (List.Sublist.map _ List.filter_sublist).nodup h
theorem lkA_dl {m : List (κ × ν)} (h : Uniq m) (k j : κ) : lkA (dlA m k) j = if j = k then none else lkA m j := by
  rw [dlA_filter h]
  unfold lkA
  rw [List.find?_filter]
  by_cases hj : j = k
  · subst hj
    rw [if_pos rfl]
    simp
  · rw [if_neg hj]
    congr 1
    congr 1
    funext p
    by_cases hp : p.1 = j
    · have : ¬ p.1 = k := fun e => hj (hp.symm.trans e)
      simp [hp, hj]
    · simp [hp]
end
end Go.E
