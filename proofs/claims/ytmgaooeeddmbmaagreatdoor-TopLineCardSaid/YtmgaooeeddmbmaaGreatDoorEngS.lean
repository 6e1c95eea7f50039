/- The engine, part S: the assignment of a map's entry in its two steps. Conditions: the key is there. -/
import Derived.Test.YtmgaooeeddmbmaaGreatDoorEngK
namespace Go.E
open Go.RowKit
section
variable {κ ν : Type} [DecidableEq κ] {P : Program} {kt vt t : TypeId} {kf : κ → Value} {vf : ν → Value} {zv : Value} {e w : World} {L : List HP} {K : KV} {b : Nat} {m : List (κ × ν)}
theorem modify_same (es : Array MapEntry) (j : Nat) (e' : MapEntry) (kv : Value) (he : es[j]? = some e') (hk : e'.key = kv) : es.modify j (fun e => { e with key := kv }) = es := by
  apply Array.ext'
  rw [Array.toList_modify]
  apply List.ext_getElem?
  intro n
  rw [List.getElem?_modify]
  by_cases h : j = n
  · subst h
    rw [← Array.getElem?_toList] at he
    rw [he]
    cases e'
    simp only [if_true] at hk ⊢
    subst hk
    rfl
  · simp [h]
theorem born_idx {es : Array MapEntry} {clock j : Nat} {e' : MapEntry} (hb : Born es.toList clock) (he : es[j]? = some e') : es.findIdx? (fun e => (e.born : Int) == (e'.born : Int)) = some j := by
  obtain ⟨hj, hje⟩ := Array.getElem?_eq_some_iff.1 he
  rw [Array.findIdx?_eq_some_iff_getElem]
  refine ⟨hj, by rw [hje]; simp, fun i hi => ?_⟩
  have h1 := List.pairwise_iff_getElem.1 hb.1 i j (by simp; omega) (by simpa using hj) hi
  simp only [Array.getElem_toList] at h1
  rw [hje] at h1
  simp
  omega
theorem mes_s (KT : KeyT P kt kf) (MT : MapT P t kt vt zv) (hu : Uniq m) (hS : Sat e w (isMap kf vf b m :: L)) (k : κ) (x : ν) {xv : Value} (hx : xv = vf x) (hin : (lkA m k).isSome = true)
    (hk : ∀ w', Sat e w' (isMap kf vf b (upA m k x) :: L) → K undef w') : meM P t (.map (some b)) (kf k) w fun a w => xt 1 a w fun s _ => esM P t (.map (some b)) s xv w K := by
  subst hx
  obtain ⟨h1, h2, d, s1, s2, ⟨es, clock, hb, hm, hbo⟩, r⟩ := hS.mem
  have hh : w.heap[b]? = some (.map es clock) := s1 _ _ hb
  have hS0 : Sat e w ((fun g => g b = some (.map es clock)) :: L) := ⟨hS.os, hS.tape, hS.output, hS.drawn, hS.size, h1, h2, d, s1, s2, hb, r⟩
  have hf := KT.fnd k es.toList (m.map (·.1)) (es_keys hm) w
  have hl := fidx_lk m k
  cases hx : (m.map (·.1)).findIdx? (fun x => decide (x = k)) with
  | none =>
    rw [hx] at hl
    simp only [Option.bind_none] at hl
    rw [← hl] at hin
    cases hin
  | some j =>
    rw [hx] at hl hf
    simp only [Option.bind_some] at hl hf
    obtain ⟨hj, hjk, hjn⟩ := List.findIdx?_eq_some_iff_getElem.1 hx
    simp only [List.length_map] at hj
    simp only [List.getElem_map, decide_eq_true_eq] at hjk
    have hkey := es_key hm j
    rw [List.getElem?_eq_getElem hj] at hkey hl
    simp only [Option.map_some] at hkey hl
    obtain ⟨e', he, hek⟩ := Option.map_eq_some_iff.1 hkey
    rw [he] at hf
    simp only [Option.map_some] at hf
    have he2 : es[j]? = some e' := by rw [← Array.getElem?_toList]; exact he
    have hks : e'.key = kf k := by rw [hek, hjk]
    refine ex_oV (w' := World.setB w b (.map es clock)) (v := .tuple #[e'.val, goInt e'.born]) ?_ (xt_12 ?_)
    · unfold Instr.mapEntry
      have hst : (Instr.keyThatStays (((es[j]?).map (·.key)).getD (kf k)) (kf k)).run P w = .ok (kf k) w := by
        rw [he2]
        simp only [Option.map_some, Option.getD_some, hks, Instr.keyThatStays, KT.sam, if_true, Sem.run_pure]
      have hmd := modify_same es j e' (kf k) he2 hks
      simp only [Sem.run_bind, run_und MT.und, Result.andThen_ok, run_getObj hh, KT.chk, hf, hst, setObj, Sem.run, hh, World.setB]
      rw [he2]
      simp only [Option.map_some, Option.getD_some]
      rw [hmd]
      rfl
    · have hS1 := hS0.setB (o' := .map es clock)
      have hlt : b < w.heap.size := (Array.getElem?_eq_some_iff.1 hh).1
      have hh1 : (World.setB w b (.map es clock)).heap[b]? = some (.map es clock) := by simp [World.setB, hlt]
      refine ex_oU (w' := World.setB (World.setB w b (.map es clock)) b (.map (es.modify j fun e => { e with val := vf x }) clock)) ?_ (hk _ ?_)
      · unfold Instr.entryStore
        have hai : (asInt (goInt e'.born)).run P (World.setB w b (.map es clock)) = .ok (e'.born : Int) (World.setB w b (.map es clock)) := rfl
        simp only [Sem.run_bind, Result.andThen_ok, run_getObj hh1, hai, born_idx hbo he2, setObj, Sem.run, hh1]
        rfl
      · refine hS1.setB.imp fun g hg => ⟨_, _, hg, ?_, ?_⟩
        · unfold upA
          rw [← hl]
          simp only [Option.isSome_some, if_true]
          apply List.ext_getElem?
          intro n
          have hn := congrArg (fun l => l[n]?) hm
          simp only [List.getElem?_map] at hn ⊢
          rw [Array.toList_modify, List.getElem?_modify]
          cases hen : es.toList[n]? with
          | none =>
            rw [hen] at hn
            cases hmn : m[n]? with
            | none => rfl
            | some p => rw [hmn] at hn; cases hn
          | some en =>
            rw [hen] at hn
            cases hmn : m[n]? with
            | none => rw [hmn] at hn; cases hn
            | some p =>
              rw [hmn] at hn
              simp only [Option.map_some, Option.some.injEq] at hn ⊢
              by_cases hjn' : j = n
              · subst hjn'
                have hp : p.1 = k := by
                  rw [List.getElem?_eq_getElem hj] at hmn
                  cases hmn
                  exact hjk
                have hek2 : en.key = kf p.1 := by
                  have := congrArg Prod.fst hn
                  exact this
                simp [hp, pairOf, hek2]
              · have hp : p.1 ≠ k := by
                  intro hpk
                  have hnl := (List.getElem?_eq_some_iff.1 hmn).1
                  have e1 : (m.map (·.1))[j]? = some k := by simp [List.getElem?_eq_getElem hj, hjk]
                  have e2 : (m.map (·.1))[n]? = some k := by simp [hmn, hpk]
                  have := (List.getElem?_inj (by simpa using hj) hu).1 (e1.trans e2.symm)
                  exact hjn' this
                simp only [hjn', if_false, hp]
                exact congrArg some hn
        · rw [Array.toList_modify]
          exact born_modify hbo j _ (fun _ => rfl)
end

section
variable {P : Program} {w : World} {K : KV}
/-- x.(T), where it is one. -/
theorem tyA_ok {x : Value} {s t : TypeId} (h : (Instr.typeAssert (.iface t x) s t false).run P w = .ok x w) (hk : K x w) : tyA P (.iface t x) s t false w K := ex_oV h hk
end
end Go.E
