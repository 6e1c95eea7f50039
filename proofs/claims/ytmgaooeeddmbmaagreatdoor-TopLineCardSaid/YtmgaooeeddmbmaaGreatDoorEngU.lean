/- The engine, part U: clear of the end of an owned slice. Conditions: none. -/
import Derived.Test.YtmgaooeeddmbmaaGreatDoorEngR
namespace Go.E
open Go.RowKit
section
variable {α : Type} {e w : World} {L : List HP} {K : KV} {size bytes : Nat} {f : α → List Value} {v : Value} {l : List α} {t st ty : TypeId} {P : Program}
theorem replicate_flatMap_take (hf : ∀ x, (f x).length = size) (l : List α) (lo : Nat) (h : lo ≤ l.length) : (l.flatMap f).take (lo * size) = (l.take lo).flatMap f := by
  have : l.flatMap f = (l.take lo).flatMap f ++ (l.drop lo).flatMap f := by rw [← List.flatMap_append, List.take_append_drop]
  rw [this]
  have e8 : ((l.take lo).flatMap f).length = lo * size := by rw [flatMap_length hf, List.length_take, Nat.min_eq_left h]
  rw [← e8, List.take_left]
/-- clear(s[lo:]) -/
theorem clr_s {lo : Nat} {k : IntKind} (T : TE P st t size bytes) (hf : ∀ x, (f x).length = size) (hff : ∀ x, ∀ c ∈ f x, flat c = true) (x0 : α) (hz : (zeroD P t).toList = f x0) (hS : Sat e w L) (i : Nat) (hi : L[i]? = some (ownS t size f v l)) (hlo : lo ≤ l.length)
    (hk : ∀ w', Sat e w' (L.set i (ownS t size f v (l.take lo ++ List.replicate (l.length - lo) x0))) → K (.tuple #[]) w') :
    slc size v (some (.int k (lo : Int))) none w fun y w => clB P #[st] ty y w K := by
  by_cases h0 : lo = l.length
  · subst h0
    obtain ⟨A, c, rfl, hlc⟩ := hS.shape i hi (fun g hg => own_rd hg)
    refine ⟨A, l.length, c, l.length, l.length, rfl, ⟨k, _, rfl, by omega, by omega⟩, rfl, Nat.le_refl _, hlc, ?_⟩
    rw [Nat.sub_self]
    refine ex_oV (w' := w) (v := .tuple #[]) ?_ (hk w ?_)
    · unfold Builtin.clear_
      simp only [List.getElem?_toArray, List.getElem?_cons_zero, Sem.run_bind, run_und T.und, Result.andThen_ok]
      split <;> simp_all [Sem.run_bind, Sem.run_pure]
    · rw [List.take_length, Nat.sub_self, List.replicate_zero, List.append_nil]
      have : L.set i (ownS t size f (.slice A l.length c) l) = L := by
        apply List.ext_getElem?
        intro n
        rw [List.getElem?_set]
        by_cases h : i = n
        · subst h
          rw [if_pos rfl, if_pos (List.getElem?_eq_some_iff.1 hi).1, hi]
        · rw [if_neg h]
      rw [this]
      exact hS
  · obtain ⟨b, c, cs, rfl, hc, hlc, htk, h1⟩ := hS.own_open i hi (by omega)
    obtain ⟨inf, z, hinf, z1, z2, z3, z4⟩ := T.inf
    have hzz : z.cells.toList = f x0 := by
      rw [← hz]
      unfold zeroD
      simp only [hinf, Option.bind_some, z3]
    have hhb := h1.heap i (get_set_self hi)
    have hrow : l.length * size ≤ cs.length := by rw [hc]; exact Nat.mul_le_mul_right _ hlc
    have hsplit : l.length * size = lo * size + (l.length - lo) * size := by rw [← Nat.add_mul]; congr 1; omega
    have hzl : (Builtin.zeroCells z.cells (l.length - lo)).toList = (List.replicate (l.length - lo) x0).flatMap f := by
      unfold Builtin.zeroCells
      rw [z4]
      have := range_mod (f := f) hzz z4 (l.length - lo)
      rw [z4] at this
      exact this
    have hzlen : ((List.replicate (l.length - lo) x0).flatMap f).length = (l.length - lo) * size := by rw [flatMap_length hf, List.length_replicate]
    refine ⟨some ⟨b, 0, none⟩, l.length, c, lo, l.length, rfl, ⟨k, _, rfl, by omega, by omega⟩, rfl, hlo, hlc, ?_⟩
    have hA : (if c = lo then (some (⟨b, 0, none⟩ : Addr)) else (some (⟨b, 0, none⟩ : Addr)).map (·.add (lo * size))) = some ⟨b, lo * size, none⟩ := by
      rw [if_neg (by omega)]
      simp only [Option.map_some]
      unfold Addr.add
      split
      · rename_i h; rw [show lo * size = 0 by simpa using h]
      · simp
    rw [hA]
    refine ex_oV (w' := setCs w ⟨b, lo * size, none⟩ 0 ((List.replicate (l.length - lo) x0).flatMap f)) (v := .tuple #[]) ?_ (hk _ ?_)
    · obtain ⟨n, hn⟩ : ∃ n, l.length - lo = n + 1 := ⟨l.length - lo - 1, by omega⟩
      have hst : (storeCells ⟨b, lo * size, none⟩ ((List.replicate (l.length - lo) x0).flatMap f)).run P w = .ok () (setCs w ⟨b, lo * size, none⟩ 0 ((List.replicate (l.length - lo) x0).flatMap f)) := by
        refine run_storeCells _ 0 w (flat_ok hff _) (fun j _ h2 => ?_)
        rw [hzlen] at h2
        have ea : ((⟨b, lo * size, none⟩ : Addr).add j) = ⟨b, lo * size + j, none⟩ := by
          unfold Addr.add
          split
          · rename_i h0; subst h0; rfl
          · rfl
        rw [ea]
        constructor
        · simp only [World.cell?, hhb]
          simp
          omega
        · simp [World.frozen?, hhb]
      unfold Builtin.clear_
      simp only [List.getElem?_toArray, List.getElem?_cons_zero, Sem.run_bind, run_und T.und, Result.andThen_ok]
      rw [hn] at hst hzl ⊢
      simp only [Sem.run_bind, run_zero hinf z3, Result.andThen_ok, hzl, hst, Sem.run_pure]
    · rw [setCs_blk _ w (lo * size) 0 cs hhb (by rw [hzlen]; omega), Nat.add_zero]
      obtain ⟨cs2, hcs2⟩ : ∃ cs2, cs2 = wrL cs (lo * size) ((List.replicate (l.length - lo) x0).flatMap f) := ⟨_, rfl⟩
      rw [← hcs2]
      have h2 := h1.pick i (get_set_self hi)
      have h3 : Sat e (World.setB w b (.cells cs2.toArray t (0, 0))) (blk b t cs2 :: (L.set i (blk b t cs)).eraseIdx i) := h2.setB
      have h4 := h3.perm (set_perm _ i _ _ (get_set_self hi))
      rw [List.set_set] at h4
      have h5 := h4.imp_at (Q := ownS t size f (.slice (some ⟨b, 0, none⟩) l.length c) (l.take lo ++ List.replicate (l.length - lo) x0)) i (get_set_self hi) fun g hg => by
        have hnl : (l.take lo ++ List.replicate (l.length - lo) x0).length = l.length := by rw [List.length_append, List.length_take, List.length_replicate]; omega
        have htl : (cs.take (lo * size)).length = lo * size := by rw [List.length_take]; omega
        refine .inr ⟨b, c, cs2, by rw [hnl], hg, ?_, by rw [hnl]; exact hlc, ?_⟩
        · rw [hcs2]
          simp only [wrL, List.length_append, htl, hzlen, List.length_drop]
          omega
        · rw [hnl, hcs2]
          unfold wrL
          have e1 : (cs.take (lo * size) ++ (List.replicate (l.length - lo) x0).flatMap f).length = l.length * size := by rw [List.length_append, htl, hzlen]; omega
          rw [← e1, List.take_left, List.flatMap_append]
          congr 1
          rw [← replicate_flatMap_take hf l lo hlo, ← htk, List.take_take, Nat.min_eq_left (by omega)]
      rw [List.set_set] at h5
      exact h5
end
end Go.E
