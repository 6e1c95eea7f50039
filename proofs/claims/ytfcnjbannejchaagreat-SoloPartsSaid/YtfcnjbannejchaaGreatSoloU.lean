/- The law SoloEnds. Conditions: none. -/
import Derived.Test.YtfcnjbannejchaaGreatSoloT
namespace Go.Proofs.YtfcnjbannejchaaGreat
open Go Go.E
set_option maxRecDepth 100000
variable {e w : World} {L Q : List HP} {K : KV} {S S2 : HP}

/-! ### Logs behind a step -/
theorem next_log {wd : Wd} {R R' : RS} {d : Done} (h : nextR wd R = some (d, R')) (g : Nat) (h0 : 0 ≤ d.m.To) : logR R' g = logR R g ++ if d.m.To = g then [d] else [] := by
  obtain ⟨m, rest, f, a, hwait, hT, hf, ha, heq⟩ := nextR_some h
  have hd : d = (takeM wd f a m rest R).1 := congrArg Prod.fst heq
  have hR : R' = (takeM wd f a m rest R).2 := congrArg Prod.snd heq
  have hdm : d.m = m := by rw [hd]; rfl
  have hfe : R'.feds = R.feds.set m.To.toNat ⟨(stepR f.Rules a.st m.Class).1, a.sent + (stepR f.Rules a.st m.Class).2.length, a.log ++ [d]⟩ := by rw [hR, hd]; rfl
  unfold logR
  rw [if_pos (by omega), if_pos (by omega), Int.toNat_natCast, hfe, hdm]
  rw [hdm] at h0
  by_cases hg : m.To = g
  · have e1 : m.To.toNat = g := by omega
    rw [if_pos hg, e1, List.getElem?_set_self (by rw [← e1]; exact (List.getElem?_eq_some_iff.1 ha).1)]
    rw [e1] at ha
    rw [ha]
    rfl
  · rw [if_neg hg, List.append_nil, List.getElem?_set_ne (by omega)]
/-- All that comes later is not ahead of t. -/
theorem steps_later {wd : Wd} (hw : WdOk wd) (t : Int) (g : Nat) : ∀ (n : Nat) {R : RS} {k : Nat}, RunOk wd R k → (∀ m ∈ R.wait, t ≤ m.key.T) → ∃ ext, logR (stepsR wd n R).2 g = logR R g ++ ext ∧ ∀ d ∈ ext, t ≤ d.m.key.T
  | 0, R, k, _, _ => ⟨[], by simp [stepsR], by simp⟩
  | n + 1, R, k, hR, ht => by
    rw [stepsR_succ]
    cases hx : nextR wd R with
    | none => exact ⟨[], by simp, by simp⟩
    | some x =>
      obtain ⟨f1, f2, f3⟩ := next_facts hw hR (d := x.1) (R' := x.2) hx
      have hlog := next_log (d := x.1) (R' := x.2) hx g (hR.to _ f1).1
      have htd := ht _ f1
      obtain ⟨ext, h1, h2⟩ := steps_later hw t g n (runOk_next hw hR (d := x.1) (R' := x.2) hx) fun m hm => by
        have := (f3 m hm).time
        omega
      refine ⟨(if x.1.m.To = g then [x.1] else []) ++ ext, ?_, fun d hd => ?_⟩
      · show logR (stepsR wd n x.2).2 g = _
        rw [h1, hlog, List.append_assoc]
      · rcases List.mem_append.1 hd with hd | hd
        · split at hd
          · rw [List.mem_singleton.1 hd]; exact htd
          · cases hd
        · exact h2 d hd
/-- A federation that ends earlier. -/
def endAt (wd : Wd) (t : Int) : Wd := ⟨wd.Parents, wd.Feds, t⟩
theorem steps_ends {wd : Wd} (hw : WdOk wd) {t : Int} (ht : t ≤ wd.End) (hw2 : WdOk (endAt wd t)) (g : Nat) : ∀ (n : Nat) {R : RS} {k : Nat}, RunOk wd R k → RunOk (endAt wd t) R k → (stepsR wd n R).1 < n → (stepsR (endAt wd t) n R).1 < n →
    ∃ ext, logR (stepsR wd n R).2 g = logR (stepsR (endAt wd t) n R).2 g ++ ext ∧ (∀ d ∈ logR (stepsR (endAt wd t) n R).2 g, d.m.key.T < t) ∧ ∀ d ∈ ext, t ≤ d.m.key.T
  | 0, R, k, _, _, h, _ => by omega
  | n + 1, R, k, hR, hR2, h1, h2 => by
    have hself : ∀ d ∈ logR R g, d.m.key.T < t := by
      intro d hd
      unfold logR at hd
      rw [if_pos (by omega), Int.toNat_natCast] at hd
      cases hf : R.feds[g]? with
      | none => rw [hf] at hd; simp at hd
      | some a =>
        rw [hf] at hd
        exact (hR2.logs g a hf d hd).2.2
    rw [stepsR_succ] at h1 h2 ⊢
    rw [stepsR_succ (endAt wd t)]
    cases hx : nextR wd R with
    | none =>
      have hy : nextR (endAt wd t) R = none := by
        cases hy : nextR (endAt wd t) R with
        | none => rfl
        | some y =>
          obtain ⟨m, rest, f, a, hwait, hT, hf, ha, heq⟩ := nextR_some (d := y.1) (R' := y.2) hy
          have hT' : m.key.T < t := hT
          rw [nextR_take (wd := wd) hwait (by omega) hf ha] at hx
          cases hx
      rw [hy]
      exact ⟨[], by simp, hself, by simp⟩
    | some x =>
      rw [hx] at h1
      obtain ⟨m, rest, f, a, hwait, hT, hf, ha, heq⟩ := nextR_some (d := x.1) (R' := x.2) hx
      by_cases hmt : m.key.T < t
      · have hy : nextR (endAt wd t) R = some x := by
          rw [nextR_take (wd := endAt wd t) hwait hmt hf ha]
          exact congrArg some heq.symm
        rw [hy] at h2
        rw [hy]
        exact steps_ends hw ht hw2 g n (runOk_next hw hR (d := x.1) (R' := x.2) hx) (runOk_next hw2 hR2 (d := x.1) (R' := x.2) hy) (by simpa using h1) (by simpa using h2)
      · have hy : nextR (endAt wd t) R = none := nextR_none (.inr ⟨m, rest, hwait, by show t ≤ _; omega⟩)
        rw [hy]
        have hs := hR.sorted
        rw [hwait] at hs
        obtain ⟨ext, k1, k2⟩ := steps_later hw t g (n + 1) hR (fun y hy => by
          rw [hwait] at hy
          rcases List.mem_cons.1 hy with rfl | hy
          · omega
          · have := ((List.pairwise_cons.1 hs).1 y hy).time
            omega)
        rw [stepsR_succ, hx] at k1
        exact ⟨ext, k1, hself, k2⟩
theorem init_end (wd : Wd) (t : Int) : initR (endAt wd t) = initR wd := rfl
theorem check_end {wd : Wd} {t : Int} (h : (checkW wd).2 = 0) (ht : 0 ≤ t ∧ t ≤ wd.End) : (checkW (endAt wd t)).2 = 0 := by
  have hE := (checkW_ok h).en
  have e : checkW (endAt wd t) = if treeE wd.Parents ≠ 0 then (-1, treeE wd.Parents) else if ¬ ((0 ≤ t ∧ t ≤ 1099511627776) ∧ 1 ≤ (wd.Feds.length : Int) ∧ (wd.Feds.length : Int) ≤ 8) then (-1, 1) else fedsE wd.Parents.length 0 wd.Feds := rfl
  rw [e]
  unfold checkW at h
  split at h
  · rename_i h1; exact absurd h h1
  · rename_i h1
    rw [if_neg h1]
    split at h
    · cases h
    · rename_i h2
      have h2 := Classical.not_not.1 h2
      rw [if_neg (fun k => k ⟨⟨ht.1, by omega⟩, h2.2⟩)]
      exact h

end Go.Proofs.YtfcnjbannejchaaGreat
