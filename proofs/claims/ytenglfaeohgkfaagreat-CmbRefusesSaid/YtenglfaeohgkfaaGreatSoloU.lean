/- Runs: what memory holds; push, each, New. Conditions: the federation's lists are short. Runs: Next, Steps, Log, State. Conditions: at most a thousand steps. Runs: Steps, Log, State; the laws' small and shown. Conditions: at most a thousand steps. The law's small federation; what a step brings. Conditions: none. The law SoloRises. Conditions: none. The law SoloEnds. Conditions: none. -/
import Derived.Test.YtenglfaeohgkfaaGreatSoloO
namespace Go.Proofs.YtenglfaeohgkfaaGreat
open Go Go.E
set_option maxRecDepth 100000
variable {e w : World} {L Q : List HP} {K : KV} {S S2 : HP}

structure FedS where
  st : Int
  sent : Int
  lv : Value
  log : List Done
def FedS.cs (f : FedS) : List Value := [.int .i64 f.st, .int .i64 f.sent, f.lv]
def FedS.a (f : FedS) : FA := ⟨f.st, f.sent, f.log⟩
def logOwn (f : FedS) : HP := ownS 46 7 Done.cs f.lv f.log
structure RunX where
  fv : Value
  fs : List FedS
  arr : List Msg
structure SoloOk (X : WdX) (wd : Wd) (R : RS) (k : Nat) : Prop where
  eq : X.w = wd
  short : X.short
  may : WdOk wd
  run : RunOk wd R k
theorem short_w {x X : WdX} (h : X.w = x.w) (hs : x.short) : X.short := by
  have h1 : X.Parents = x.Parents := congrArg Wd.Parents h
  have h2 : X.Feds.map FedX.f = x.Feds.map FedX.f := congrArg Wd.Feds h
  have hl : X.Feds.length = x.Feds.length := by simpa using congrArg List.length h2
  refine ⟨by rw [hl]; exact hs.feds, by rw [h1]; exact hs.par, fun f hf => ?_⟩
  have h3 : f.f ∈ x.Feds.map FedX.f := by rw [← h2]; exact List.mem_map_of_mem hf
  obtain ⟨g, hg, he⟩ := List.mem_map.1 h3
  have hsg := hs.fed g hg
  have e1 : g.Pubs = f.Pubs := congrArg Fed.Pubs he
  have e2 : g.Subs = f.Subs := congrArg Fed.Subs he
  have e3 : g.Init = f.Init := congrArg Fed.Init he
  have e4 : g.Rules.map RuleX.r = f.Rules.map RuleX.r := congrArg Fed.Rules he
  have e5 : g.Rules.length = f.Rules.length := by simpa using congrArg List.length e4
  refine ⟨by rw [← e1]; exact hsg.pubs, by rw [← e2]; exact hsg.subs, by rw [← e3]; exact hsg.init, by rw [← e5]; exact hsg.rules, fun q hq => ?_⟩
  have h5 : q.r ∈ g.Rules.map RuleX.r := by rw [e4]; exact List.mem_map_of_mem hq
  obtain ⟨q', hq', he'⟩ := List.mem_map.1 h5
  have e6 : q'.Sends = q.Sends := congrArg Rule.Sends he'
  rw [← e6]
  exact hsg.sends q' hq'

/-! ### The block's other cells -/
/-! ### push, each -/
/-! ### New -/
end Go.Proofs.YtenglfaeohgkfaaGreat
namespace Go.Proofs.YtenglfaeohgkfaaGreat
open Go Go.E
set_option maxRecDepth 100000
variable {e w : World} {L Q : List HP} {K : KV} {S S2 : HP}

theorem head_min {arr : List Msg} {m z : Msg} {rest : List Msg} (hp : arr.Perm (m :: rest)) (hs : (m :: rest).Pairwise MLt) (hh : HeapyW arr arr.length) (hz : arr[0]? = some z) : z = m := by
  have hzm : z ∈ m :: rest := hp.mem_iff.1 (List.mem_of_getElem? hz)
  rcases List.mem_cons.1 hzm with h | h
  · exact h
  · have h1 := (List.pairwise_cons.1 hs).1 z h
    have hm : m ∈ arr := hp.mem_iff.2 (by simp)
    obtain ⟨i, hi⟩ := List.getElem?_of_mem hm
    exact absurd h1 (hh.min (Nat.le_refl _) hz i m (List.getElem?_eq_some_iff.1 hi).1 hi)
theorem set_map {α β : Type} {f : α → β} {l : List α} {i : Nat} {x : α} : (l.set i x).map f = (l.map f).set i (f x) := List.map_set

end Go.Proofs.YtenglfaeohgkfaaGreat
namespace Go.Proofs.YtenglfaeohgkfaaGreat
open Go Go.E
set_option maxRecDepth 100000
variable {e w : World} {L Q : List HP} {K : KV} {S S2 : HP}

theorem stepsR_succ (wd : Wd) (n : Nat) (R : RS) : stepsR wd (n + 1) R = match nextR wd R with
    | none => (0, R)
    | some x => ((stepsR wd n x.2).1 + 1, (stepsR wd n x.2).2) := rfl
def logR (R : RS) (f : Int) : List Done := if 0 ≤ f then ((R.feds[f.toNat]?).map FA.log).getD [] else []
def stR (R : RS) (f : Int) : Int := if 0 ≤ f then ((R.feds[f.toNat]?).map FA.st).getD (-1) else -1
theorem fs_len {k : Nat} {wd : Wd} {R : RS} {X : WdX} (hX : SoloOk X wd R k) {fs : List FedS} (h : fs.map FedS.a = R.feds) : fs.length = wd.Feds.length ∧ R.feds.length = fs.length := by
  have h1 : R.feds.length = fs.length := by rw [← h, List.length_map]
  exact ⟨by rw [← h1, hX.run.len], h1⟩
/-! ### small -/
end Go.Proofs.YtenglfaeohgkfaaGreat
namespace Go.Proofs.YtenglfaeohgkfaaGreat
open Go Go.E
set_option maxRecDepth 100000
variable {e w : World} {L Q : List HP} {K : KV} {S S2 : HP}

def w0 : Wd := ⟨[-1], [⟨0, 1, 0, [], [0], [], [⟨0, 4, 2⟩]⟩, ⟨0, 1, 3, [], [], [0], []⟩], 9⟩
theorem okRules_nil : okRules [] := ⟨by simp, by simp, by simp⟩
theorem w0_ok : checkW w0 = (-1, 0) := by
  have ht : treeE [-1] = 0 := by
    unfold treeE
    refine if_pos ⟨by simp, by simp, fun i p hp => ?_⟩
    match i with
    | 0 => simp at hp; omega
    | i + 1 => simp at hp
  have h1 : fedE ⟨0, 1, 0, [], [0], [], [⟨0, 4, 2⟩]⟩ 1 = 0 := by
    rw [fedE_chain]
    simp [okRules_nil, rising, rulesE, okInit]
  have h2 : fedE ⟨0, 1, 3, [], [], [0], []⟩ 1 = 0 := by
    rw [fedE_chain]
    simp [okRules_nil, rising, rulesE, okInit]
  unfold checkW w0
  rw [if_neg (by rw [ht]; decide), if_neg (by simp)]
  show fedsE 1 0 _ = _
  rw [fedsE_cons, if_neg (by rw [h1]; decide), fedsE_cons, if_neg (by rw [h2]; decide)]
  rfl
/-! ### What a step brings -/
theorem next_facts {wd : Wd} (hw : WdOk wd) {R R' : RS} {k : Nat} {d : Done} (hR : RunOk wd R k) (h : nextR wd R = some (d, R')) : d.m ∈ R.wait ∧ d.m.key.T < wd.End ∧ ∀ m ∈ R'.wait, MLt d.m m := by
  obtain ⟨m, rest, f, a, hwait, hT, hf, ha, heq⟩ := nextR_some h
  have hd : d = ⟨m, (stepR f.Rules a.st m.Class).1⟩ := congrArg Prod.fst heq
  have hR' := runOk_next hw hR h
  have hfe : R'.feds[m.To.toNat]? = some ⟨(stepR f.Rules a.st m.Class).1, a.sent + (stepR f.Rules a.st m.Class).2.length, a.log ++ [d]⟩ := by
    have h2 : R' = (takeM wd f a m rest R).2 := congrArg Prod.snd heq
    rw [h2, hd]
    exact List.getElem?_set_self (List.getElem?_eq_some_iff.1 ha).1
  refine ⟨by rw [hd, hwait]; simp, by rw [hd]; exact hT, ?_⟩
  exact (hR'.logs _ _ hfe d (by simp)).2.1
theorem MLt.time {a b : Msg} (h : MLt a b) : a.key.T ≤ b.key.T := by
  rcases h with h | h
  · unfold KeyLt at h; omega
  · rw [h.1]; omega
end Go.Proofs.YtenglfaeohgkfaaGreat
namespace Go.Proofs.YtenglfaeohgkfaaGreat
open Go Go.E
set_option maxRecDepth 100000
variable {e w : World} {L Q : List HP} {K : KV} {S S2 : HP}

theorem wf8s {n : Int} (h : (Lit.int .u8 n).wf = true) : 0 ≤ n ∧ n ≤ 255 := by
  simp only [Lit.wf, IntKind.min, IntKind.max, IntKind.signed, IntKind.bits] at h
  simp at h
  omega
/-- The log's messages, of one federate, rise by their keys. -/
theorem log_keys {wd : Wd} {R : RS} {k : Nat} (hR : RunOk wd R k) {f i : Nat} {a b : Done} (ha : (logR R f)[i]? = some a) (hb : (logR R f)[i + 1]? = some b) : KeyLt a.m.key b.m.key := by
  unfold logR at ha hb
  rw [if_pos (by omega), Int.toNat_natCast] at ha hb
  cases hf : R.feds[f]? with
  | none => rw [hf] at ha; simp at ha
  | some x =>
    rw [hf] at ha hb
    simp only [Option.map_some, Option.getD_some] at ha hb
    have h1 := hR.inc x (List.mem_of_getElem? hf)
    have h2 := List.pairwise_iff_getElem.1 h1 i (i + 1) (List.getElem?_eq_some_iff.1 ha).1 (List.getElem?_eq_some_iff.1 hb).1 (by omega)
    rw [(List.getElem?_eq_some_iff.1 ha).2, (List.getElem?_eq_some_iff.1 hb).2] at h2
    have h3 := (hR.logs f x hf a (List.mem_of_getElem? ha)).1
    have h4 := (hR.logs f x hf b (List.mem_of_getElem? hb)).1
    rcases h2 with h2 | h2
    · exact h2
    · omega
theorem log_len {wd : Wd} {R : RS} {k : Nat} (hR : RunOk wd R k) (f : Int) : (logR R f).length ≤ k := by
  unfold logR
  split
  · cases hf : R.feds[f.toNat]? with
    | none => simp
    | some x => exact (hR.sent x (List.mem_of_getElem? hf)).2.2
  · simp
end Go.Proofs.YtenglfaeohgkfaaGreat
namespace Go.Proofs.YtenglfaeohgkfaaGreat
open Go Go.E
set_option maxRecDepth 100000
variable {e w : World} {L Q : List HP} {K : KV} {S S2 : HP}

/-! ### Logs behind a step -/
theorem next_log {wd : Wd} {R R' : RS} {d : Done} (h : nextR wd R = some (d, R')) (g : Nat) (h0 : 0 ≤ d.m.To) : logR R' g = logR R g ++ if d.m.To = g then [d] else [] := by
  obtain ⟨m, rest, f, a, hwait, hT, hf, ha, heq⟩ := nextR_some h
  have hd : d = (takeM wd f a m rest R).1 := congrArg Prod.fst heq
  have hR : R' = (takeM wd f a m rest R).2 := congrArg Prod.snd heq
  have hdm : d.m = m := by rw [hd]; rfl
  have hfe : R'.feds = R.feds.set m.To.toNat ⟨(stepR f.Rules a.st m.Class).1, a.sent + (stepR f.Rules a.st m.Class).2.length, a.log ++ [d]⟩ := by rw [hR, hd]; rfl
  unfold logR
  rw [if_pos (by omega), if_pos (by omega), Int.toNat_natCast, hfe, hdm]
  rw [hdm] at h0
  by_cases hg : m.To = g
  · have e1 : m.To.toNat = g := by omega
    rw [if_pos hg, e1, List.getElem?_set_self (by rw [← e1]; exact (List.getElem?_eq_some_iff.1 ha).1)]
    rw [e1] at ha
    rw [ha]
    rfl
  · rw [if_neg hg, List.append_nil, List.getElem?_set_ne (by omega)]
/-- All that comes later is not ahead of t. -/
theorem steps_later {wd : Wd} (hw : WdOk wd) (t : Int) (g : Nat) : ∀ (n : Nat) {R : RS} {k : Nat}, RunOk wd R k → (∀ m ∈ R.wait, t ≤ m.key.T) → ∃ ext, logR (stepsR wd n R).2 g = logR R g ++ ext ∧ ∀ d ∈ ext, t ≤ d.m.key.T
  | 0, R, k, _, _ => ⟨[], by simp [stepsR], by simp⟩
  | n + 1, R, k, hR, ht => by
    rw [stepsR_succ]
    cases hx : nextR wd R with
    | none => exact ⟨[], by simp, by simp⟩
    | some x =>
      obtain ⟨f1, f2, f3⟩ := next_facts hw hR (d := x.1) (R' := x.2) hx
      have hlog := next_log (d := x.1) (R' := x.2) hx g (hR.to _ f1).1
      have htd := ht _ f1
      obtain ⟨ext, h1, h2⟩ := steps_later hw t g n (runOk_next hw hR (d := x.1) (R' := x.2) hx) fun m hm => by
        have := (f3 m hm).time
        omega
      refine ⟨(if x.1.m.To = g then [x.1] else []) ++ ext, ?_, fun d hd => ?_⟩
      · show logR (stepsR wd n x.2).2 g = _
        rw [h1, hlog, List.append_assoc]
      · rcases List.mem_append.1 hd with hd | hd
        · split at hd
          · rw [List.mem_singleton.1 hd]; exact htd
          · cases hd
        · exact h2 d hd
/-- A federation that ends earlier. -/
def endAt (wd : Wd) (t : Int) : Wd := ⟨wd.Parents, wd.Feds, t⟩
theorem steps_ends {wd : Wd} (hw : WdOk wd) {t : Int} (ht : t ≤ wd.End) (hw2 : WdOk (endAt wd t)) (g : Nat) : ∀ (n : Nat) {R : RS} {k : Nat}, RunOk wd R k → RunOk (endAt wd t) R k → (stepsR wd n R).1 < n → (stepsR (endAt wd t) n R).1 < n →
    ∃ ext, logR (stepsR wd n R).2 g = logR (stepsR (endAt wd t) n R).2 g ++ ext ∧ (∀ d ∈ logR (stepsR (endAt wd t) n R).2 g, d.m.key.T < t) ∧ ∀ d ∈ ext, t ≤ d.m.key.T
  | 0, R, k, _, _, h, _ => by omega
  | n + 1, R, k, hR, hR2, h1, h2 => by
    have hself : ∀ d ∈ logR R g, d.m.key.T < t := by
      intro d hd
      unfold logR at hd
      rw [if_pos (by omega), Int.toNat_natCast] at hd
      cases hf : R.feds[g]? with
      | none => rw [hf] at hd; simp at hd
      | some a =>
        rw [hf] at hd
        exact (hR2.logs g a hf d hd).2.2
    rw [stepsR_succ] at h1 h2 ⊢
    rw [stepsR_succ (endAt wd t)]
    cases hx : nextR wd R with
    | none =>
      have hy : nextR (endAt wd t) R = none := by
        cases hy : nextR (endAt wd t) R with
        | none => rfl
        | some y =>
          obtain ⟨m, rest, f, a, hwait, hT, hf, ha, heq⟩ := nextR_some (d := y.1) (R' := y.2) hy
          have hT' : m.key.T < t := hT
          rw [nextR_take (wd := wd) hwait (by omega) hf ha] at hx
          cases hx
      rw [hy]
      exact ⟨[], by simp, hself, by simp⟩
    | some x =>
      rw [hx] at h1
      obtain ⟨m, rest, f, a, hwait, hT, hf, ha, heq⟩ := nextR_some (d := x.1) (R' := x.2) hx
      by_cases hmt : m.key.T < t
      · have hy : nextR (endAt wd t) R = some x := by
          rw [nextR_take (wd := endAt wd t) hwait hmt hf ha]
          exact congrArg some heq.symm
        rw [hy] at h2
        rw [hy]
        exact steps_ends hw ht hw2 g n (runOk_next hw hR (d := x.1) (R' := x.2) hx) (runOk_next hw2 hR2 (d := x.1) (R' := x.2) hy) (by simpa using h1) (by simpa using h2)
      · have hy : nextR (endAt wd t) R = none := nextR_none (.inr ⟨m, rest, hwait, by show t ≤ _; omega⟩)
        rw [hy]
        have hs := hR.sorted
        rw [hwait] at hs
        obtain ⟨ext, k1, k2⟩ := steps_later hw t g (n + 1) hR (fun y hy => by
          rw [hwait] at hy
          rcases List.mem_cons.1 hy with rfl | hy
          · omega
          · have := ((List.pairwise_cons.1 hs).1 y hy).time
            omega)
        rw [stepsR_succ, hx] at k1
        exact ⟨ext, k1, hself, k2⟩
theorem init_end (wd : Wd) (t : Int) : initR (endAt wd t) = initR wd := rfl
theorem check_end {wd : Wd} {t : Int} (h : (checkW wd).2 = 0) (ht : 0 ≤ t ∧ t ≤ wd.End) : (checkW (endAt wd t)).2 = 0 := by
  have hE := (checkW_ok h).en
  have e : checkW (endAt wd t) = if treeE wd.Parents ≠ 0 then (-1, treeE wd.Parents) else if ¬ ((0 ≤ t ∧ t ≤ 1099511627776) ∧ 1 ≤ (wd.Feds.length : Int) ∧ (wd.Feds.length : Int) ≤ 8) then (-1, 1) else fedsE wd.Parents.length 0 wd.Feds := rfl
  rw [e]
  unfold checkW at h
  split at h
  · rename_i h1; exact absurd h h1
  · rename_i h1
    rw [if_neg h1]
    split at h
    · cases h
    · rename_i h2
      have h2 := Classical.not_not.1 h2
      rw [if_neg (fun k => k ⟨⟨ht.1, by omega⟩, h2.2⟩)]
      exact h

end Go.Proofs.YtenglfaeohgkfaaGreat
