/- A run, in plain words: what holds behind each step. Conditions: the federation may be. -/
import Derived.Test.YtfcnjbannejchaaSoloN
namespace Go.Proofs.Ytfcnjbannejchaa
open Go Go.E
set_option maxRecDepth 100000

structure RunOk (wd : Wd) (R : RS) (k : Nat) : Prop where
  len : R.feds.length = wd.Feds.length
  sorted : R.wait.Pairwise MLt
  to : ∀ m ∈ R.wait, 0 ≤ m.To ∧ m.To < wd.Feds.length ∧ 0 ≤ m.Body ∧ 0 ≤ m.key.T
  src : ∀ m ∈ R.wait, 0 ≤ m.key.From ∧ m.key.From < wd.Feds.length ∧ m.key.From ≠ m.To ∧ 0 ≤ m.key.Seq ∧ ∀ a, R.feds[m.key.From.toNat]? = some a → m.key.Seq < a.sent
  cnt : R.wait.length ≤ 256 + 24 * k
  sent : ∀ a ∈ R.feds, 0 ≤ a.sent ∧ a.sent ≤ 4 + 3 * k ∧ a.log.length ≤ k
  logs : ∀ (i : Nat) a, R.feds[i]? = some a → ∀ d ∈ a.log, d.m.To = i ∧ (∀ m ∈ R.wait, MLt d.m m) ∧ d.m.key.T < wd.End
  inc : ∀ a ∈ R.feds, a.log.Pairwise fun d e => MLt d.m e.m
theorem addT_ge (t d : Int) : 0 ≤ addT t d := (clampT_le _).1
theorem addT_gt {t d : Int} (h0 : 0 ≤ t) (h1 : t < 1099511627776) (hd : 1 ≤ d) : t < addT t d := by
  unfold addT clampT Inf MaxT
  (repeat' split) <;> omega
theorem stepR_cases (l : List Rule) (s c : Int) : (∃ r ∈ l, r.State = s ∧ r.Class = c ∧ stepR l s c = (r.Next, r.Sends)) ∨ ((∀ r ∈ l, ¬ (r.State = s ∧ r.Class = c)) ∧ stepR l s c = (s, [])) := by
  unfold stepR
  cases h : l.find? fun r => decide (r.State = s) && decide (r.Class = c) with
  | some r =>
    have h1 := List.find?_some h
    rw [Bool.and_eq_true] at h1
    exact .inl ⟨r, List.mem_of_find?_eq_some h, of_decide_eq_true h1.1, of_decide_eq_true h1.2, rfl⟩
  | none =>
    rw [List.find?_eq_none] at h
    exact .inr ⟨fun r hr hn => h r hr (by rw [Bool.and_eq_true]; exact ⟨decide_eq_true hn.1, decide_eq_true hn.2⟩), rfl⟩
theorem step_outs {wd : Wd} (hw : WdOk wd) {f : Fed} (hf : f ∈ wd.Feds) (s c : Int) : (stepR f.Rules s c).2.length ≤ 3 ∧ ∀ o ∈ (stepR f.Rules s c).2, okSend wd.Parents.length o ∧ 1 ≤ o.Delay := by
  rcases stepR_cases f.Rules s c with ⟨r, hr, _, _, h⟩ | ⟨_, h⟩
  · rw [h]; exact hw.sends f hf r hr
  · rw [h]; exact ⟨by simp, by simp⟩
theorem runOk_init {wd : Wd} (hw : WdOk wd) : RunOk wd (initR wd) 0 := by
  have hp := putL_perm (startsL wd.Parents wd.Feds wd.Feds) []
  rw [List.append_nil] at hp
  have hmem : ∀ m, m ∈ (initR wd).wait → ∃ (i : Nat) (fd : Fed), wd.Feds[i]? = some fd ∧ m ∈ spreadL wd.Parents wd.Feds (i : Int) 0 0 0 fd.Init := fun m hm => starts_mem (hp.mem_iff.1 hm)
  refine ⟨by simp [initR], putL_sorted List.Pairwise.nil ((starts_inc _ _ _).imp fun h => h.ne) (by simp), fun m hm => ?_, fun m hm => ?_, ?_, fun a ha => ?_, fun i a hi d hd => ?_, fun a ha => ?_⟩
  · obtain ⟨i, fd, h1, h2⟩ := hmem m hm
    have h3 := spread_by h2
    obtain ⟨o, ho⟩ := h3.time
    exact ⟨h3.to.1, h3.to.2.1, h3.body, by rw [ho]; exact addT_ge _ _⟩
  · obtain ⟨i, fd, h1, h2⟩ := hmem m hm
    have h3 := spread_by h2
    have hi := (List.getElem?_eq_some_iff.1 h1).1
    have hfr := h3.from'
    refine ⟨by omega, by omega, fun h => h3.to.2.2 (by rw [← h, hfr]), by have := h3.seq.1; omega, fun a ha => ?_⟩
    rw [hfr, Int.toNat_natCast] at ha
    unfold initR at ha
    simp only [List.getElem?_map, h1, Option.map_some, Option.some.injEq] at ha
    rw [← ha]
    have := h3.seq.2
    show m.key.Seq < (fd.Init.length : Int)
    omega
  · have h1 := hp.length_eq
    have h2 := starts_len (ps := wd.Parents) hw.n.2 (l := wd.Feds) fun f hf => (hw.init f hf).1
    have h3 := hw.n.2
    show (putL [] (startsL wd.Parents wd.Feds wd.Feds)).length ≤ 256 + 24 * 0
    omega
  · obtain ⟨f, hf, rfl⟩ := List.mem_map.1 ha
    have := (hw.init f hf).1
    exact ⟨by simp, by show (f.Init.length : Int) ≤ 4 + 3 * (0 : Nat); omega, by simp⟩
  · have := List.mem_of_getElem? hi
    obtain ⟨f, hf, rfl⟩ := List.mem_map.1 this
    simp at hd
  · obtain ⟨f, hf, rfl⟩ := List.mem_map.1 ha
    exact List.Pairwise.nil
theorem nextR_some {wd : Wd} {R R' : RS} {d : Done} (h : nextR wd R = some (d, R')) : ∃ m rest f a, R.wait = m :: rest ∧ m.key.T < wd.End ∧ wd.Feds[m.To.toNat]? = some f ∧ R.feds[m.To.toNat]? = some a ∧ (d, R') = takeM wd f a m rest R := by
  unfold nextR at h
  split at h
  · cases h
  · rename_i m rest hw
    split at h
    · cases h
    · rename_i ht
      split at h
      · rename_i f a hf ha
        injection h with h
        exact ⟨m, rest, f, a, hw, by omega, hf, ha, h.symm⟩
      · cases h
theorem runOk_next {wd : Wd} (hw : WdOk wd) {R R' : RS} {k : Nat} {d : Done} (hR : RunOk wd R k) (h : nextR wd R = some (d, R')) : RunOk wd R' (k + 1) := by
  obtain ⟨m, rest, f, a, hwait, hT, hf, ha, heq⟩ := nextR_some h
  have hfm := List.mem_of_getElem? hf
  have ham := List.mem_of_getElem? ha
  have hm : m ∈ R.wait := by rw [hwait]; simp
  obtain ⟨t1, t2, t3, t4⟩ := hR.to m hm
  obtain ⟨o1, o2⟩ := step_outs hw hfm a.st m.Class
  have hs := hR.sorted
  rw [hwait] at hs
  obtain ⟨s1, s2⟩ := List.pairwise_cons.1 hs
  obtain ⟨a1, a2, a3⟩ := hR.sent a ham
  have hE := hw.en.2
  have e2 : R' = (takeM wd f a m rest R).2 := congrArg Prod.snd heq
  generalize hst : stepR f.Rules a.st m.Class = so at o1 o2
  have hfeds : R'.feds = R.feds.set m.To.toNat ⟨so.1, a.sent + so.2.length, a.log ++ [⟨m, so.1⟩]⟩ := by rw [e2, ← hst]; rfl
  have hwt : R'.wait = putL rest (spreadL wd.Parents wd.Feds m.To a.sent m.key.T m.Body so.2) := by rw [e2, ← hst]; rfl
  generalize hms : spreadL wd.Parents wd.Feds m.To a.sent m.key.T m.Body so.2 = ms at hwt
  have hby : ∀ y ∈ ms, SentBy wd.Feds m.To a.sent m.key.T so.2.length y := fun y hy => spread_by (by rw [hms]; exact hy)
  have htime : ∀ y ∈ ms, m.key.T < y.key.T := by
    intro y hy
    rw [← hms] at hy
    obtain ⟨i, o, to, h1, _, rfl⟩ := spread_mem hy
    exact addT_gt t4 (by omega) (o2 o (List.mem_of_getElem? h1)).2
  have hlt : ∀ y ∈ ms, MLt m y := fun y hy => .inl (.inl (htime y hy))
  have hperm := putL_perm ms rest
  have hmem : ∀ y, y ∈ R'.wait → y ∈ ms ∨ y ∈ rest := fun y hy => by
    rw [hwt] at hy
    exact List.mem_append.1 (hperm.mem_iff.1 hy)
  have hin : ∀ y ∈ rest, y ∈ R.wait := fun y hy => by rw [hwait]; simp [hy]
  have hTo : m.To.toNat < R.feds.length := (List.getElem?_eq_some_iff.1 ha).1
  have hgetN : ∀ (i : Nat) b, R'.feds[i]? = some b → (i = m.To.toNat ∧ b = ⟨so.1, a.sent + so.2.length, a.log ++ [⟨m, so.1⟩]⟩) ∨ (i ≠ m.To.toNat ∧ R.feds[i]? = some b) := by
    intro i b hb
    rw [hfeds] at hb
    by_cases hi : i = m.To.toNat
    · subst hi
      rw [List.getElem?_set_self hTo] at hb
      exact .inl ⟨rfl, (Option.some.inj hb).symm⟩
    · rw [List.getElem?_set_ne (fun h => hi h.symm)] at hb
      exact .inr ⟨hi, hb⟩
  have hmemN : ∀ b ∈ R'.feds, b = ⟨so.1, a.sent + so.2.length, a.log ++ [⟨m, so.1⟩]⟩ ∨ b ∈ R.feds := by
    intro b hb
    obtain ⟨i, hi⟩ := List.getElem?_of_mem hb
    rcases hgetN i b hi with h | h
    · exact .inl h.2
    · exact .inr (List.mem_of_getElem? h.2)
  have hbig : ∀ x y, (∀ z ∈ R.wait, MLt x z) → y ∈ R'.wait → MLt x y := by
    intro x y hx hy
    rcases hmem y hy with hy | hy
    · exact (hx m hm).trans (hlt y hy)
    · exact hx y (hin y hy)
  refine ⟨by rw [hfeds, List.length_set]; exact hR.len, ?_, fun y hy => ?_, fun y hy => ?_, ?_, fun b hb => ?_, fun i b hb d' hd => ?_, fun b hb => ?_⟩
  · rw [hwt]
    refine putL_sorted s2 (by rw [← hms]; exact (spread_inc _ _ _ _ _ _ _).imp fun h => h.ne) fun x hx y hy => ?_
    rintro ⟨h1, h2⟩
    have h3 := hby y hy
    obtain ⟨p1, p2, p3, p4, p5⟩ := hR.src x (hin x hx)
    have h4 : x.key.From = m.To := by rw [h1]; exact h3.from'
    have h5 := p5 a (by rw [h4]; exact ha)
    have h6 := h3.seq.1
    rw [← h1] at h6
    omega
  · rcases hmem y hy with hy | hy
    · have h3 := hby y hy
      obtain ⟨o, ho⟩ := h3.time
      exact ⟨h3.to.1, h3.to.2.1, h3.body, by rw [ho]; exact addT_ge _ _⟩
    · exact hR.to y (hin y hy)
  · rcases hmem y hy with hy | hy
    · have h3 := hby y hy
      have hfr := h3.from'
      refine ⟨by omega, by omega, fun h => h3.to.2.2 (by rw [← h, hfr]), by have := h3.seq.1; omega, fun b hb => ?_⟩
      rw [hfr] at hb
      rcases hgetN _ b hb with h | h
      · rw [h.2]; exact h3.seq.2
      · exact absurd rfl h.1
    · obtain ⟨p1, p2, p3, p4, p5⟩ := hR.src y (hin y hy)
      refine ⟨p1, p2, p3, p4, fun b hb => ?_⟩
      rcases hgetN _ b hb with h | h
      · have h5 := p5 a (by rw [h.1]; exact ha)
        rw [h.2]
        show y.key.Seq < a.sent + so.2.length
        omega
      · exact p5 b h.2
  · have h1 := hperm.length_eq
    rw [List.length_append] at h1
    have h2 := spreadL_len wd.Parents wd.Feds m.To a.sent m.key.T m.Body so.2
    rw [hms] at h2
    have h3 : so.2.length * wd.Feds.length ≤ 3 * 8 := Nat.mul_le_mul o1 hw.n.2
    have h4 := hR.cnt
    rw [hwait, List.length_cons] at h4
    rw [hwt]
    omega
  · rcases hmemN b hb with rfl | hb
    · exact ⟨by show 0 ≤ a.sent + so.2.length; omega, by show a.sent + so.2.length ≤ 4 + 3 * (k + 1 : Nat); omega, by simp; omega⟩
    · obtain ⟨b1, b2, b3⟩ := hR.sent b hb
      exact ⟨b1, by omega, by omega⟩
  · rcases hgetN i b hb with ⟨rfl, rfl⟩ | ⟨hi, hb⟩
    · rcases List.mem_append.1 hd with hd | hd
      · obtain ⟨q1, q2, q3⟩ := hR.logs _ a ha d' hd
        exact ⟨q1, fun y hy => hbig _ y q2 hy, q3⟩
      · rw [List.mem_singleton.1 hd]
        refine ⟨by show m.To = ((m.To.toNat : Nat) : Int); omega, fun y hy => ?_, hT⟩
        rcases hmem y hy with hy | hy
        · exact hlt y hy
        · exact s1 y hy
    · obtain ⟨q1, q2, q3⟩ := hR.logs i b hb d' hd
      exact ⟨q1, fun y hy => hbig _ y q2 hy, q3⟩
  · rcases hmemN b hb with rfl | hb
    · rw [List.pairwise_append]
      refine ⟨hR.inc a ham, List.pairwise_singleton _ _, fun x hx y hy => ?_⟩
      rw [List.mem_singleton.1 hy]
      exact (hR.logs _ a ha x hx).2.1 m hm
    · exact hR.inc b hb
theorem nextR_none {wd : Wd} {R : RS} (h : R.wait = [] ∨ ∃ m rest, R.wait = m :: rest ∧ wd.End ≤ m.key.T) : nextR wd R = none := by
  unfold nextR
  rcases h with h | ⟨m, rest, h, ht⟩
  · rw [h]
  · rw [h]
    simp [ht]
theorem nextR_take {wd : Wd} {R : RS} {m : Msg} {rest : List Msg} {f : Fed} {a : FA} (h : R.wait = m :: rest) (ht : m.key.T < wd.End) (hf : wd.Feds[m.To.toNat]? = some f) (ha : R.feds[m.To.toNat]? = some a) : nextR wd R = some (takeM wd f a m rest R) := by
  unfold nextR
  rw [h]
  simp only [if_neg (show ¬ wd.End ≤ m.key.T by omega), hf, ha]
/-- So many steps, at most. -/
def stepsR (wd : Wd) : Nat → RS → Nat × RS
  | 0, R => (0, R)
  | n + 1, R => match nextR wd R with
    | none => (0, R)
    | some x => ((stepsR wd n x.2).1 + 1, (stepsR wd n x.2).2)
theorem runOk_steps {wd : Wd} (hw : WdOk wd) : ∀ (n : Nat) {R : RS} {k : Nat}, RunOk wd R k → RunOk wd (stepsR wd n R).2 (k + (stepsR wd n R).1) ∧ (stepsR wd n R).1 ≤ n
  | 0, R, k, h => ⟨h, Nat.le_refl _⟩
  | n + 1, R, k, h => by
    unfold stepsR
    split
    · exact ⟨h, Nat.zero_le _⟩
    · rename_i x hx
      obtain ⟨h1, h2⟩ := runOk_steps hw n (runOk_next hw h (d := x.1) (R' := x.2) hx)
      refine ⟨?_, by omega⟩
      rw [show k + ((stepsR wd n x.2).1 + 1) = k + 1 + (stepsR wd n x.2).1 from by omega]
      exact h1
end Go.Proofs.Ytfcnjbannejchaa
