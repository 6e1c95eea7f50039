/- A run, in plain words: what waits is in order; what was taken came in order. Conditions: the federation may be. -/
import Derived.Test.YtfcnjbannejchaaSoloM
namespace Go.Proofs.Ytfcnjbannejchaa
open Go Go.E
set_option maxRecDepth 100000

structure FA where
  st : Int
  sent : Int
  log : List Done
structure RS where
  feds : List FA
  wait : List Msg
def insM (m : Msg) : List Msg → List Msg
  | [] => [m]
  | a :: l => if cmpM m a < 0 then m :: a :: l else a :: insM m l
def putL (l ms : List Msg) : List Msg := ms.foldl (fun l m => insM m l) l
def takeM (wd : Wd) (f : Fed) (a : FA) (m : Msg) (rest : List Msg) (R : RS) : Done × RS :=
  (⟨m, (stepR f.Rules a.st m.Class).1⟩, ⟨R.feds.set m.To.toNat ⟨(stepR f.Rules a.st m.Class).1, a.sent + (stepR f.Rules a.st m.Class).2.length, a.log ++ [⟨m, (stepR f.Rules a.st m.Class).1⟩]⟩,
    putL rest (spreadL wd.Parents wd.Feds m.To a.sent m.key.T m.Body (stepR f.Rules a.st m.Class).2)⟩)
def nextR (wd : Wd) (R : RS) : Option (Done × RS) := match R.wait with
  | [] => none
  | m :: rest => if wd.End ≤ m.key.T then none else match wd.Feds[m.To.toNat]?, R.feds[m.To.toNat]? with
    | some f, some a => some (takeM wd f a m rest R)
    | _, _ => none
def initR (wd : Wd) : RS := ⟨wd.Feds.map fun f => ⟨f.Start, f.Init.length, []⟩, putL [] (startsL wd.Parents wd.Feds wd.Feds)⟩

/-! ### The federation may be -/
structure WdOk (wd : Wd) : Prop where
  tree : okTree wd.Parents
  n : 1 ≤ wd.Feds.length ∧ wd.Feds.length ≤ 8
  en : 0 ≤ wd.End ∧ wd.End ≤ 1099511627776
  sends : ∀ f ∈ wd.Feds, ∀ r ∈ f.Rules, r.Sends.length ≤ 3 ∧ ∀ o ∈ r.Sends, okSend wd.Parents.length o ∧ 1 ≤ o.Delay
  init : ∀ f ∈ wd.Feds, f.Init.length ≤ 4 ∧ ∀ o ∈ f.Init, okSend wd.Parents.length o ∧ 0 ≤ o.Delay
theorem sendsE_zero {f : Fed} : ∀ {l : List Out}, sendsE f l = 0 → ∀ o ∈ l, o.Class ∈ f.Pubs ∧ f.Look ≤ o.Delay
  | [], _, o, ho => by cases ho
  | x :: l, h, o, ho => by
    rw [sendsE_cons] at h
    split at h
    · cases h
    · rename_i h1
      split at h
      · cases h
      · rename_i h2
        rcases List.mem_cons.1 ho with rfl | ho
        · exact ⟨Classical.not_not.1 h1, by omega⟩
        · exact sendsE_zero h o ho
theorem rulesE_zero {f : Fed} {most : Int} : ∀ {l : List Rule}, rulesE f most l = 0 → ∀ r ∈ l, sendsE f r.Sends = 0
  | [], _, o, ho => by cases ho
  | x :: l, h, r, hr => by
    rw [rulesE_cons] at h
    split at h
    · cases h
    · rename_i h1
      split at h
      · rename_i h2
        exact absurd h h2
      · rename_i h2
        rcases List.mem_cons.1 hr with rfl | hr
        · exact Classical.not_not.1 h2
        · exact rulesE_zero h r hr
theorem rising_hi {most : Int} : ∀ {l : List Int} {lo : Int}, rising most lo l → ∀ c ∈ l, c < most
  | [], _, _, c, hc => by cases hc
  | a :: l, lo, h, c, hc => by
    obtain ⟨h1, h2, h3⟩ := h
    rcases List.mem_cons.1 hc with rfl | hc
    · exact h2
    · exact rising_hi h3 c hc
theorem fedE_zero {f : Fed} {most : Int} (h : fedE f most = 0) : 1 ≤ f.Look ∧ okRules f.Rules ∧ rising most (-1) f.Pubs ∧ rulesE f most f.Rules = 0 ∧ okInit f := by
  rw [fedE_chain] at h
  split at h
  · cases h
  · split at h
    · cases h
    · rename_i h1 h2
      split at h
      · cases h
      · split at h
        · cases h
        · rename_i h3 h4
          split at h
          · cases h
          · rename_i h5
            split at h
            · rename_i h6; exact absurd h h6
            · rename_i h6
              split at h
              · cases h
              · rename_i h7
                exact ⟨(Classical.not_not.1 h2).1, Classical.not_not.1 h4, (Classical.not_not.1 h5).1, Classical.not_not.1 h6, Classical.not_not.1 h7⟩
theorem fedsE_zero {most : Int} : ∀ {l : List Fed} {i : Nat}, (fedsE most i l).2 = 0 → ∀ f ∈ l, fedE f most = 0
  | [], _, _, f, hf => by cases hf
  | x :: l, i, h, f, hf => by
    rw [fedsE_cons] at h
    split at h
    · rename_i h1; exact absurd h h1
    · rename_i h1
      rcases List.mem_cons.1 hf with rfl | hf
      · exact Classical.not_not.1 h1
      · exact fedsE_zero h f hf
theorem checkW_ok {wd : Wd} (h : (checkW wd).2 = 0) : WdOk wd := by
  unfold checkW at h
  split at h
  · rename_i h1; exact absurd h h1
  · rename_i h1
    split at h
    · cases h
    · rename_i h2
      have ht : okTree wd.Parents := by
        have := Classical.not_not.1 h1
        unfold treeE at this
        split at this
        · assumption
        · cases this
      have h2 := Classical.not_not.1 h2
      have hf := fedsE_zero h
      refine ⟨ht, by omega, h2.1, fun f hfm r hr => ?_, fun f hfm => ?_⟩
      · obtain ⟨k1, k2, k3, k4, k5⟩ := fedE_zero (hf f hfm)
        have hok := k2.2.1 r hr
        refine ⟨hok.2.2.2.2.2.2.1, fun o ho => ?_⟩
        obtain ⟨p1, p2⟩ := sendsE_zero (rulesE_zero k4 r hr) o ho
        have p3 := hok.2.2.2.2.2.2.2 o ho
        exact ⟨⟨p3.1, rising_hi k3 _ p1, p3.2.2.2.2.1⟩, by omega⟩
      · obtain ⟨k1, k2, k3, k4, k5⟩ := fedE_zero (hf f hfm)
        refine ⟨k5.1, fun o ho => ?_⟩
        obtain ⟨p1, p2, p3, p4, p5⟩ := k5.2 o ho
        have := rising_lo k3 _ p1
        exact ⟨⟨by omega, rising_hi k3 _ p1, p4⟩, p2⟩

/-! ### In order -/
theorem insM_perm (m : Msg) : ∀ l, (insM m l).Perm (m :: l)
  | [] => .refl _
  | a :: l => by
    unfold insM
    split
    · exact .refl _
    · exact ((insM_perm m l).cons a).trans (.swap m a l)
theorem putL_perm : ∀ (ms l : List Msg), (putL l ms).Perm (ms ++ l)
  | [], _ => .refl _
  | m :: ms, l => (putL_perm ms (insM m l)).trans (((insM_perm m l).append_left ms).trans List.perm_middle)
def Ne2 (a b : Msg) : Prop := ¬ (a.key = b.key ∧ a.To = b.To)
theorem insM_sorted {m : Msg} : ∀ {l : List Msg}, l.Pairwise MLt → (∀ a ∈ l, Ne2 a m) → (insM m l).Pairwise MLt
  | [], _, _ => List.pairwise_singleton _ _
  | a :: l, h, hn => by
    obtain ⟨h1, h2⟩ := List.pairwise_cons.1 h
    unfold insM
    split
    · rename_i hlt
      have hlt := cmpM_lt.1 hlt
      exact List.pairwise_cons.2 ⟨fun x hx => by
        rcases List.mem_cons.1 hx with rfl | hx
        · exact hlt
        · exact hlt.trans (h1 x hx), h⟩
    · rename_i hlt
      have ham : MLt a m := by
        rcases MLt.tri a m with k | k | k
        · exact k
        · exact absurd k (hn a (by simp))
        · exact absurd (cmpM_lt.2 k) hlt
      refine List.pairwise_cons.2 ⟨fun x hx => ?_, insM_sorted h2 fun b hb => hn b (by simp [hb])⟩
      rcases List.mem_cons.1 ((insM_perm m l).mem_iff.1 hx) with rfl | hx
      · exact ham
      · exact h1 x hx
theorem putL_sorted : ∀ {ms l : List Msg}, l.Pairwise MLt → ms.Pairwise Ne2 → (∀ a ∈ l, ∀ m ∈ ms, Ne2 a m) → (putL l ms).Pairwise MLt
  | [], _, h, _, _ => h
  | m :: ms, l, h, hm, hn => by
    obtain ⟨h1, h2⟩ := List.pairwise_cons.1 hm
    refine putL_sorted (ms := ms) (l := insM m l) (insM_sorted h fun a ha => hn a ha m (by simp)) h2 fun a ha x hx => ?_
    rcases List.mem_cons.1 ((insM_perm m l).mem_iff.1 ha) with rfl | ha
    · exact h1 x hx
    · exact hn a ha x (by simp [hx])

/-! ### What is sent -/
theorem routesL_mem {ps : List Int} {f c : Int} {l : List Fed} {to : Int} (h : to ∈ routesL ps f c l) : 0 ≤ to ∧ to < l.length ∧ to ≠ f := by
  unfold routesL at h
  obtain ⟨p, hp, rfl⟩ := List.mem_map.1 h
  obtain ⟨h1, h2⟩ := List.mem_filter.1 hp
  rw [Bool.and_eq_true] at h2
  have h3 := of_decide_eq_true h2.1
  have h4 := List.snd_lt_of_mem_zipIdx h1
  exact ⟨by omega, by omega, h3⟩
theorem routesL_inc (ps : List Int) (f c : Int) : ∀ l : List Fed, (routesL ps f c l).Pairwise (· < ·) := by
  have key : ∀ (l : List Fed) (n : Nat), ((l.zipIdx n).map fun p => ((p.2 : Nat) : Int)).Pairwise (· < ·) := by
    intro l
    induction l with
    | nil => intro n; simp
    | cons x l ih =>
      intro n
      rw [List.zipIdx_cons, List.map_cons, List.pairwise_cons]
      refine ⟨fun y hy => ?_, ih (n + 1)⟩
      obtain ⟨p, hp, rfl⟩ := List.mem_map.1 hy
      have := List.le_snd_of_mem_zipIdx hp
      show (n : Int) < (p.2 : Int)
      omega
  intro l
  have h1 := key l 0
  refine h1.sublist ?_
  unfold routesL
  exact (List.filter_sublist).map _
structure SentBy (feds : List Fed) (f seq now : Int) (k : Nat) (m : Msg) : Prop where
  from' : m.key.From = f
  seq : seq ≤ m.key.Seq ∧ m.key.Seq < seq + k
  to : 0 ≤ m.To ∧ m.To < feds.length ∧ m.To ≠ f
  body : 0 ≤ m.Body
  time : ∃ o : Out, m.key.T = addT now o.Delay
def D3 (a b : Msg) : Prop := a.key.From < b.key.From ∨ (a.key.From = b.key.From ∧ (a.key.Seq < b.key.Seq ∨ (a.key.Seq = b.key.Seq ∧ a.To < b.To)))
theorem D3.ne {a b : Msg} (h : D3 a b) : Ne2 a b := by
  rintro ⟨h1, h2⟩
  unfold D3 at h
  rw [h1] at h
  omega
theorem spread_mem {ps : List Int} {feds : List Fed} {f seq now body : Int} {outs : List Out} {m : Msg} (h : m ∈ spreadL ps feds f seq now body outs) :
    ∃ (i : Nat) (o : Out) (to : Int), outs[i]? = some o ∧ to ∈ routesL ps f o.Class feds ∧ m = { sentM f (seq + i) now body o with To := to } := by
  unfold spreadL at h
  obtain ⟨p, hp, h⟩ := List.mem_flatMap.1 h
  obtain ⟨to, hto, rfl⟩ := List.mem_map.1 h
  have := List.mem_zipIdx_iff_getElem?.1 hp
  exact ⟨p.2, p.1, to, this, hto, rfl⟩
theorem spread_by {ps : List Int} {feds : List Fed} {f seq now body : Int} {outs : List Out} {m : Msg} (h : m ∈ spreadL ps feds f seq now body outs) : SentBy feds f seq now outs.length m := by
  obtain ⟨i, o, to, h1, h2, rfl⟩ := spread_mem h
  have hi := (List.getElem?_eq_some_iff.1 h1).1
  exact ⟨rfl, ⟨by simp only [sentM]; omega, by simp only [sentM]; omega⟩, routesL_mem h2, by simp only [sentM]; omega, o, rfl⟩
theorem snocRec {α : Type} {P : List α → Prop} (h0 : P []) (hs : ∀ l x, P l → P (l ++ [x])) : ∀ l, P l := by
  intro l
  have key : ∀ n (l : List α), l.length = n → P l := by
    intro n
    induction n with
    | zero => intro l hl; rw [List.length_eq_zero_iff.1 hl]; exact h0
    | succ n ih =>
      intro l hl
      have hne : l ≠ [] := fun h => by rw [h] at hl; cases hl
      rw [← List.dropLast_concat_getLast hne]
      exact hs _ _ (ih _ (by rw [List.length_dropLast]; omega))
  exact key _ l rfl
theorem spread_inc (ps : List Int) (feds : List Fed) (f seq now body : Int) : ∀ outs : List Out, (spreadL ps feds f seq now body outs).Pairwise D3 := by
  refine snocRec (by simp [spreadL]) fun l x ih => ?_
  rw [spreadL_snoc, List.pairwise_append]
  refine ⟨ih, ?_, fun a ha b hb => ?_⟩
  · rw [List.pairwise_map]
    exact (routesL_inc ps f x.Class feds).imp fun hlt => .inr ⟨rfl, .inr ⟨rfl, hlt⟩⟩
  · have h1 := spread_by ha
    obtain ⟨to, _, rfl⟩ := List.mem_map.1 hb
    refine .inr ⟨h1.from', .inl ?_⟩
    have := h1.seq.2
    simp only [sentM]
    omega
theorem starts_mem {ps : List Int} {feds : List Fed} {l : List Fed} {m : Msg} (h : m ∈ startsL ps feds l) : ∃ (i : Nat) (fd : Fed), l[i]? = some fd ∧ m ∈ spreadL ps feds (i : Int) 0 0 0 fd.Init := by
  unfold startsL at h
  obtain ⟨p, hp, h⟩ := List.mem_flatMap.1 h
  exact ⟨p.2, p.1, List.mem_zipIdx_iff_getElem?.1 hp, h⟩
theorem starts_inc (ps : List Int) (feds : List Fed) : ∀ l : List Fed, (startsL ps feds l).Pairwise D3 := by
  refine snocRec (by simp [startsL]) fun _ x ih => ?_
  rw [startsL_snoc, List.pairwise_append]
  refine ⟨ih, spread_inc _ _ _ _ _ _ _, fun a ha b hb => ?_⟩
  obtain ⟨i, fd, h1, h2⟩ := starts_mem ha
  have h3 := (spread_by h2).from'
  have h4 := (spread_by hb).from'
  have := (List.getElem?_eq_some_iff.1 h1).1
  left
  omega
theorem starts_len {ps : List Int} {feds : List Fed} (hn : feds.length ≤ 8) : ∀ {l : List Fed}, (∀ f ∈ l, f.Init.length ≤ 4) → (startsL ps feds l).length ≤ l.length * 32 := by
  intro l
  induction l using snocRec with
  | h0 => simp [startsL]
  | hs l x ih =>
    intro h
    rw [startsL_snoc, List.length_append, List.length_append, List.length_singleton, Nat.add_mul]
    have h1 := ih fun f hf => h f (by simp [hf])
    have h2 := spreadL_len ps feds (l.length : Int) 0 0 0 x.Init
    have h3 : x.Init.length * feds.length ≤ 4 * 8 := Nat.mul_le_mul (h x (by simp)) hn
    omega
end Go.Proofs.Ytfcnjbannejchaa
