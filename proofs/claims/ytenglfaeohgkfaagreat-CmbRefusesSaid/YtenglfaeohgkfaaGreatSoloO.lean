/- A federation's copy. Conditions: the lists are short. A run, in plain words: what waits is in order; what was taken came in order. Conditions: the federation may be. A run, in plain words: what holds behind each step. Conditions: the federation may be. -/
import Derived.Test.YtenglfaeohgkfaaGreatSoloL
namespace Go.Proofs.YtenglfaeohgkfaaGreat
open Go Go.E
set_option maxRecDepth 100000
variable {e w : World} {L R : List HP} {K : KV} {S S2 : HP}

theorem unpick {A : HP} {i : Nat} (hi : L[i]? = some S) (h : Sat e w (A :: S :: L.eraseIdx i)) : Sat e w (A :: L) := h.perm ((pick_perm L i S hi).symm.cons A)
theorem clone_ints_i {v : Value} {l : List Int} (i : Nat) (hi : L[i]? = some S) (hl : l.length ≤ 1000000) (hff : ∀ x ∈ l, ∀ v ∈ (intsK .i64) x, flat v = true) (hS : Sat e w L) (hr : ∀ g, S g → rdS 1 (intsK .i64) v l g)
    (hk : ∀ v' w', Sat e w' (ownS 3 1 (intsK .i64) v' l :: L) → K v' w') : Cl prog 62 #[v] w K :=
  clone_ints_s hl hff (hS.pick i hi) hr fun v' w' h => hk v' w' (unpick hi h)
theorem clone_outs_i {v : Value} {l : List Out} (i : Nat) (hi : L[i]? = some S) (hl : l.length ≤ 1000000) (hff : ∀ x ∈ l, ∀ v ∈ Out.cs x, flat v = true) (hS : Sat e w L) (hr : ∀ g, S g → rdS 3 Out.cs v l g)
    (hk : ∀ v' w', Sat e w' (ownS 78 3 Out.cs v' l :: L) → K v' w') : Cl prog 64 #[v] w K :=
  clone_outs_s hl hff (hS.pick i hi) hr fun v' w' h => hk v' w' (unpick hi h)
theorem clone_rules_i {v : Value} {l : List RuleX} (i : Nat) (hi : L[i]? = some S) (hl : l.length ≤ 1000000) (hff : ∀ x ∈ l, ∀ v ∈ RuleX.cs x, flat v = true) (hS : Sat e w L) (hr : ∀ g, S g → rdS 4 RuleX.cs v l g)
    (hk : ∀ v' w', Sat e w' (ownS 80 4 RuleX.cs v' l :: L) → K v' w') : Cl prog 65 #[v] w K :=
  clone_rules_s hl hff (hS.pick i hi) hr fun v' w' h => hk v' w' (unpick hi h)
theorem clone_feds_i {v : Value} {l : List FedX} (i : Nat) (hi : L[i]? = some S) (hl : l.length ≤ 1000000) (hff : ∀ x ∈ l, ∀ v ∈ FedX.cs x, flat v = true) (hS : Sat e w L) (hr : ∀ g, S g → rdS 7 FedX.cs v l g)
    (hk : ∀ v' w', Sat e w' (ownS 72 7 FedX.cs v' l :: L) → K v' w') : Cl prog 63 #[v] w K :=
  clone_feds_s hl hff (hS.pick i hi) hr fun v' w' h => hk v' w' (unpick hi h)
theorem clone_dones_i {v : Value} {l : List Done} (i : Nat) (hi : L[i]? = some S) (hl : l.length ≤ 1000000) (hff : ∀ x ∈ l, ∀ v ∈ Done.cs x, flat v = true) (hS : Sat e w L) (hr : ∀ g, S g → rdS 7 Done.cs v l g)
    (hk : ∀ v' w', Sat e w' (ownS 46 7 Done.cs v' l :: L) → K v' w') : Cl prog 49 #[v] w K :=
  clone_dones_s hl hff (hS.pick i hi) hr fun v' w' h => hk v' w' (unpick hi h)
/-! ### A federation in memory of its own -/
def RuleOwn (r : RuleX) : HP := ownS 78 3 Out.cs r.sv r.Sends
def FedOwn (f : FedX) : HP := sepL [ownS 3 1 (intsK .i64) f.pv f.Pubs, ownS 3 1 (intsK .i64) f.sv f.Subs, ownS 78 3 Out.cs f.iv f.Init, ownS 80 4 RuleX.cs f.rv f.Rules, sepL (f.Rules.map RuleOwn)]
def WdOwn (x : WdX) : HP := sepL [ownS 3 1 (intsK .i64) x.pv x.Parents, ownS 72 7 FedX.cs x.fv x.Feds, sepL (x.Feds.map FedOwn)]
theorem rdS_up {α : Type} {size : Nat} {f : α → List Value} {v : Value} {l : List α} {h g : Hp} (s : Sub h g) (k : rdS size f v l h) : rdS size f v l g := by
  obtain ⟨A, c, h1, h2, h3⟩ := k
  exact ⟨A, c, h1, h2, fun h0 => by obtain ⟨a, h4, h5⟩ := h3 h0; exact ⟨a, h4, h5.up s⟩⟩
theorem sepL_get {l : List HP} {g : Hp} {i : Nat} {P : HP} (h : sepL l g) (hi : l[i]? = some P) : ∃ g', P g' ∧ Sub g' g := SatH.get (S := P) h hi
theorem rules_rd {f : FedX} {g : Hp} (h1 : rdS 4 RuleX.cs f.rv f.Rules g) (h2 : sepL (f.Rules.map RuleOwn) g) : RdRules f.rv f.Rules g := by
  refine ⟨h1, fun r hr => ?_⟩
  obtain ⟨i, hi⟩ := List.getElem?_of_mem hr
  obtain ⟨g', h3, h4⟩ := sepL_get (i := i) (P := RuleOwn r) h2 (by rw [List.getElem?_map, hi]; rfl)
  exact rdS_up h4 (own_rd h3)
theorem RdRules.up {v : Value} {l : List RuleX} {h g : Hp} (s : Sub h g) (k : RdRules v l h) : RdRules v l g := ⟨rdS_up s k.s, fun r hr => rdS_up s (k.e r hr)⟩
theorem RdFed.up {f : FedX} {h g : Hp} (s : Sub h g) (k : RdFed f h) : RdFed f g := ⟨k.rules.up s, rdS_up s k.pubs, rdS_up s k.subs, rdS_up s k.init⟩
theorem fedOwn_rd {f : FedX} {g : Hp} (h : FedOwn f g) : RdFed f g := by
  obtain ⟨g1, k1, s1⟩ := sepL_get (i := 0) h rfl
  obtain ⟨g2, k2, s2⟩ := sepL_get (i := 1) h rfl
  obtain ⟨g3, k3, s3⟩ := sepL_get (i := 2) h rfl
  obtain ⟨g4, k4, s4⟩ := sepL_get (i := 3) h rfl
  obtain ⟨g5, k5, s5⟩ := sepL_get (i := 4) h rfl
  have k5' : sepL (f.Rules.map RuleOwn) g := SatH.up k5 s5
  exact ⟨rules_rd (rdS_up s4 (own_rd k4)) k5', rdS_up s1 (own_rd k1), rdS_up s2 (own_rd k2), rdS_up s3 (own_rd k3)⟩
theorem wdOwn_rd {x : WdX} {g : Hp} (h : WdOwn x g) : RdWd x g := by
  obtain ⟨g1, k1, s1⟩ := sepL_get (i := 0) h rfl
  obtain ⟨g2, k2, s2⟩ := sepL_get (i := 1) h rfl
  obtain ⟨g3, k3, s3⟩ := sepL_get (i := 2) h rfl
  refine ⟨rdS_up s1 (own_rd k1), rdS_up s2 (own_rd k2), fun f hf => ?_⟩
  obtain ⟨i, hi⟩ := List.getElem?_of_mem hf
  obtain ⟨g', h3, h4⟩ := sepL_get (i := i) (P := FedOwn f) k3 (by rw [List.getElem?_map, hi]; rfl)
  exact (fedOwn_rd h3).up (h4.trans s3)
theorem own_congr {α : Type} {t : TypeId} {size : Nat} {f : α → List Value} {v : Value} {l l' : List α} {g : Hp} (hl : l.map f = l'.map f) (h : ownS t size f v l g) : ownS t size f v l' g := by
  have hlen : l.length = l'.length := by simpa using congrArg List.length hl
  have hfm : l.flatMap f = l'.flatMap f := by rw [List.flatMap_def, List.flatMap_def, hl]
  rcases h with ⟨h1, h2⟩ | ⟨b, c, cs, h1, h2, h3, h4, h5⟩
  · subst h2
    refine .inl ⟨h1, List.length_eq_zero_iff.1 (by rw [← hlen]; rfl)⟩
  · exact .inr ⟨b, c, cs, by rw [← hlen]; exact h1, h2, h3, by omega, by rw [← hlen, ← hfm]; exact h5⟩
theorem rule_cells {v : Value} {l : List RuleX} (i : Nat) (hi : L[i]? = some S) (hS : Sat e w L) (hr : ∀ g, S g → RdRules v l g) : ∀ r ∈ l, ∀ c ∈ r.cs, flat c = true := by
  intro r hrm c hc
  obtain ⟨g, hg, _⟩ := hS.get i hi
  obtain ⟨A, c', hsv, _⟩ := (hr g hg).e r hrm
  simp only [RuleX.cs, List.mem_cons, List.not_mem_nil, or_false] at hc
  rcases hc with rfl | rfl | rfl | rfl
  · rfl
  · rfl
  · rfl
  · rw [hsv]; rfl
theorem sep_push {A : HP} {l : List HP} (h : Sat e w (A :: sepL l :: R)) : Sat e w (sepL (l ++ [A]) :: R) := by
  have h1 : Sat e w (sepL (A :: l) :: R) := Sat.join (l' := A :: l) (by
    have := h.swap.split
    exact this.perm (List.perm_middle (a := A) (l₁ := l) (l₂ := R)))
  exact h1.imp fun g hg => SatH.perm (List.perm_append_singleton A l).symm hg
end Go.Proofs.YtenglfaeohgkfaaGreat
namespace Go.Proofs.YtenglfaeohgkfaaGreat
open Go Go.E
set_option maxRecDepth 100000

structure FA where
  st : Int
  sent : Int
  log : List Done
structure RS where
  feds : List FA
  wait : List Msg
def insM (m : Msg) : List Msg → List Msg
  | [] => [m]
  | a :: l => if cmpM m a < 0 then m :: a :: l else a :: insM m l
def putL (l ms : List Msg) : List Msg := ms.foldl (fun l m => insM m l) l
def takeM (wd : Wd) (f : Fed) (a : FA) (m : Msg) (rest : List Msg) (R : RS) : Done × RS :=
  (⟨m, (stepR f.Rules a.st m.Class).1⟩, ⟨R.feds.set m.To.toNat ⟨(stepR f.Rules a.st m.Class).1, a.sent + (stepR f.Rules a.st m.Class).2.length, a.log ++ [⟨m, (stepR f.Rules a.st m.Class).1⟩]⟩,
    putL rest (spreadL wd.Parents wd.Feds m.To a.sent m.key.T m.Body (stepR f.Rules a.st m.Class).2)⟩)
def nextR (wd : Wd) (R : RS) : Option (Done × RS) := match R.wait with
  | [] => none
  | m :: rest => if wd.End ≤ m.key.T then none else match wd.Feds[m.To.toNat]?, R.feds[m.To.toNat]? with
    | some f, some a => some (takeM wd f a m rest R)
    | _, _ => none
def initR (wd : Wd) : RS := ⟨wd.Feds.map fun f => ⟨f.Start, f.Init.length, []⟩, putL [] (startsL wd.Parents wd.Feds wd.Feds)⟩

/-! ### The federation may be -/
structure WdOk (wd : Wd) : Prop where
  tree : okTree wd.Parents
  n : 1 ≤ wd.Feds.length ∧ wd.Feds.length ≤ 8
  en : 0 ≤ wd.End ∧ wd.End ≤ 1099511627776
  sends : ∀ f ∈ wd.Feds, ∀ r ∈ f.Rules, r.Sends.length ≤ 3 ∧ ∀ o ∈ r.Sends, okSend wd.Parents.length o ∧ 1 ≤ o.Delay
  init : ∀ f ∈ wd.Feds, f.Init.length ≤ 4 ∧ ∀ o ∈ f.Init, okSend wd.Parents.length o ∧ 0 ≤ o.Delay
theorem sendsE_zero {f : Fed} : ∀ {l : List Out}, sendsE f l = 0 → ∀ o ∈ l, o.Class ∈ f.Pubs ∧ f.Look ≤ o.Delay
  | [], _, o, ho => by cases ho
  | x :: l, h, o, ho => by
    rw [sendsE_cons] at h
    split at h
    · cases h
    · rename_i h1
      split at h
      · cases h
      · rename_i h2
        rcases List.mem_cons.1 ho with rfl | ho
        · exact ⟨Classical.not_not.1 h1, by omega⟩
        · exact sendsE_zero h o ho
theorem rulesE_zero {f : Fed} {most : Int} : ∀ {l : List Rule}, rulesE f most l = 0 → ∀ r ∈ l, sendsE f r.Sends = 0
  | [], _, o, ho => by cases ho
  | x :: l, h, r, hr => by
    rw [rulesE_cons] at h
    split at h
    · cases h
    · rename_i h1
      split at h
      · rename_i h2
        exact absurd h h2
      · rename_i h2
        rcases List.mem_cons.1 hr with rfl | hr
        · exact Classical.not_not.1 h2
        · exact rulesE_zero h r hr
theorem rising_hi {most : Int} : ∀ {l : List Int} {lo : Int}, rising most lo l → ∀ c ∈ l, c < most
  | [], _, _, c, hc => by cases hc
  | a :: l, lo, h, c, hc => by
    obtain ⟨h1, h2, h3⟩ := h
    rcases List.mem_cons.1 hc with rfl | hc
    · exact h2
    · exact rising_hi h3 c hc
theorem fedE_zero {f : Fed} {most : Int} (h : fedE f most = 0) : 1 ≤ f.Look ∧ okRules f.Rules ∧ rising most (-1) f.Pubs ∧ rulesE f most f.Rules = 0 ∧ okInit f := by
  rw [fedE_chain] at h
  split at h
  · cases h
  · split at h
    · cases h
    · rename_i h1 h2
      split at h
      · cases h
      · split at h
        · cases h
        · rename_i h3 h4
          split at h
          · cases h
          · rename_i h5
            split at h
            · rename_i h6; exact absurd h h6
            · rename_i h6
              split at h
              · cases h
              · rename_i h7
                exact ⟨(Classical.not_not.1 h2).1, Classical.not_not.1 h4, (Classical.not_not.1 h5).1, Classical.not_not.1 h6, Classical.not_not.1 h7⟩
theorem fedsE_zero {most : Int} : ∀ {l : List Fed} {i : Nat}, (fedsE most i l).2 = 0 → ∀ f ∈ l, fedE f most = 0
  | [], _, _, f, hf => by cases hf
  | x :: l, i, h, f, hf => by
    rw [fedsE_cons] at h
    split at h
    · rename_i h1; exact absurd h h1
    · rename_i h1
      rcases List.mem_cons.1 hf with rfl | hf
      · exact Classical.not_not.1 h1
      · exact fedsE_zero h f hf
theorem checkW_ok {wd : Wd} (h : (checkW wd).2 = 0) : WdOk wd := by
  unfold checkW at h
  split at h
  · rename_i h1; exact absurd h h1
  · rename_i h1
    split at h
    · cases h
    · rename_i h2
      have ht : okTree wd.Parents := by
        have := Classical.not_not.1 h1
        unfold treeE at this
        split at this
        · assumption
        · cases this
      have h2 := Classical.not_not.1 h2
      have hf := fedsE_zero h
      refine ⟨ht, by omega, h2.1, fun f hfm r hr => ?_, fun f hfm => ?_⟩
      · obtain ⟨k1, k2, k3, k4, k5⟩ := fedE_zero (hf f hfm)
        have hok := k2.2.1 r hr
        refine ⟨hok.2.2.2.2.2.2.1, fun o ho => ?_⟩
        obtain ⟨p1, p2⟩ := sendsE_zero (rulesE_zero k4 r hr) o ho
        have p3 := hok.2.2.2.2.2.2.2 o ho
        exact ⟨⟨p3.1, rising_hi k3 _ p1, p3.2.2.2.2.1⟩, by omega⟩
      · obtain ⟨k1, k2, k3, k4, k5⟩ := fedE_zero (hf f hfm)
        refine ⟨k5.1, fun o ho => ?_⟩
        obtain ⟨p1, p2, p3, p4, p5⟩ := k5.2 o ho
        have := rising_lo k3 _ p1
        exact ⟨⟨by omega, rising_hi k3 _ p1, p4⟩, p2⟩

/-! ### In order -/
theorem insM_perm (m : Msg) : ∀ l, (insM m l).Perm (m :: l)
  | [] => .refl _
  | a :: l => by
    unfold insM
    split
    · exact .refl _
    · exact ((insM_perm m l).cons a).trans (.swap m a l)
theorem putL_perm : ∀ (ms l : List Msg), (putL l ms).Perm (ms ++ l)
  | [], _ => .refl _
  | m :: ms, l => (putL_perm ms (insM m l)).trans (((insM_perm m l).append_left ms).trans List.perm_middle)
def Ne2 (a b : Msg) : Prop := ¬ (a.key = b.key ∧ a.To = b.To)
theorem insM_sorted {m : Msg} : ∀ {l : List Msg}, l.Pairwise MLt → (∀ a ∈ l, Ne2 a m) → (insM m l).Pairwise MLt
  | [], _, _ => List.pairwise_singleton _ _
  | a :: l, h, hn => by
    obtain ⟨h1, h2⟩ := List.pairwise_cons.1 h
    unfold insM
    split
    · rename_i hlt
      have hlt := cmpM_lt.1 hlt
      exact List.pairwise_cons.2 ⟨fun x hx => by
        rcases List.mem_cons.1 hx with rfl | hx
        · exact hlt
        · exact hlt.trans (h1 x hx), h⟩
    · rename_i hlt
      have ham : MLt a m := by
        rcases MLt.tri a m with k | k | k
        · exact k
        · exact absurd k (hn a (by simp))
        · exact absurd (cmpM_lt.2 k) hlt
      refine List.pairwise_cons.2 ⟨fun x hx => ?_, insM_sorted h2 fun b hb => hn b (by simp [hb])⟩
      rcases List.mem_cons.1 ((insM_perm m l).mem_iff.1 hx) with rfl | hx
      · exact ham
      · exact h1 x hx
theorem putL_sorted : ∀ {ms l : List Msg}, l.Pairwise MLt → ms.Pairwise Ne2 → (∀ a ∈ l, ∀ m ∈ ms, Ne2 a m) → (putL l ms).Pairwise MLt
  | [], _, h, _, _ => h
  | m :: ms, l, h, hm, hn => by
    obtain ⟨h1, h2⟩ := List.pairwise_cons.1 hm
    refine putL_sorted (ms := ms) (l := insM m l) (insM_sorted h fun a ha => hn a ha m (by simp)) h2 fun a ha x hx => ?_
    rcases List.mem_cons.1 ((insM_perm m l).mem_iff.1 ha) with rfl | ha
    · exact h1 x hx
    · exact hn a ha x (by simp [hx])

/-! ### What is sent -/
theorem routesL_mem {ps : List Int} {f c : Int} {l : List Fed} {to : Int} (h : to ∈ routesL ps f c l) : 0 ≤ to ∧ to < l.length ∧ to ≠ f := by
  unfold routesL at h
  obtain ⟨p, hp, rfl⟩ := List.mem_map.1 h
  obtain ⟨h1, h2⟩ := List.mem_filter.1 hp
  rw [Bool.and_eq_true] at h2
  have h3 := of_decide_eq_true h2.1
  have h4 := List.snd_lt_of_mem_zipIdx h1
  exact ⟨by omega, by omega, h3⟩
theorem routesL_inc (ps : List Int) (f c : Int) : ∀ l : List Fed, (routesL ps f c l).Pairwise (· < ·) := by
  have key : ∀ (l : List Fed) (n : Nat), ((l.zipIdx n).map fun p => ((p.2 : Nat) : Int)).Pairwise (· < ·) := by
    intro l
    induction l with
    | nil => intro n; simp
    | cons x l ih =>
      intro n
      rw [List.zipIdx_cons, List.map_cons, List.pairwise_cons]
      refine ⟨fun y hy => ?_, ih (n + 1)⟩
      obtain ⟨p, hp, rfl⟩ := List.mem_map.1 hy
      have := List.le_snd_of_mem_zipIdx hp
      show (n : Int) < (p.2 : Int)
      omega
  intro l
  have h1 := key l 0
  refine h1.sublist ?_
  unfold routesL
  exact (List.filter_sublist).map _
structure SentBy (feds : List Fed) (f seq now : Int) (k : Nat) (m : Msg) : Prop where
  from' : m.key.From = f
  seq : seq ≤ m.key.Seq ∧ m.key.Seq < seq + k
  to : 0 ≤ m.To ∧ m.To < feds.length ∧ m.To ≠ f
  body : 0 ≤ m.Body
  time : ∃ o : Out, m.key.T = addT now o.Delay
def D3 (a b : Msg) : Prop := a.key.From < b.key.From ∨ (a.key.From = b.key.From ∧ (a.key.Seq < b.key.Seq ∨ (a.key.Seq = b.key.Seq ∧ a.To < b.To)))
theorem D3.ne {a b : Msg} (h : D3 a b) : Ne2 a b := by
  rintro ⟨h1, h2⟩
  unfold D3 at h
  rw [h1] at h
  omega
theorem spread_mem {ps : List Int} {feds : List Fed} {f seq now body : Int} {outs : List Out} {m : Msg} (h : m ∈ spreadL ps feds f seq now body outs) :
    ∃ (i : Nat) (o : Out) (to : Int), outs[i]? = some o ∧ to ∈ routesL ps f o.Class feds ∧ m = { sentM f (seq + i) now body o with To := to } := by
  unfold spreadL at h
  obtain ⟨p, hp, h⟩ := List.mem_flatMap.1 h
  obtain ⟨to, hto, rfl⟩ := List.mem_map.1 h
  have := List.mem_zipIdx_iff_getElem?.1 hp
  exact ⟨p.2, p.1, to, this, hto, rfl⟩
theorem spread_by {ps : List Int} {feds : List Fed} {f seq now body : Int} {outs : List Out} {m : Msg} (h : m ∈ spreadL ps feds f seq now body outs) : SentBy feds f seq now outs.length m := by
  obtain ⟨i, o, to, h1, h2, rfl⟩ := spread_mem h
  have hi := (List.getElem?_eq_some_iff.1 h1).1
  exact ⟨rfl, ⟨by simp only [sentM]; omega, by simp only [sentM]; omega⟩, routesL_mem h2, by simp only [sentM]; omega, o, rfl⟩
theorem snocRec {α : Type} {P : List α → Prop} (h0 : P []) (hs : ∀ l x, P l → P (l ++ [x])) : ∀ l, P l := by
  intro l
  have key : ∀ n (l : List α), l.length = n → P l := by
    intro n
    induction n with
    | zero => intro l hl; rw [List.length_eq_zero_iff.1 hl]; exact h0
    | succ n ih =>
      intro l hl
      have hne : l ≠ [] := fun h => by rw [h] at hl; cases hl
      rw [← List.dropLast_concat_getLast hne]
      exact hs _ _ (ih _ (by rw [List.length_dropLast]; omega))
  exact key _ l rfl
theorem spread_inc (ps : List Int) (feds : List Fed) (f seq now body : Int) : ∀ outs : List Out, (spreadL ps feds f seq now body outs).Pairwise D3 := by
  refine snocRec (by simp [spreadL]) fun l x ih => ?_
  rw [spreadL_snoc, List.pairwise_append]
  refine ⟨ih, ?_, fun a ha b hb => ?_⟩
  · rw [List.pairwise_map]
    exact (routesL_inc ps f x.Class feds).imp fun hlt => .inr ⟨rfl, .inr ⟨rfl, hlt⟩⟩
  · have h1 := spread_by ha
    obtain ⟨to, _, rfl⟩ := List.mem_map.1 hb
    refine .inr ⟨h1.from', .inl ?_⟩
    have := h1.seq.2
    simp only [sentM]
    omega
theorem starts_mem {ps : List Int} {feds : List Fed} {l : List Fed} {m : Msg} (h : m ∈ startsL ps feds l) : ∃ (i : Nat) (fd : Fed), l[i]? = some fd ∧ m ∈ spreadL ps feds (i : Int) 0 0 0 fd.Init := by
  unfold startsL at h
  obtain ⟨p, hp, h⟩ := List.mem_flatMap.1 h
  exact ⟨p.2, p.1, List.mem_zipIdx_iff_getElem?.1 hp, h⟩
theorem starts_inc (ps : List Int) (feds : List Fed) : ∀ l : List Fed, (startsL ps feds l).Pairwise D3 := by
  refine snocRec (by simp [startsL]) fun _ x ih => ?_
  rw [startsL_snoc, List.pairwise_append]
  refine ⟨ih, spread_inc _ _ _ _ _ _ _, fun a ha b hb => ?_⟩
  obtain ⟨i, fd, h1, h2⟩ := starts_mem ha
  have h3 := (spread_by h2).from'
  have h4 := (spread_by hb).from'
  have := (List.getElem?_eq_some_iff.1 h1).1
  left
  omega
theorem starts_len {ps : List Int} {feds : List Fed} (hn : feds.length ≤ 8) : ∀ {l : List Fed}, (∀ f ∈ l, f.Init.length ≤ 4) → (startsL ps feds l).length ≤ l.length * 32 := by
  intro l
  induction l using snocRec with
  | h0 => simp [startsL]
  | hs l x ih =>
    intro h
    rw [startsL_snoc, List.length_append, List.length_append, List.length_singleton, Nat.add_mul]
    have h1 := ih fun f hf => h f (by simp [hf])
    have h2 := spreadL_len ps feds (l.length : Int) 0 0 0 x.Init
    have h3 : x.Init.length * feds.length ≤ 4 * 8 := Nat.mul_le_mul (h x (by simp)) hn
    omega
end Go.Proofs.YtenglfaeohgkfaaGreat
namespace Go.Proofs.YtenglfaeohgkfaaGreat
open Go Go.E
set_option maxRecDepth 100000

structure RunOk (wd : Wd) (R : RS) (k : Nat) : Prop where
  len : R.feds.length = wd.Feds.length
  sorted : R.wait.Pairwise MLt
  to : ∀ m ∈ R.wait, 0 ≤ m.To ∧ m.To < wd.Feds.length ∧ 0 ≤ m.Body ∧ 0 ≤ m.key.T
  src : ∀ m ∈ R.wait, 0 ≤ m.key.From ∧ m.key.From < wd.Feds.length ∧ m.key.From ≠ m.To ∧ 0 ≤ m.key.Seq ∧ ∀ a, R.feds[m.key.From.toNat]? = some a → m.key.Seq < a.sent
  cnt : R.wait.length ≤ 256 + 24 * k
  sent : ∀ a ∈ R.feds, 0 ≤ a.sent ∧ a.sent ≤ 4 + 3 * k ∧ a.log.length ≤ k
  logs : ∀ (i : Nat) a, R.feds[i]? = some a → ∀ d ∈ a.log, d.m.To = i ∧ (∀ m ∈ R.wait, MLt d.m m) ∧ d.m.key.T < wd.End
  inc : ∀ a ∈ R.feds, a.log.Pairwise fun d e => MLt d.m e.m
theorem addT_ge (t d : Int) : 0 ≤ addT t d := (clampT_le _).1
theorem addT_gt {t d : Int} (h0 : 0 ≤ t) (h1 : t < 1099511627776) (hd : 1 ≤ d) : t < addT t d := by
  unfold addT clampT Inf MaxT
  (repeat' split) <;> omega
theorem stepR_cases (l : List Rule) (s c : Int) : (∃ r ∈ l, r.State = s ∧ r.Class = c ∧ stepR l s c = (r.Next, r.Sends)) ∨ ((∀ r ∈ l, ¬ (r.State = s ∧ r.Class = c)) ∧ stepR l s c = (s, [])) := by
  unfold stepR
  cases h : l.find? fun r => decide (r.State = s) && decide (r.Class = c) with
  | some r =>
    have h1 := List.find?_some h
    rw [Bool.and_eq_true] at h1
    exact .inl ⟨r, List.mem_of_find?_eq_some h, of_decide_eq_true h1.1, of_decide_eq_true h1.2, rfl⟩
  | none =>
    rw [List.find?_eq_none] at h
    exact .inr ⟨fun r hr hn => h r hr (by rw [Bool.and_eq_true]; exact ⟨decide_eq_true hn.1, decide_eq_true hn.2⟩), rfl⟩
theorem step_outs {wd : Wd} (hw : WdOk wd) {f : Fed} (hf : f ∈ wd.Feds) (s c : Int) : (stepR f.Rules s c).2.length ≤ 3 ∧ ∀ o ∈ (stepR f.Rules s c).2, okSend wd.Parents.length o ∧ 1 ≤ o.Delay := by
  rcases stepR_cases f.Rules s c with ⟨r, hr, _, _, h⟩ | ⟨_, h⟩
  · rw [h]; exact hw.sends f hf r hr
  · rw [h]; exact ⟨by simp, by simp⟩
theorem runOk_init {wd : Wd} (hw : WdOk wd) : RunOk wd (initR wd) 0 := by
  have hp := putL_perm (startsL wd.Parents wd.Feds wd.Feds) []
  rw [List.append_nil] at hp
  have hmem : ∀ m, m ∈ (initR wd).wait → ∃ (i : Nat) (fd : Fed), wd.Feds[i]? = some fd ∧ m ∈ spreadL wd.Parents wd.Feds (i : Int) 0 0 0 fd.Init := fun m hm => starts_mem (hp.mem_iff.1 hm)
  refine ⟨by simp [initR], putL_sorted List.Pairwise.nil ((starts_inc _ _ _).imp fun h => h.ne) (by simp), fun m hm => ?_, fun m hm => ?_, ?_, fun a ha => ?_, fun i a hi d hd => ?_, fun a ha => ?_⟩
  · obtain ⟨i, fd, h1, h2⟩ := hmem m hm
    have h3 := spread_by h2
    obtain ⟨o, ho⟩ := h3.time
    exact ⟨h3.to.1, h3.to.2.1, h3.body, by rw [ho]; exact addT_ge _ _⟩
  · obtain ⟨i, fd, h1, h2⟩ := hmem m hm
    have h3 := spread_by h2
    have hi := (List.getElem?_eq_some_iff.1 h1).1
    have hfr := h3.from'
    refine ⟨by omega, by omega, fun h => h3.to.2.2 (by rw [← h, hfr]), by have := h3.seq.1; omega, fun a ha => ?_⟩
    rw [hfr, Int.toNat_natCast] at ha
    unfold initR at ha
    simp only [List.getElem?_map, h1, Option.map_some, Option.some.injEq] at ha
    rw [← ha]
    have := h3.seq.2
    show m.key.Seq < (fd.Init.length : Int)
    omega
  · have h1 := hp.length_eq
    have h2 := starts_len (ps := wd.Parents) hw.n.2 (l := wd.Feds) fun f hf => (hw.init f hf).1
    have h3 := hw.n.2
    show (putL [] (startsL wd.Parents wd.Feds wd.Feds)).length ≤ 256 + 24 * 0
    omega
  · obtain ⟨f, hf, rfl⟩ := List.mem_map.1 ha
    have := (hw.init f hf).1
    exact ⟨by simp, by show (f.Init.length : Int) ≤ 4 + 3 * (0 : Nat); omega, by simp⟩
  · have := List.mem_of_getElem? hi
    obtain ⟨f, hf, rfl⟩ := List.mem_map.1 this
    simp at hd
  · obtain ⟨f, hf, rfl⟩ := List.mem_map.1 ha
    exact List.Pairwise.nil
theorem nextR_some {wd : Wd} {R R' : RS} {d : Done} (h : nextR wd R = some (d, R')) : ∃ m rest f a, R.wait = m :: rest ∧ m.key.T < wd.End ∧ wd.Feds[m.To.toNat]? = some f ∧ R.feds[m.To.toNat]? = some a ∧ (d, R') = takeM wd f a m rest R := by
  unfold nextR at h
  split at h
  · cases h
  · rename_i m rest hw
    split at h
    · cases h
    · rename_i ht
      split at h
      · rename_i f a hf ha
        injection h with h
        exact ⟨m, rest, f, a, hw, by omega, hf, ha, h.symm⟩
      · cases h
theorem runOk_next {wd : Wd} (hw : WdOk wd) {R R' : RS} {k : Nat} {d : Done} (hR : RunOk wd R k) (h : nextR wd R = some (d, R')) : RunOk wd R' (k + 1) := by
  obtain ⟨m, rest, f, a, hwait, hT, hf, ha, heq⟩ := nextR_some h
  have hfm := List.mem_of_getElem? hf
  have ham := List.mem_of_getElem? ha
  have hm : m ∈ R.wait := by rw [hwait]; simp
  obtain ⟨t1, t2, t3, t4⟩ := hR.to m hm
  obtain ⟨o1, o2⟩ := step_outs hw hfm a.st m.Class
  have hs := hR.sorted
  rw [hwait] at hs
  obtain ⟨s1, s2⟩ := List.pairwise_cons.1 hs
  obtain ⟨a1, a2, a3⟩ := hR.sent a ham
  have hE := hw.en.2
  have e2 : R' = (takeM wd f a m rest R).2 := congrArg Prod.snd heq
  generalize hst : stepR f.Rules a.st m.Class = so at o1 o2
  have hfeds : R'.feds = R.feds.set m.To.toNat ⟨so.1, a.sent + so.2.length, a.log ++ [⟨m, so.1⟩]⟩ := by rw [e2, ← hst]; rfl
  have hwt : R'.wait = putL rest (spreadL wd.Parents wd.Feds m.To a.sent m.key.T m.Body so.2) := by rw [e2, ← hst]; rfl
  generalize hms : spreadL wd.Parents wd.Feds m.To a.sent m.key.T m.Body so.2 = ms at hwt
  have hby : ∀ y ∈ ms, SentBy wd.Feds m.To a.sent m.key.T so.2.length y := fun y hy => spread_by (by rw [hms]; exact hy)
  have htime : ∀ y ∈ ms, m.key.T < y.key.T := by
    intro y hy
    rw [← hms] at hy
    obtain ⟨i, o, to, h1, _, rfl⟩ := spread_mem hy
    exact addT_gt t4 (by omega) (o2 o (List.mem_of_getElem? h1)).2
  have hlt : ∀ y ∈ ms, MLt m y := fun y hy => .inl (.inl (htime y hy))
  have hperm := putL_perm ms rest
  have hmem : ∀ y, y ∈ R'.wait → y ∈ ms ∨ y ∈ rest := fun y hy => by
    rw [hwt] at hy
    exact List.mem_append.1 (hperm.mem_iff.1 hy)
  have hin : ∀ y ∈ rest, y ∈ R.wait := fun y hy => by rw [hwait]; simp [hy]
  have hTo : m.To.toNat < R.feds.length := (List.getElem?_eq_some_iff.1 ha).1
  have hgetN : ∀ (i : Nat) b, R'.feds[i]? = some b → (i = m.To.toNat ∧ b = ⟨so.1, a.sent + so.2.length, a.log ++ [⟨m, so.1⟩]⟩) ∨ (i ≠ m.To.toNat ∧ R.feds[i]? = some b) := by
    intro i b hb
    rw [hfeds] at hb
    by_cases hi : i = m.To.toNat
    · subst hi
      rw [List.getElem?_set_self hTo] at hb
      exact .inl ⟨rfl, (Option.some.inj hb).symm⟩
    · rw [List.getElem?_set_ne (fun h => hi h.symm)] at hb
      exact .inr ⟨hi, hb⟩
  have hmemN : ∀ b ∈ R'.feds, b = ⟨so.1, a.sent + so.2.length, a.log ++ [⟨m, so.1⟩]⟩ ∨ b ∈ R.feds := by
    intro b hb
    obtain ⟨i, hi⟩ := List.getElem?_of_mem hb
    rcases hgetN i b hi with h | h
    · exact .inl h.2
    · exact .inr (List.mem_of_getElem? h.2)
  have hbig : ∀ x y, (∀ z ∈ R.wait, MLt x z) → y ∈ R'.wait → MLt x y := by
    intro x y hx hy
    rcases hmem y hy with hy | hy
    · exact (hx m hm).trans (hlt y hy)
    · exact hx y (hin y hy)
  refine ⟨by rw [hfeds, List.length_set]; exact hR.len, ?_, fun y hy => ?_, fun y hy => ?_, ?_, fun b hb => ?_, fun i b hb d' hd => ?_, fun b hb => ?_⟩
  · rw [hwt]
    refine putL_sorted s2 (by rw [← hms]; exact (spread_inc _ _ _ _ _ _ _).imp fun h => h.ne) fun x hx y hy => ?_
    rintro ⟨h1, h2⟩
    have h3 := hby y hy
    obtain ⟨p1, p2, p3, p4, p5⟩ := hR.src x (hin x hx)
    have h4 : x.key.From = m.To := by rw [h1]; exact h3.from'
    have h5 := p5 a (by rw [h4]; exact ha)
    have h6 := h3.seq.1
    rw [← h1] at h6
    omega
  · rcases hmem y hy with hy | hy
    · have h3 := hby y hy
      obtain ⟨o, ho⟩ := h3.time
      exact ⟨h3.to.1, h3.to.2.1, h3.body, by rw [ho]; exact addT_ge _ _⟩
    · exact hR.to y (hin y hy)
  · rcases hmem y hy with hy | hy
    · have h3 := hby y hy
      have hfr := h3.from'
      refine ⟨by omega, by omega, fun h => h3.to.2.2 (by rw [← h, hfr]), by have := h3.seq.1; omega, fun b hb => ?_⟩
      rw [hfr] at hb
      rcases hgetN _ b hb with h | h
      · rw [h.2]; exact h3.seq.2
      · exact absurd rfl h.1
    · obtain ⟨p1, p2, p3, p4, p5⟩ := hR.src y (hin y hy)
      refine ⟨p1, p2, p3, p4, fun b hb => ?_⟩
      rcases hgetN _ b hb with h | h
      · have h5 := p5 a (by rw [h.1]; exact ha)
        rw [h.2]
        show y.key.Seq < a.sent + so.2.length
        omega
      · exact p5 b h.2
  · have h1 := hperm.length_eq
    rw [List.length_append] at h1
    have h2 := spreadL_len wd.Parents wd.Feds m.To a.sent m.key.T m.Body so.2
    rw [hms] at h2
    have h3 : so.2.length * wd.Feds.length ≤ 3 * 8 := Nat.mul_le_mul o1 hw.n.2
    have h4 := hR.cnt
    rw [hwait, List.length_cons] at h4
    rw [hwt]
    omega
  · rcases hmemN b hb with rfl | hb
    · exact ⟨by show 0 ≤ a.sent + so.2.length; omega, by show a.sent + so.2.length ≤ 4 + 3 * (k + 1 : Nat); omega, by simp; omega⟩
    · obtain ⟨b1, b2, b3⟩ := hR.sent b hb
      exact ⟨b1, by omega, by omega⟩
  · rcases hgetN i b hb with ⟨rfl, rfl⟩ | ⟨hi, hb⟩
    · rcases List.mem_append.1 hd with hd | hd
      · obtain ⟨q1, q2, q3⟩ := hR.logs _ a ha d' hd
        exact ⟨q1, fun y hy => hbig _ y q2 hy, q3⟩
      · rw [List.mem_singleton.1 hd]
        refine ⟨by show m.To = ((m.To.toNat : Nat) : Int); omega, fun y hy => ?_, hT⟩
        rcases hmem y hy with hy | hy
        · exact hlt y hy
        · exact s1 y hy
    · obtain ⟨q1, q2, q3⟩ := hR.logs i b hb d' hd
      exact ⟨q1, fun y hy => hbig _ y q2 hy, q3⟩
  · rcases hmemN b hb with rfl | hb
    · rw [List.pairwise_append]
      refine ⟨hR.inc a ham, List.pairwise_singleton _ _, fun x hx y hy => ?_⟩
      rw [List.mem_singleton.1 hy]
      exact (hR.logs _ a ha x hx).2.1 m hm
    · exact hR.inc b hb
theorem nextR_none {wd : Wd} {R : RS} (h : R.wait = [] ∨ ∃ m rest, R.wait = m :: rest ∧ wd.End ≤ m.key.T) : nextR wd R = none := by
  unfold nextR
  rcases h with h | ⟨m, rest, h, ht⟩
  · rw [h]
  · rw [h]
    simp [ht]
theorem nextR_take {wd : Wd} {R : RS} {m : Msg} {rest : List Msg} {f : Fed} {a : FA} (h : R.wait = m :: rest) (ht : m.key.T < wd.End) (hf : wd.Feds[m.To.toNat]? = some f) (ha : R.feds[m.To.toNat]? = some a) : nextR wd R = some (takeM wd f a m rest R) := by
  unfold nextR
  rw [h]
  simp only [if_neg (show ¬ wd.End ≤ m.key.T by omega), hf, ha]
/-- So many steps, at most. -/
def stepsR (wd : Wd) : Nat → RS → Nat × RS
  | 0, R => (0, R)
  | n + 1, R => match nextR wd R with
    | none => (0, R)
    | some x => ((stepsR wd n x.2).1 + 1, (stepsR wd n x.2).2)
theorem runOk_steps {wd : Wd} (hw : WdOk wd) : ∀ (n : Nat) {R : RS} {k : Nat}, RunOk wd R k → RunOk wd (stepsR wd n R).2 (k + (stepsR wd n R).1) ∧ (stepsR wd n R).1 ≤ n
  | 0, R, k, h => ⟨h, Nat.le_refl _⟩
  | n + 1, R, k, h => by
    unfold stepsR
    split
    · exact ⟨h, Nat.zero_le _⟩
    · rename_i x hx
      obtain ⟨h1, h2⟩ := runOk_steps hw n (runOk_next hw h (d := x.1) (R' := x.2) hx)
      refine ⟨?_, by omega⟩
      rw [show k + ((stepsR wd n x.2).1 + 1) = k + 1 + (stepsR wd n x.2).1 from by omega]
      exact h1
end Go.Proofs.YtenglfaeohgkfaaGreat
