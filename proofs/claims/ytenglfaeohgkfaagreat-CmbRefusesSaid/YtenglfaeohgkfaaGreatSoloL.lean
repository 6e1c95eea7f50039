/- The heap of what waits: the methods. Conditions: none. The heap of what waits: up, down, Push, Pop. Conditions: at most a million messages. -/
import Derived.Test.YtenglfaeohgkfaaGreatSoloJ
import Derived.Test.YtenglfaeohgkfaaGreatTimeB
import Derived.Test.YtenglfaeohgkfaaGreatEngS
namespace Go.Proofs.YtenglfaeohgkfaaGreat
open Go Go.E
set_option maxRecDepth 100000
variable {e w : World} {L R : List HP} {K : KV} {S S2 : HP}

abbrev rW (r : Nat) : Value := .pointer (some ⟨r, 4, none⟩)
theorem nilchk {xt : TypeId} {a : Addr} {x y : String} : (Builtin.ssaWrapNilChk_ #[xt] xt #[.pointer (some a), strVal x, strVal y]).run prog w = .ok (.pointer (some a)) w := by rfl
theorem meth_via {t elem : TypeId} {a : Addr} {name : String} {f : FuncId} {n : Nat} {inf : TypeInfo} {v : Value} (hi : prog.info? t = some inf) (hmm : (inf.methods.find? (·.name == name)).map (fun m => (m.path, m.func)) = some (#[], some (f, false))) (hu : prog.underlying t = some (.pointer elem))
    (hl : (loadVar elem a).run prog w = .ok v w) : (Go.method (n + 1) t (.pointer (some a)) name).run prog w = .ok (f, v) w := by
  obtain ⟨m, hm, hpf⟩ := Option.map_eq_some_iff.1 hmm
  have hp : m.path = #[] := congrArg Prod.fst hpf
  have hf : m.func = some (f, false) := congrArg Prod.snd hpf
  unfold Go.method
  simp only [Sem.run_bind, run_ti hi, Result.andThen_ok, hm, hp, hf, follow, Sem.run_pure, receiverAt, run_und hu, Place.get, asAddr]
  rw [if_pos (by rfl)]
  simp only [Sem.run_bind, nilchk, Result.andThen_ok, Sem.run_pure, hl]

/-! ### The order -/
def MLt (a b : Msg) : Prop := KeyLt a.key b.key ∨ (a.key = b.key ∧ a.To < b.To)
def cmpM (a b : Msg) : Int := if cmpK a.key b.key ≠ 0 then cmpK a.key b.key else cmpI a.To b.To
theorem cmpI_lt {a b : Int} : cmpI a b < 0 ↔ a < b := by unfold cmpI; split <;> (try split) <;> omega
theorem cmpK_zero {a b : Key} : cmpK a b = 0 ↔ a = b := by
  rcases cmpK_cases a b with ⟨h1, h2⟩ | ⟨h1, h2⟩ | ⟨h1, h2⟩
  · exact ⟨fun h => by omega, fun h => absurd h1 (by rw [h]; exact KeyLt.irrefl _)⟩
  · exact ⟨fun _ => h1, fun _ => h2⟩
  · exact ⟨fun h => by omega, fun h => absurd h1 (by rw [h]; exact KeyLt.irrefl _)⟩
theorem cmpM_lt {a b : Msg} : cmpM a b < 0 ↔ MLt a b := by
  unfold cmpM MLt
  by_cases h : cmpK a.key b.key = 0
  · rw [if_neg (fun k => k h), cmpI_lt]
    have hk := cmpK_zero.1 h
    constructor
    · exact fun h => .inr ⟨hk, h⟩
    · rintro (h2 | h2)
      · rw [hk] at h2; exact absurd h2 (KeyLt.irrefl _)
      · exact h2.2
  · rw [if_pos h, cmpK_lt]
    constructor
    · exact .inl
    · rintro (h2 | h2)
      · exact h2
      · exact absurd (cmpK_zero.2 h2.1) h
theorem MLt.irrefl (a : Msg) : ¬ MLt a a := by
  rintro (h | h)
  · exact KeyLt.irrefl _ h
  · omega
theorem MLt.trans {a b c : Msg} (h : MLt a b) (k : MLt b c) : MLt a c := by
  rcases h with h | ⟨h1, h2⟩
  · rcases k with k | ⟨k1, k2⟩
    · exact .inl (h.trans k)
    · rw [k1] at h; exact .inl h
  · rcases k with k | ⟨k1, k2⟩
    · rw [← h1] at k; exact .inl k
    · exact .inr ⟨h1.trans k1, by omega⟩
theorem MLt.asymm {a b : Msg} (h : MLt a b) : ¬ MLt b a := fun k => MLt.irrefl _ (h.trans k)
theorem MLt.tri (a b : Msg) : MLt a b ∨ (a.key = b.key ∧ a.To = b.To) ∨ MLt b a := by
  rcases KeyLt.tri a.key b.key with h | h | h
  · exact .inl (.inl h)
  · rcases Int.lt_trichotomy a.To b.To with k | k | k
    · exact .inl (.inr ⟨h, k⟩)
    · exact .inr (.inl ⟨h, k⟩)
    · exact .inr (.inr (.inr ⟨h.symm, k⟩))
  · exact .inr (.inr (.inl h))
theorem mLE_trans {a b c : Msg} (h : ¬ MLt a b) (k : ¬ MLt b c) : ¬ MLt a c := by
  intro hac
  rcases MLt.tri a b with h1 | h1 | h1
  · exact h h1
  · apply k
    rcases hac with h2 | h2
    · left; rw [← h1.1]; exact h2
    · right; rw [← h1.1, ← h1.2]; exact h2
  · exact k (h1.trans hac)
/-! ### What waits, in the run's block -/
/-- The exchange of two. -/
def swapW (l : List Msg) (i k : Nat) (x y : Msg) : List Msg := (l.set i y).set k x
theorem swapW_len (l : List Msg) (i k : Nat) (x y : Msg) : (swapW l i k x y).length = l.length := by simp [swapW]
theorem swapW_get {l : List Msg} {i k : Nat} {x y : Msg} (hx : l[i]? = some x) (hy : l[k]? = some y) (n : Nat) : (swapW l i k x y)[n]? = if n = k then some x else if n = i then some y else l[n]? := by
  have hi := (List.getElem?_eq_some_iff.1 hx).1
  have hk := (List.getElem?_eq_some_iff.1 hy).1
  unfold swapW
  rw [List.getElem?_set]
  by_cases h : k = n
  · subst h; simp [hk]
  · have h' : ¬ n = k := fun e => h e.symm
    rw [if_neg h, if_neg h', List.getElem?_set]
    by_cases h2 : i = n
    · subst h2; simp [hi]
    · have h2' : ¬ n = i := fun e => h2 e.symm
      rw [if_neg h2, if_neg h2']
theorem swapW_perm {l : List Msg} {i k : Nat} {x y : Msg} (hx : l[i]? = some x) (hy : l[k]? = some y) : (swapW l i k x y).Perm l := by
  have hi := (List.getElem?_eq_some_iff.1 hx)
  have hk := (List.getElem?_eq_some_iff.1 hy)
  by_cases hik : i = k
  · subst hik
    rw [hx] at hy
    injection hy with hy
    subst hy
    have : swapW l i i x x = l := by
      apply List.ext_getElem?
      intro n
      rw [swapW_get hx hx]
      split
      · rename_i e; subst e; exact hx.symm
      · rfl
    rw [this]
  · unfold swapW
    have h1 := List.set_set_perm hi.1 hk.1
    rw [hi.2, hk.2] at h1
    exact h1
theorem pre_get {pre : List Value} {v : Value} (hp : pre.length = 4) : (pre ++ [v])[4]? = some v := by
  rw [List.getElem?_append_right (by omega), hp]; rfl
theorem pre_set {pre : List Value} {v u : Value} (hp : pre.length = 4) : wrL (pre ++ [v]) 4 [u] = pre ++ [u] := by
  unfold wrL
  rw [List.take_left' hp, List.drop_of_length_le (by simp [hp]), List.append_nil]
end Go.Proofs.YtenglfaeohgkfaaGreat
namespace Go.Proofs.YtenglfaeohgkfaaGreat
open Go Go.E
set_option maxRecDepth 100000
variable {e w : World} {R : List HP} {K : KV}

theorem quoW_s {k : IntKind} {a b : Int} (hb : b ≠ 0) (h : K (.int k (k.wrap (a.tdiv b))) w) : bi .quo k (.int k a) (.int k b) w K := ⟨a, b, rfl, rfl, fun _ => hb, h⟩
def HeapyW (l : List Msg) (n : Nat) : Prop := ∀ (i : Nat) (x y : Msg), 0 < i → i < n → l[i]? = some x → l[(i - 1) / 2]? = some y → ¬ MLt x y
def UpW (l : List Msg) (j : Nat) : Prop :=
  (∀ (i : Nat) (x y : Msg), 0 < i → i ≠ j → l[i]? = some x → l[(i - 1) / 2]? = some y → ¬ MLt x y) ∧
  ∀ (i : Nat) (x y : Msg), 0 < i → 0 < j → (i - 1) / 2 = j → l[i]? = some x → l[(j - 1) / 2]? = some y → ¬ MLt x y
def DownW (l : List Msg) (j n : Nat) : Prop :=
  (∀ (i : Nat) (x y : Msg), 0 < i → i < n → (i - 1) / 2 ≠ j → l[i]? = some x → l[(i - 1) / 2]? = some y → ¬ MLt x y) ∧
  ∀ (i : Nat) (x y : Msg), 0 < i → i < n → 0 < j → (i - 1) / 2 = j → l[i]? = some x → l[(j - 1) / 2]? = some y → ¬ MLt x y
theorem HeapyW.min {l : List Msg} {n : Nat} (h : HeapyW l n) (hn : n ≤ l.length) {z : Msg} (hz : l[0]? = some z) : ∀ (i : Nat) (x : Msg), i < n → l[i]? = some x → ¬ MLt x z := by
  intro i
  induction i using Nat.strongRecOn with
  | _ i ih =>
    intro x hi hx
    by_cases h0 : i = 0
    · subst h0
      rw [hz] at hx
      injection hx with hx
      subst hx
      exact MLt.irrefl _
    · obtain ⟨y, hy⟩ := get_of_lt (l := l) (j := (i - 1) / 2) (by omega)
      exact mLE_trans (h i x y (by omega) hi hx hy) (ih _ (by omega) y (by omega) hy)
theorem UpW.done {l : List Msg} {j : Nat} (h : UpW l j) (hj : j = 0 ∨ ∃ x y, l[j]? = some x ∧ l[(j - 1) / 2]? = some y ∧ ¬ MLt x y) : HeapyW l l.length := by
  intro i x y hi _ hx hy
  by_cases hij : i = j
  · subst hij
    rcases hj with hj | ⟨x', y', hx', hy', hn⟩
    · omega
    · rw [hx] at hx'
      rw [hy] at hy'
      injection hx' with hx'
      injection hy' with hy'
      subst hx' hy'
      exact hn
  · exact h.1 i x y hi hij hx hy
theorem UpW.step {l : List Msg} {j : Nat} {x y : Msg} (h : UpW l j) (hj : 0 < j) (hx : l[j]? = some x) (hy : l[(j - 1) / 2]? = some y) (hlt : MLt x y) : UpW (swapW l ((j - 1) / 2) j y x) ((j - 1) / 2) := by
  obtain ⟨h1, h2⟩ := h
  have hg := swapW_get (i := (j - 1) / 2) (k := j) hy hx
  constructor
  · intro i a b hi hij ha hb
    rw [hg] at ha hb
    by_cases e1 : i = j
    · subst e1
      rw [if_pos rfl] at ha
      rw [if_neg (by omega), if_pos rfl] at hb
      injection ha with ha
      injection hb with hb
      subst ha hb
      exact hlt.asymm
    · rw [if_neg e1, if_neg hij] at ha
      by_cases e2 : (i - 1) / 2 = j
      · rw [if_pos e2] at hb
        injection hb with hb
        subst hb
        exact h2 i a y hi hj e2 ha hy
      · rw [if_neg e2] at hb
        by_cases e3 : (i - 1) / 2 = (j - 1) / 2
        · rw [if_pos e3] at hb
          injection hb with hb
          subst hb
          have := h1 i a y hi e1 ha (by rw [e3]; exact hy)
          intro hax
          exact this (hax.trans hlt)
        · rw [if_neg e3] at hb
          exact h1 i a b hi e1 ha hb
  · intro i a b hi hp hpar ha hb
    rw [hg] at ha hb
    rw [if_neg (by omega), if_neg (by omega)] at hb
    have hyb := h1 ((j - 1) / 2) y b hp (by omega) hy hb
    by_cases e1 : i = j
    · rw [if_pos e1] at ha
      injection ha with ha
      subst ha
      exact hyb
    · rw [if_neg e1, if_neg (by omega)] at ha
      have := h1 i a y hi e1 ha (by rw [hpar]; exact hy)
      exact mLE_trans this hyb

theorem DownW.done {l : List Msg} {j n : Nat} (h : DownW l j n) (hj : ∀ (i : Nat) (x y : Msg), 0 < i → i < n → (i - 1) / 2 = j → l[i]? = some x → l[j]? = some y → ¬ MLt x y) : HeapyW l n := by
  intro i x y hi hn hx hy
  by_cases hij : (i - 1) / 2 = j
  · exact hj i x y hi hn hij hx (by rw [← hij]; exact hy)
  · exact h.1 i x y hi hn hij hx hy
/-- c is j's smallest child, and below it. -/
theorem DownW.step {l : List Msg} {j c n : Nat} {x y : Msg} (h : DownW l j n) (hc0 : 0 < c) (hcn : c < n) (hcj : (c - 1) / 2 = j) (hx : l[j]? = some x) (hy : l[c]? = some y) (hlt : MLt y x)
    (hmin : ∀ (i : Nat) (a : Msg), 0 < i → i < n → (i - 1) / 2 = j → l[i]? = some a → ¬ MLt a y) : DownW (swapW l j c x y) c n := by
  obtain ⟨h1, h2⟩ := h
  have hg := swapW_get (i := j) (k := c) hx hy
  constructor
  · intro i a b hi hn hij ha hb
    rw [hg] at ha hb
    rw [if_neg hij] at hb
    by_cases e1 : i = c
    · subst e1
      rw [if_pos rfl] at ha
      rw [if_pos hcj] at hb
      injection ha with ha
      injection hb with hb
      subst ha hb
      exact hlt.asymm
    · rw [if_neg e1] at ha
      by_cases e2 : (i - 1) / 2 = j
      · rw [if_pos e2] at hb
        rw [if_neg (by omega)] at ha
        injection hb with hb
        subst hb
        exact hmin i a hi hn e2 ha
      · rw [if_neg e2] at hb
        by_cases e3 : i = j
        · rw [if_pos e3] at ha
          injection ha with ha
          subst ha
          subst e3
          exact h2 c y b hc0 hcn hi hcj hy hb
        · rw [if_neg e3] at ha
          exact h1 i a b hi hn e2 ha hb
  · intro i a b hi hn hc hpar ha hb
    rw [hg] at ha hb
    rw [if_neg (by omega), if_neg (by omega)] at ha
    rw [if_neg (by omega), if_pos hcj] at hb
    injection hb with hb
    subst hb
    exact h1 i a y hi hn (by omega) ha (by rw [hpar]; exact hy)

end Go.Proofs.YtenglfaeohgkfaaGreat
