/- The engine, part E: what memory holds, as a list of components, each on its own part of the heap; and the operations' rules over it. Conditions: none. -/
import Derived.Test.YtmgaooeeddmbmaaGreatDoorEngD
namespace Go.E
open Go.RowKit

/-! ### Components -/
abbrev Hp := Nat → Option Obj
abbrev HP := Hp → Prop
def hp (w : World) : Hp := fun b => w.heap[b]?
def Sub (h g : Hp) : Prop := ∀ b o, h b = some o → g b = some o
def Dis (h g : Hp) : Prop := ∀ b, h b = none ∨ g b = none

def SatH : List HP → Hp → Prop
  | [], _ => True
  | P :: l, h => ∃ h1 h2, Dis h1 h2 ∧ Sub h1 h ∧ Sub h2 h ∧ P h1 ∧ SatH l h2

theorem Sub.refl (h : Hp) : Sub h h := fun _ _ e => e
theorem Sub.trans {a b c : Hp} (h : Sub a b) (k : Sub b c) : Sub a c := fun x o e => k x o (h x o e)
theorem Dis.symm {a b : Hp} (h : Dis a b) : Dis b a := fun x => (h x).symm
theorem Dis.sub {a b c : Hp} (h : Dis a b) (k : Sub c b) : Dis a c := fun x => by
  cases hc : c x with
  | none => exact .inr rfl
  | some o =>
    rcases h x with h | h
    · exact .inl h
    · rw [k x o hc] at h; cases h

theorem SatH.up {l : List HP} {h g : Hp} (hl : SatH l h) (hs : Sub h g) : SatH l g := by
  cases l with
  | nil => trivial
  | cons P l =>
    obtain ⟨h1, h2, d, s1, s2, p, r⟩ := hl
    exact ⟨h1, h2, d, s1.trans hs, s2.trans hs, p, r⟩

theorem SatH.swap {P Q : HP} {l : List HP} {h : Hp} (hl : SatH (P :: Q :: l) h) : SatH (Q :: P :: l) h := by
  obtain ⟨h1, h2, d, s1, s2, p, g1, g2, d', t1, t2, q, r⟩ := hl
  -- the union of h1 and g2
  let u : Hp := fun b => match h1 b with | some o => some o | none => g2 b
  have u1 : Sub h1 u := fun b o e => by simp only [u, e]
  have u2 : Sub g2 u := fun b o e => by
    rcases d b with k | k
    · simp only [u, k, e]
    · rw [t2 b o e] at k; cases k
  have uh : Sub u h := fun b o e => by
    simp only [u] at e
    cases hb : h1 b with
    | some o' => rw [hb] at e; simp only at e; cases e; exact s1 b _ hb
    | none => rw [hb] at e; exact s2 b o (t2 b o e)
  refine ⟨g1, u, fun b => ?_, t1.trans s2, uh, q, h1, g2, d.sub t2, u1, u2, p, r⟩
  cases hb : g1 b with
  | none => exact .inl rfl
  | some o =>
    refine .inr ?_
    simp only [u]
    rcases d b with k | k
    · rw [k]; rcases d' b with k' | k'
      · rw [hb] at k'; cases k'
      · exact k'
    · rw [t1 b o hb] at k; cases k

theorem SatH.perm {l l' : List HP} (hp : l.Perm l') : ∀ {h : Hp}, SatH l h → SatH l' h := by
  induction hp with
  | nil => exact fun h => h
  | cons P _ ih =>
    intro h ⟨h1, h2, d, s1, s2, p, r⟩
    exact ⟨h1, h2, d, s1, s2, p, ih r⟩
  | swap P Q l => exact fun h => h.swap
  | trans _ _ ih1 ih2 => exact fun h => ih2 (ih1 h)

theorem SatH.head_imp {P Q : HP} {l : List HP} {h : Hp} (hl : SatH (P :: l) h) (hi : ∀ g, P g → Q g) : SatH (Q :: l) h := by
  obtain ⟨h1, h2, d, s1, s2, p, r⟩ := hl
  exact ⟨h1, h2, d, s1, s2, hi _ p, r⟩
theorem SatH.tail {P : HP} {l : List HP} {h : Hp} (hl : SatH (P :: l) h) : SatH l h := by
  obtain ⟨h1, h2, d, s1, s2, p, r⟩ := hl
  exact r.up s2

/-- The parts of a list, as one component. -/
def sepL (l : List HP) : HP := fun h => SatH l h
theorem SatH.append {l : List HP} : ∀ {k : List HP} {h : Hp}, SatH (sepL k :: l) h → SatH (k ++ l) h
  | [], h, hl => hl.tail
  | P :: k, h, hl => by
    obtain ⟨h1, h2, d, s1, s2, ⟨g1, g2, d', t1, t2, p, r'⟩, r⟩ := hl
    have : SatH (P :: sepL k :: l) h := by
      let u : Hp := fun b => match g2 b with | some o => some o | none => h2 b
      have u1 : Sub g2 u := fun b o e => by simp only [u, e]
      have u2 : Sub h2 u := fun b o e => by
        cases hb : g2 b with
        | none => simp only [u, hb, e]
        | some o' =>
          rcases d b with k | k
          · rw [t2 b o' hb] at k; cases k
          · rw [e] at k; cases k
      refine ⟨g1, u, fun b => ?_, t1.trans s1, fun b o e => ?_, p, g2, h2, ?_, u1, u2, r', r⟩
      · cases hb : g1 b with
        | none => exact .inl rfl
        | some o =>
          refine .inr ?_
          simp only [u]
          rcases d' b with k | k
          · rw [hb] at k; cases k
          · rw [k]
            rcases d b with k' | k'
            · rw [t1 b o hb] at k'; cases k'
            · exact k'
      · simp only [u] at e
        cases hb : g2 b with
        | some o' => rw [hb] at e; simp only at e; cases e; exact s1 b _ (t2 b _ hb)
        | none => rw [hb] at e; exact s2 b o e
      · exact (d.symm.sub t2).symm
    obtain ⟨h1, h2, d, s1, s2, p, r⟩ := this
    exact ⟨h1, h2, d, s1, s2, p, r.append⟩
theorem SatH.group {l : List HP} : ∀ {k : List HP} {h : Hp}, SatH (k ++ l) h → SatH (sepL k :: l) h
  | [], h, hl => ⟨fun _ => none, h, fun _ => .inl rfl, fun _ _ e => by (cases e), Sub.refl h, trivial, hl⟩
  | P :: k, h, hl => by
    obtain ⟨h1, h2, d, s1, s2, p, r⟩ := hl
    obtain ⟨g1, g2, d', t1, t2, q, r'⟩ := r.group
    let u : Hp := fun b => match h1 b with | some o => some o | none => g1 b
    have u1 : Sub h1 u := fun b o e => by simp only [u, e]
    have u2 : Sub g1 u := fun b o e => by
      rcases d b with k | k
      · simp only [u, k, e]
      · rw [t1 b o e] at k; cases k
    refine ⟨u, g2, fun b => ?_, fun b o e => ?_, t2.trans s2, ⟨h1, g1, d.sub t1, u1, u2, p, q⟩, r'⟩
    · cases hb : g2 b with
      | none => exact .inr rfl
      | some o =>
        refine .inl ?_
        simp only [u]
        rcases d b with k | k
        · rw [k]
          rcases d' b with k' | k'
          · exact k'
          · rw [hb] at k'; cases k'
        · rw [t2 b o hb] at k; cases k
    · simp only [u] at e
      cases hb : h1 b with
      | some o' => rw [hb] at e; simp only at e; cases e; exact s1 b _ hb
      | none => rw [hb] at e; exact s2 b o (t1 b o e)

/-- The world w, behind the start e, holds the components. -/
structure Sat (e w : World) (l : List HP) : Prop where
  os : w.os = e.os
  tape : w.tape = e.tape
  output : w.output = e.output
  drawn : e.drawn ≤ w.drawn
  size : e.heap.size ≤ w.heap.size
  mem : SatH l (hp w)

section
variable {e w : World} {l l' : List HP} {P Q : HP}
theorem Sat.of_mem (h : Sat e w l) (k : SatH l (hp w) → SatH l' (hp w)) : Sat e w l' := ⟨h.os, h.tape, h.output, h.drawn, h.size, k h.mem⟩
theorem Sat.perm (h : Sat e w l) (p : l.Perm l') : Sat e w l' := h.of_mem fun m => m.perm p
theorem Sat.swap (h : Sat e w (P :: Q :: l)) : Sat e w (Q :: P :: l) := h.of_mem fun m => m.swap
theorem Sat.drop (h : Sat e w (P :: l)) : Sat e w l := h.of_mem fun m => m.tail
theorem Sat.imp (h : Sat e w (P :: l)) (k : ∀ g, P g → Q g) : Sat e w (Q :: l) := h.of_mem fun m => m.head_imp k
theorem pick_perm : ∀ (l : List HP) (i : Nat) (P : HP), l[i]? = some P → l.Perm (P :: l.eraseIdx i)
  | [], i, P, h => by simp at h
  | Q :: l, 0, P, h => by
    simp at h
    subst h
    exact List.Perm.refl _
  | Q :: l, i + 1, P, h => by
    simp only [List.getElem?_cons_succ] at h
    simp only [List.eraseIdx_cons_succ]
    exact ((pick_perm l i P h).cons Q).trans (List.Perm.swap _ _ _)
/-- Component i to the front. -/
theorem Sat.pick (h : Sat e w l) (i : Nat) (hi : l[i]? = some P) : Sat e w (P :: l.eraseIdx i) := h.perm (pick_perm l i P hi)
theorem set_perm : ∀ (l : List HP) (i : Nat) (P Q : HP), l[i]? = some P → (Q :: l.eraseIdx i).Perm (l.set i Q)
  | [], i, P, Q, h => by simp at h
  | R :: l, 0, P, Q, h => List.Perm.refl _
  | R :: l, i + 1, P, Q, h => by
    simp only [List.getElem?_cons_succ] at h
    simp only [List.eraseIdx_cons_succ, List.set_cons_succ]
    exact (List.Perm.swap _ _ _).trans ((set_perm l i P Q h).cons R)
theorem Sat.split (h : Sat e w (sepL l' :: l)) : Sat e w (l' ++ l) := h.of_mem fun m => m.append
theorem Sat.join (h : Sat e w (l' ++ l)) : Sat e w (sepL l' :: l) := h.of_mem fun m => m.group

/-- Each component's own part. -/
theorem SatH.parts : ∀ {l : List HP} {h : Hp}, SatH l h → ∃ hs : Nat → Hp, (∀ i j, i ≠ j → Dis (hs i) (hs j)) ∧ (∀ i, Sub (hs i) h) ∧ ∀ (i : Nat) (P : HP), l[i]? = some P → P (hs i)
  | [], h, _ => ⟨fun _ _ => none, fun _ _ _ _ => .inl rfl, fun _ _ _ e => (by cases e), fun i P e => by simp at e⟩
  | P :: l, h, ⟨h1, h2, d, s1, s2, p, r⟩ => by
    obtain ⟨hs, k1, k2, k3⟩ := r.parts
    refine ⟨fun i => match i with | 0 => h1 | i + 1 => hs i, ?_, ?_, ?_⟩
    · intro i j hij
      match i, j with
      | 0, 0 => exact absurd rfl hij
      | 0, j + 1 => exact d.sub (k2 j)
      | i + 1, 0 => exact (d.sub (k2 i)).symm
      | i + 1, j + 1 => exact k1 i j (fun e => hij (by rw [e]))
    · intro i
      match i with
      | 0 => exact s1
      | i + 1 => exact (k2 i).trans s2
    · intro i Q hi
      match i with
      | 0 => simp at hi; subst hi; exact p
      | i + 1 => exact k3 i Q (by simpa using hi)
theorem SatH.of_parts {hs : Nat → Hp} (hd : ∀ i j, i ≠ j → Dis (hs i) (hs j)) : ∀ (is : List Nat) (l : List HP) (h : Hp), is.Nodup → (∀ i ∈ is, Sub (hs i) h) → l.length = is.length → (∀ (n i : Nat) (P : HP), is[n]? = some i → l[n]? = some P → P (hs i)) → SatH l h
  | [], [], _, _, _, _, _ => trivial
  | [], _ :: _, _, _, _, hl, _ => by simp at hl
  | _ :: _, [], _, _, _, hl, _ => by simp at hl
  | i :: is, P :: l, h, hn, hsub, hl, hp => by
    have hn' := List.nodup_cons.1 hn
    -- the union of the rest
    let u : Hp := fun b => (is.findSome? fun j => hs j b)
    have hu : ∀ j ∈ is, Sub (hs j) u := by
      intro j hj b o e
      simp only [u]
      cases hf : is.findSome? (fun j => hs j b) with
      | none => rw [List.findSome?_eq_none_iff] at hf; rw [hf j hj] at e; cases e
      | some o' =>
        obtain ⟨j', hj', e'⟩ := List.exists_of_findSome?_eq_some hf
        by_cases hjj : j = j'
        · subst hjj; rw [e] at e'; exact e'.symm
        · rcases hd j j' hjj b with k | k
          · rw [k] at e; cases e
          · rw [k] at e'; cases e'
    have huh : Sub u h := by
      intro b o e
      obtain ⟨j', hj', e'⟩ := List.exists_of_findSome?_eq_some e
      exact hsub j' (by simp [hj']) b o e'
    refine ⟨hs i, u, fun b => ?_, hsub i (by simp), huh, hp 0 i P rfl rfl, SatH.of_parts hd is l u hn'.2 hu (by simpa using hl) fun n j Q h1 h2 => hp (n + 1) j Q (by simpa using h1) (by simpa using h2)⟩
    cases hb : hs i b with
    | none => exact .inl rfl
    | some o =>
      refine .inr ?_
      simp only [u]
      rw [List.findSome?_eq_none_iff]
      intro j hj
      have hij : i ≠ j := fun e => hn'.1 (e ▸ hj)
      rcases hd i j hij b with k | k
      · rw [hb] at k; cases k
      · exact k
/-- Components by their numbers, each once; the others are let go. -/
theorem Sat.sel (h : Sat e w l) (is : List Nat) (hn : is.Nodup) (hl : is.map (fun i => l[i]?) = l'.map some) : Sat e w l' := h.of_mem fun m => by
  obtain ⟨hs, k1, k2, k3⟩ := m.parts
  refine SatH.of_parts k1 is l' _ hn (fun i _ => k2 i) ?_ fun n i P h1 h2 => ?_
  · have := congrArg List.length hl; simpa using this.symm
  · refine k3 i P ?_
    have := congrArg (fun x => x[n]?) hl
    simp only [List.getElem?_map, h1, h2, Option.map_some, Option.some.injEq] at this
    exact this
/-- The same, ahead of the rest R. -/
theorem Sat.selR {R : List HP} (a b : List HP) (h : Sat e w (a ++ R)) (is : List Nat) (hn : is.Nodup) (hl : is.map (fun i => a[i]?) = b.map some) : Sat e w (b ++ R) := by
  have h1 : Sat e w (sepL R :: a) := Sat.join (l' := R) (h.perm List.perm_append_comm)
  have h2 : Sat e w (sepL R :: b) := h1.sel (0 :: is.map (· + 1)) (by
    rw [List.nodup_cons]
    refine ⟨by simp, ?_⟩
    exact List.Pairwise.map _ (fun x y hxy e => hxy (by omega)) hn) (by simp [← hl, List.map_map, Function.comp_def])
  exact h2.split.perm List.perm_append_comm

def hex {α : Type} (f : α → HP) : HP := fun h => ∃ x, f x h
def pur (p : Prop) : HP := fun _ => p
theorem Sat.ex {α : Type} {f : α → HP} (h : Sat e w (hex f :: l)) : ∃ x, Sat e w (f x :: l) := by
  obtain ⟨h1, h2, d, s1, s2, ⟨x, p⟩, r⟩ := h.mem
  exact ⟨x, h.of_mem fun _ => ⟨h1, h2, d, s1, s2, p, r⟩⟩
theorem Sat.mk_ex {α : Type} {f : α → HP} (x : α) (h : Sat e w (f x :: l)) : Sat e w (hex f :: l) := h.imp fun _ p => ⟨x, p⟩
theorem Sat.pure {p : Prop} (h : Sat e w (pur p :: l)) : p ∧ Sat e w l := by
  obtain ⟨h1, h2, d, s1, s2, q, r⟩ := h.mem
  exact ⟨q, h.drop⟩
theorem Sat.mk_pure {p : Prop} (hp : p) (h : Sat e w l) : Sat e w (pur p :: l) :=
  h.of_mem fun m => ⟨fun _ => none, Go.E.hp w, fun _ => .inl rfl, fun _ _ e => by (cases e), Sub.refl _, hp, m⟩
end

end Go.E
