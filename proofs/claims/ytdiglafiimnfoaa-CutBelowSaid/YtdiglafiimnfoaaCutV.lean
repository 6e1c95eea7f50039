/- The layer's theorem of cuts, in plain: what is kept from act to act. Conditions: none. -/
import Derived.Test.YtdiglafiimnfoaaCutT
namespace Go.Proofs.Ytdiglafiimnfoaa
open Go Go.E
set_option maxRecDepth 100000

structure Heldm where
  to : Int
  t : Int
  colour : Int
def Heldm.ns (h : Heldm) : List Int := [h.to, h.t, h.colour]
abbrev Heldm.cs (h : Heldm) : List Value := ints h.ns
def cnt (l : List Heldm) (q : Int) : Int := ((l.filter fun h => decide (h.colour = q)).length : Int)
theorem cnt_append (l r : List Heldm) (q : Int) : cnt (l ++ r) q = cnt l q + cnt r q := by
  unfold cnt
  rw [List.filter_append, List.length_append, Int.natCast_add]
theorem cnt_cons (h : Heldm) (l : List Heldm) (q : Int) : cnt (h :: l) q = (if h.colour = q then 1 else 0) + cnt l q := by
  unfold cnt
  by_cases e : h.colour = q
  · rw [List.filter_cons_of_pos (by simpa using e), if_pos e, List.length_cons]; omega
  · rw [List.filter_cons_of_neg (by simpa using e), if_neg e]; omega
theorem cnt_nil (q : Int) : cnt [] q = 0 := rfl
theorem cnt_nonneg (l : List Heldm) (q : Int) : 0 ≤ cnt l q := by unfold cnt; omega
theorem cnt_zero {l : List Heldm} {q : Int} (h : cnt l q ≤ 0) : ∀ x ∈ l, x.colour ≠ q := by
  intro x hx e
  unfold cnt at h
  have h0 : (l.filter fun h => decide (h.colour = q)).length = 0 := by omega
  rw [List.length_eq_zero_iff] at h0
  have : x ∈ l.filter fun h => decide (h.colour = q) := List.mem_filter.2 ⟨hx, by simpa using e⟩
  rw [h0] at this
  cases this
theorem CutS.on_of {c : CutS} {k x q : Int} (hk : k = 0 ∨ k = 1) (hq : q = 0 ∨ q = 1) : (c.setOn k x).on q = if q = k then x else c.on q := by
  unfold CutS.setOn CutS.on
  rcases hk with rfl | rfl <;> rcases hq with rfl | rfl <;> simp

structure BInv (k j : Nat) (c : CutS) (a : List Int) (on : List Heldm) : Prop where
  low : CutLow k j c
  inv : CutInv k c
  al : a.length = k
  hcnt : ∀ q, q = 0 ∨ q = 1 → c.on q = cnt on q
  hcol : ∀ h ∈ on, h.colour = 0 ∨ h.colour = 1
  hon : ∀ h ∈ on, c.value ≤ h.t ∧ 0 ≤ h.t ∧ h.t ≤ 255 * j
  hat : ∀ (i : Nat) (x : Int), a[i]? = some x → c.value ≤ x ∧ 0 ≤ x ∧ x ≤ 255 * j
  hq : ¬ c.over < c.begun → ∀ h ∈ on, h.colour = c.begun % 2
  i1 : c.over < c.begun → ∀ h ∈ on, h.colour = c.begun % 2 → c.least ≤ h.t
  i2 : c.over < c.begun → ∀ (i : Nat) (x : Int), a[i]? = some x → c.Rp i = c.begun → c.least ≤ x
  i3 : c.over < c.begun → (∃ i, i < k ∧ c.Rp i = c.begun) → (∀ i, i < k → c.T i = c.begun) ∧ ∀ h ∈ on, h.colour = c.begun % 2
variable {k j : Nat} {c : CutS} {a : List Int} {on : List Heldm}
theorem BInv.next (h : BInv k j c a on) : BInv k (j + 1) c a on :=
  ⟨h.low.next, h.inv, h.al, h.hcnt, h.hcol, fun x hx => by have := h.hon x hx; omega, fun i x hx => by have := h.hat i x hx; omega, h.hq, h.i1, h.i2, h.i3⟩

theorem BInv.go (h : BInv k j c a on) {i : Nat} {x d : Int} (hx : a[i]? = some x) (hd : 0 ≤ d ∧ d ≤ 255) : BInv k (j + 1) c (a.set i (x + d)) on := by
  have hn := h.next
  have hi : i < a.length := (List.getElem?_eq_some_iff.1 hx).1
  have hxx := h.hat i x hx
  refine ⟨hn.low, hn.inv, by rw [List.length_set]; exact h.al, hn.hcnt, hn.hcol, hn.hon, fun m y hy => ?_, hn.hq, hn.i1, fun hu m y hy hr => ?_, hn.i3⟩
  · rw [set_get hi] at hy
    split at hy
    · cases hy; omega
    · exact hn.hat m y hy
  · rw [set_get hi] at hy
    split at hy
    · rename_i e; subst e; cases hy; have := h.i2 hu _ x hx hr; omega
    · exact hn.i2 hu m y hy hr

theorem BInv.sent (h : BInv k j c a on) {i : Nat} {b x d : Int} (hik : i < k) (hx : a[i]? = some x) (hd : 0 ≤ d ∧ d ≤ 255) : BInv k (j + 1) (c.sent i (x + d)) a (on ++ [⟨b, x + d, c.T i % 2⟩]) := by
  have hn := h.next
  have hxx := h.hat i x hx
  obtain ⟨v0, v1, v2, v3, v4⟩ := h.inv
  have hT := v3 i hik
  have hc2 : c.T i % 2 = 0 ∨ c.T i % 2 = 1 := Int.emod_two_eq _
  have hmem : ∀ y, y ∈ on ++ [(⟨b, x + d, c.T i % 2⟩ : Heldm)] → y ∈ on ∨ y = ⟨b, x + d, c.T i % 2⟩ := fun y hy => by
    rcases List.mem_append.1 hy with h | h
    · exact .inl h
    · exact .inr (List.mem_singleton.1 h)
  have hcnt' : ∀ q, q = 0 ∨ q = 1 → (c.setOn (c.T i % 2) (c.on (c.T i % 2) + 1)).on q = cnt (on ++ [⟨b, x + d, c.T i % 2⟩]) q := fun q hq => by
    rw [CutS.on_of hc2 hq, cnt_append, cnt_cons, cnt_nil, h.hcnt _ hc2]
    by_cases e : q = c.T i % 2
    · rw [if_pos e, if_pos e.symm, e]; omega
    · rw [if_neg e, if_neg (fun x => e x.symm), h.hcnt q hq]; omega
  have hcol' : ∀ y ∈ on ++ [(⟨b, x + d, c.T i % 2⟩ : Heldm)], y.colour = 0 ∨ y.colour = 1 := fun y hy => by
    rcases hmem y hy with h1 | rfl
    · exact h.hcol y h1
    · exact hc2
  have hon' : ∀ y ∈ on ++ [(⟨b, x + d, c.T i % 2⟩ : Heldm)], c.value ≤ y.t ∧ 0 ≤ y.t ∧ y.t ≤ 255 * ((j + 1 : Nat) : Int) := fun y hy => by
    rcases hmem y hy with h1 | rfl
    · exact hn.hon y h1
    · show c.value ≤ x + d ∧ 0 ≤ x + d ∧ x + d ≤ _
      omega
  have hlow := h.low.sent i (x + d)
  by_cases hs : c.over < c.begun ∧ c.T i = c.begun
  · obtain ⟨hu, ht⟩ := hs
    have es : c.sent i (x + d) = { c.setOn (c.T i % 2) (c.on (c.T i % 2) + 1) with least := min c.least (x + d) } := if_pos ⟨hu, ht⟩
    rw [es] at hlow ⊢
    have e1 := CutS.setOn_begun c (c.T i % 2) (c.on (c.T i % 2) + 1)
    have e2 := CutS.setOn_over c (c.T i % 2) (c.on (c.T i % 2) + 1)
    have e3 := CutS.setOn_T c (c.T i % 2) (c.on (c.T i % 2) + 1)
    have e4 := CutS.setOn_Rp c (c.T i % 2) (c.on (c.T i % 2) + 1)
    have e5 := CutS.setOn_value c (c.T i % 2) (c.on (c.T i % 2) + 1)
    have hi' : CutInv k { c.setOn (c.T i % 2) (c.on (c.T i % 2) + 1) with least := min c.least (x + d) } := h.inv.congr e2 e1 e3 e4
    generalize c.setOn (c.T i % 2) (c.on (c.T i % 2) + 1) = c' at *
    refine ⟨hlow, hi', h.al, hcnt', hcol', ?_, ?_, ?_, ?_, ?_, ?_⟩
    · show ∀ h : Heldm, h ∈ _ → c'.value ≤ h.t ∧ _; rw [e5]; exact hon'
    · show ∀ (i : Nat) (x : Int), _ → c'.value ≤ x ∧ _; rw [e5]; exact hn.hat
    · show ¬ c'.over < c'.begun → _; rw [e1, e2]; exact fun hnu => absurd hu hnu
    · show c'.over < c'.begun → ∀ h : Heldm, h ∈ _ → h.colour = c'.begun % 2 → min c.least (x + d) ≤ h.t
      rw [e1, e2]
      intro _ y hy hc
      rcases hmem y hy with h1 | rfl
      · have := h.i1 hu y h1 hc; omega
      · show _ ≤ x + d; omega
    · show c'.over < c'.begun → ∀ (i : Nat) (y : Int), a[i]? = some y → c'.Rp i = c'.begun → min c.least (x + d) ≤ y
      rw [e1, e2, e4]
      intro _ m y hy hr
      have := h.i2 hu m y hy hr
      omega
    · show c'.over < c'.begun → (∃ i, i < k ∧ c'.Rp i = c'.begun) → (∀ i, i < k → c'.T i = c'.begun) ∧ ∀ h : Heldm, h ∈ _ → h.colour = c'.begun % 2
      rw [e1, e2, e3, e4]
      intro _ hr
      obtain ⟨g1, g2⟩ := h.i3 hu hr
      refine ⟨g1, fun y hy => ?_⟩
      rcases hmem y hy with h1 | rfl
      · exact g2 y h1
      · show c.T i % 2 = _; rw [ht]
  · have es : c.sent i (x + d) = c.setOn (c.T i % 2) (c.on (c.T i % 2) + 1) := if_neg hs
    rw [es] at hlow ⊢
    have e1 := CutS.setOn_begun c (c.T i % 2) (c.on (c.T i % 2) + 1)
    have e2 := CutS.setOn_over c (c.T i % 2) (c.on (c.T i % 2) + 1)
    have e3 := CutS.setOn_T c (c.T i % 2) (c.on (c.T i % 2) + 1)
    have e4 := CutS.setOn_Rp c (c.T i % 2) (c.on (c.T i % 2) + 1)
    have e5 := CutS.setOn_value c (c.T i % 2) (c.on (c.T i % 2) + 1)
    have e6 := CutS.setOn_least c (c.T i % 2) (c.on (c.T i % 2) + 1)
    have hi' : CutInv k (c.setOn (c.T i % 2) (c.on (c.T i % 2) + 1)) := h.inv.congr e2 e1 e3 e4
    generalize c.setOn (c.T i % 2) (c.on (c.T i % 2) + 1) = c' at *
    refine ⟨hlow, hi', h.al, hcnt', hcol', by rw [e5]; exact hon', by rw [e5]; exact hn.hat, ?_, ?_, ?_, ?_⟩
    · rw [e1, e2]
      intro hnu y hy
      rcases hmem y hy with h1 | rfl
      · exact h.hq hnu y h1
      · show c.T i % 2 = c.begun % 2
        rw [show c.T i = c.begun by omega]
    · rw [e1, e2, e6]
      intro hu y hy hc
      rcases hmem y hy with h1 | rfl
      · exact h.i1 hu y h1 hc
      · have hne : ¬ c.T i = c.begun := fun e => hs ⟨hu, e⟩
        have : c.T i % 2 = c.begun % 2 := hc
        omega
    · rw [e1, e2, e4, e6]; exact h.i2
    · rw [e1, e2, e3, e4]
      intro hu hr
      obtain ⟨g1, g2⟩ := h.i3 hu hr
      exact absurd ⟨hu, g1 i hik⟩ hs

theorem BInv.got {l r : List Heldm} {y : Heldm} (h : BInv k j c a (l ++ y :: r)) {b : Nat} {x : Int} (hx : a[b]? = some x) :
    c.gotE y.colour = 0 ∧ BInv k (j + 1) (c.got y.colour) (a.set b (min x y.t)) (l ++ r) := by
  have hn := h.next
  have hb : b < a.length := (List.getElem?_eq_some_iff.1 hx).1
  have hym : y ∈ l ++ y :: r := List.mem_append_right _ List.mem_cons_self
  have hyc := h.hcol y hym
  have hyt := hn.hon y hym
  have hxx := hn.hat b x hx
  have hpos : c.on y.colour = cnt l y.colour + (1 + cnt r y.colour) := by rw [h.hcnt _ hyc, cnt_append, cnt_cons, if_pos rfl]
  have p1 := cnt_nonneg l y.colour
  have p2 := cnt_nonneg r y.colour
  have hno : ¬ (¬ (0 ≤ y.colour ∧ y.colour ≤ 1) ∨ c.on y.colour = 0) := by omega
  have eg : c.got y.colour = c.setOn y.colour (c.on y.colour - 1) := if_neg hno
  have hlow := h.low.got y.colour
  refine ⟨if_neg hno, ?_⟩
  rw [eg] at hlow ⊢
  have hsub : ∀ z ∈ l ++ r, z ∈ l ++ y :: r := fun z hz => by
    rcases List.mem_append.1 hz with h | h
    · exact List.mem_append_left _ h
    · exact List.mem_append_right _ (List.mem_cons_of_mem _ h)
  have e1 := CutS.setOn_begun c y.colour (c.on y.colour - 1)
  have e2 := CutS.setOn_over c y.colour (c.on y.colour - 1)
  have e3 := CutS.setOn_T c y.colour (c.on y.colour - 1)
  have e4 := CutS.setOn_Rp c y.colour (c.on y.colour - 1)
  have e5 := CutS.setOn_value c y.colour (c.on y.colour - 1)
  have e6 := CutS.setOn_least c y.colour (c.on y.colour - 1)
  have hcnt' : ∀ q, q = 0 ∨ q = 1 → (c.setOn y.colour (c.on y.colour - 1)).on q = cnt (l ++ r) q := fun q hq => by
    rw [CutS.on_of hyc hq, cnt_append]
    by_cases e : q = y.colour
    · rw [if_pos e, hpos, e]; omega
    · rw [if_neg e, h.hcnt q hq, cnt_append, cnt_cons, if_neg (fun x => e x.symm)]; omega
  have hi' : CutInv k (c.setOn y.colour (c.on y.colour - 1)) := h.inv.congr e2 e1 e3 e4
  generalize c.setOn y.colour (c.on y.colour - 1) = c' at *
  refine ⟨hlow, hi', by rw [List.length_set]; exact h.al, hcnt', fun z hz => h.hcol z (hsub z hz), by rw [e5]; exact fun z hz => hn.hon z (hsub z hz), ?_, ?_, ?_, ?_, ?_⟩
  · rw [e5]
    intro m z hz
    rw [set_get hb] at hz
    split at hz
    · cases hz; omega
    · exact hn.hat m z hz
  · rw [e1, e2]; exact fun hnu z hz => h.hq hnu z (hsub z hz)
  · rw [e1, e2, e6]; exact fun hu z hz => h.i1 hu z (hsub z hz)
  · rw [e1, e2, e4, e6]
    intro hu m z hz hr
    rw [set_get hb] at hz
    split at hz
    · rename_i e
      subst e
      cases hz
      have hbk : m < k := by rw [← h.al]; exact hb
      have g2 := (h.i3 hu ⟨m, hbk, hr⟩).2 y hym
      have q1 := h.i1 hu y hym g2
      have q2 := h.i2 hu m x hx hr
      omega
    · exact h.i2 hu m z hz hr
  · rw [e1, e2, e3, e4]
    intro hu hr
    obtain ⟨g1, g2⟩ := h.i3 hu hr
    exact ⟨g1, fun z hz => g2 z (hsub z hz)⟩

theorem BInv.begin' (h : BInv k j c a on) : BInv k (j + 1) (if c.over < c.begun then c else { c with begun := c.begun + 1, least := Inf }) a on := by
  have hlow := h.low.begin'
  by_cases hu : c.over < c.begun
  · rw [if_pos hu]; exact h.next
  · rw [if_neg hu] at hlow ⊢
    obtain ⟨v0, v1, v2, v3, v4⟩ := h.inv
    have hn := h.next
    refine ⟨hlow, ⟨v0, by show c.over ≤ c.begun + 1; omega, by show c.begun + 1 ≤ c.over + 1; omega, fun i hi => ⟨(v3 i hi).1, by have := (v3 i hi).2; show c.T i ≤ c.begun + 1; omega⟩, fun i hi => ⟨(v4 i hi).1, by have := (v4 i hi).2; show c.Rp i ≤ c.begun + 1; omega⟩⟩, h.al, h.hcnt, h.hcol, hn.hon, hn.hat, fun hnu => absurd (show c.over < c.begun + 1 by omega) hnu, fun _ z hz hc => ?_, fun _ i x hx hr => ?_, fun _ hr => ?_⟩
    · have h1 := h.hq hu z hz
      have h2 : z.colour = (c.begun + 1) % 2 := hc
      omega
    · have hi : i < k := by rw [← h.al]; exact (List.getElem?_eq_some_iff.1 hx).1
      have := (v4 i hi).2
      have h2 : c.Rp i = c.begun + 1 := hr
      omega
    · obtain ⟨i, hi, hr⟩ := hr
      have := (v4 i hi).2
      have h2 : c.Rp i = c.begun + 1 := hr
      omega

theorem BInv.turn (h : BInv k j c a on) {i : Nat} (hi : i < k) : BInv k (j + 1) (c.turn i) a on := by
  have hlow := h.low.turn i
  by_cases hno : ¬ c.over < c.begun ∨ c.T i = c.begun
  · rw [show c.turn i = c from if_pos hno]; exact h.next
  · rw [show c.turn i = { c with T := updF c.T i c.begun } from if_neg hno] at hlow ⊢
    obtain ⟨v0, v1, v2, v3, v4⟩ := h.inv
    have hn := h.next
    refine ⟨hlow, ⟨v0, v1, v2, fun m hm => ?_, v4⟩, h.al, h.hcnt, h.hcol, hn.hon, hn.hat, h.hq, h.i1, h.i2, fun hu hr => ?_⟩
    · show c.over ≤ updF c.T i c.begun m ∧ updF c.T i c.begun m ≤ c.begun
      by_cases e : m = i
      · subst e; rw [updF_eq]; omega
      · rw [updF_ne _ _ e]; exact v3 m hm
    · have hcu : c.over < c.begun := hu
      obtain ⟨g1, g2⟩ := h.i3 hcu hr
      exact absurd (Or.inr (g1 i hi)) hno

theorem BInv.report (h : BInv k j c a on) {i : Nat} {x : Int} (hi : i < k) (hx : a[i]? = some x) (he : ¬ c.early i) (ho : ¬ 0 < c.on (c.over % 2)) : BInv k (j + 1) (c.rep1 i x).rep2 a on := by
  have hlow := h.low.rep i x
  have hn := h.next
  have hkn := h.low.hn
  obtain ⟨v0, v1, v2, v3, v4⟩ := h.inv
  unfold CutS.early at he
  have hu : c.over < c.begun := by
    by_cases hu : c.over < c.begun
    · exact hu
    · exact absurd (Or.inl hu) he
  have hall : c.all (fun t _ => decide (t = c.begun)) = true := by
    cases ha : c.all (fun t _ => decide (t = c.begun)) with
    | true => rfl
    | false => exact absurd (Or.inr (Or.inl ha)) he
  have hT : ∀ m, m < k → c.T m = c.begun := fun m hm => of_decide_eq_true ((CutS.all_iff hkn _).1 hall m hm)
  have hnew : ∀ z ∈ on, z.colour = c.begun % 2 := fun z hz => by
    have h2 : c.over % 2 = 0 ∨ c.over % 2 = 1 := Int.emod_two_eq _
    rw [h.hcnt _ h2] at ho
    have := cnt_zero (l := on) (q := c.over % 2) (by omega) z hz
    have hz2 := h.hcol z hz
    omega
  have hR : ∀ m, (c.rep1 i x).Rp m = if m = i then c.begun else c.Rp m := fun m => rfl
  have b2 : ∀ (m : Nat) (y : Int), a[m]? = some y → (c.rep1 i x).Rp m = c.begun → min c.least x ≤ y := fun m y hy hr => by
    rw [hR] at hr
    by_cases e : m = i
    · subst e
      rw [hx] at hy
      cases hy
      omega
    · rw [if_neg e] at hr
      have := h.i2 hu m y hy hr
      omega
  have b1 : ∀ z ∈ on, min c.least x ≤ z.t := fun z hz => by
    have := h.i1 hu z hz (hnew z hz)
    omega
  have hRi : ∀ m, m < k → 0 ≤ (c.rep1 i x).Rp m ∧ (c.rep1 i x).Rp m ≤ c.begun := fun m hm => by
    rw [hR]
    split
    · omega
    · exact v4 m hm
  cases hb : (c.rep1 i x).all (fun _ r => decide (r = c.begun)) with
  | false =>
    have e1 : (c.rep1 i x).rep2 = c.rep1 i x := if_neg (by show ¬ (c.rep1 i x).all (fun _ r => decide (r = c.begun)) = true; rw [hb]; decide)
    rw [e1] at hlow ⊢
    exact ⟨hlow, ⟨v0, v1, v2, v3, hRi⟩, h.al, h.hcnt, h.hcol, hn.hon, hn.hat, fun hnu => absurd hu hnu, fun _ z hz _ => b1 z hz, fun _ m y hy hr => b2 m y hy hr, fun _ _ => ⟨hT, hnew⟩⟩
  | true =>
    have e1 : (c.rep1 i x).rep2 = { c.rep1 i x with over := c.begun, value := max c.value (min c.least x) } := if_pos hb
    rw [e1] at hlow ⊢
    have hRb : ∀ m, m < k → (c.rep1 i x).Rp m = c.begun := fun m hm => of_decide_eq_true ((CutS.all_iff (c := c.rep1 i x) hkn _).1 hb m hm)
    have hno : ¬ c.begun < c.begun := Int.lt_irrefl _
    refine ⟨hlow, ⟨by show 0 ≤ c.begun; omega, Int.le_refl _, by show c.begun ≤ c.begun + 1; omega, fun m hm => ?_, hRi⟩, h.al, h.hcnt, h.hcol, fun z hz => ?_, fun m y hy => ?_, fun _ => hnew, fun hu' => absurd hu' hno, fun hu' => absurd hu' hno, fun hu' => absurd hu' hno⟩
    · show c.begun ≤ c.T m ∧ c.T m ≤ c.begun
      rw [hT m hm]
      omega
    · have q1 := hn.hon z hz
      have q2 := b1 z hz
      show max c.value (min c.least x) ≤ z.t ∧ _
      omega
    · have q1 := hn.hat m y hy
      have hmk : m < k := by rw [← h.al]; exact (List.getElem?_eq_some_iff.1 hy).1
      have q2 := b2 m y hy (hRb m hmk)
      show max c.value (min c.least x) ≤ y ∧ _
      omega
/-- The value never falls; it rises where a round is over alone. -/
def Up (c d : CutS) : Prop := c.value ≤ d.value ∧ (c.value < d.value → c.over ≠ d.over)
theorem Up.rfl' (c : CutS) : Up c c := ⟨Int.le_refl _, fun h => absurd h (Int.lt_irrefl _)⟩
theorem Up.rep {c : CutS} {i : Nat} {x : Int} (he : ¬ c.early i) : Up c (c.rep1 i x).rep2 := by
  have hu : c.over < c.begun := by
    by_cases hu : c.over < c.begun
    · exact hu
    · exact absurd (Or.inl hu) he
  unfold CutS.rep2
  split
  · refine ⟨?_, fun _ => ?_⟩
    · show c.value ≤ max c.value _; omega
    · show c.over ≠ c.begun; omega
  · exact Up.rfl' c
theorem Up.sent (c : CutS) (i : Nat) (t : Int) : Up c (c.sent i t) := by
  have e5 := CutS.setOn_value c (c.T i % 2) (c.on (c.T i % 2) + 1)
  unfold CutS.sent Up
  split
  · show c.value ≤ (c.setOn _ _).value ∧ (c.value < (c.setOn _ _).value → _)
    rw [e5]
    exact ⟨Int.le_refl _, fun h => absurd h (Int.lt_irrefl _)⟩
  · rw [e5]
    exact ⟨Int.le_refl _, fun h => absurd h (Int.lt_irrefl _)⟩
theorem Up.got (c : CutS) (q : Int) : Up c (c.got q) := by
  unfold CutS.got
  split
  · exact Up.rfl' c
  · unfold Up
    rw [CutS.setOn_value]
    exact ⟨Int.le_refl _, fun h => absurd h (Int.lt_irrefl _)⟩
theorem Up.turn (c : CutS) (i : Nat) : Up c (c.turn i) := by
  unfold CutS.turn
  split
  · exact Up.rfl' c
  · exact ⟨Int.le_refl _, fun h => absurd h (Int.lt_irrefl _)⟩
theorem Up.begin' (c : CutS) : Up c (if c.over < c.begun then c else { c with begun := c.begun + 1, least := Inf }) := by
  split
  · exact Up.rfl' c
  · exact ⟨Int.le_refl _, fun h => absurd h (Int.lt_irrefl _)⟩
end Go.Proofs.Ytdiglafiimnfoaa
