/- The law TopLine: each member's bound is behind what waits for it. Conditions: the list of lookaheads is no longer than memory. -/
import Derived.Test.YtmgaooeeddmbmaaGreatDoorRtiH
import Derived.Test.YtmgaooeeddmbmaaGreatDoorPf0
import Derived.Test.YtmgaooeeddmbmaaGreatDoorPf1
import Derived.Test.YtmgaooeeddmbmaaGreatDoorPf2
import Derived.Test.YtmgaooeeddmbmaaGreatDoorPf3
import Derived.Test.YtmgaooeeddmbmaaGreatDoorPf4
namespace Go.Proofs.YtmgaooeeddmbmaaGreatDoor
open Go Go.E
set_option maxRecDepth 100000
variable {e w : World} {R : List HP} {K : KV}
variable {C : RC} {s : RS} {f : Nat}

/-! ### The plain law -/
structure St (n : Nat) (F : Nat → Nat → Mb) (L : Nat → List Msg) (s : RS) : Prop where
  m : ∀ j, j < 8 → s.m j = F j (s.m j).q
  l : ∀ j, j < 8 → s.l j = L j
theorem St.setM {n : Nat} {F F' : Nat → Nat → Mb} {L : Nat → List Msg} (h : St n F L s) {m : Mb} (hm : m = F' f (s.m f).q) (hq : m.q = (s.m f).q) (ho : ∀ j q, j < 8 → j ≠ f → F j q = F' j q) : St n F' L (s.setM f m) := by
  refine ⟨fun j hj => ?_, h.l⟩
  show upM s.m f m j = F' j (upM s.m f m j).q
  by_cases hjf : j = f
  · subst hjf
    rw [upM_at, hq]
    exact hm
  · rw [upM_ne hjf, ← ho j _ hj hjf]
    exact h.m j hj
theorem St.setL {n : Nat} {F : Nat → Nat → Mb} {L L' : Nat → List Msg} (h : St n F L s) {l : List Msg} (hl : l = L' f) (ho : ∀ j, j < 8 → j ≠ f → L j = L' j) : St n F L' (s.setL f l) := by
  refine ⟨h.m, fun j hj => ?_⟩
  show upM s.l f l j = L' j
  by_cases hjf : j = f
  · subst hjf
    rw [upM_at]
    exact hl
  · rw [upM_ne hjf, ← ho j hj hjf]
    exact h.l j hj
theorem addT_low {a b : Int} (ha : 0 ≤ a) (hb : 0 ≤ b) (h : a + b ≤ 1000000) : addT a b = a + b := by
  have h1 : clampT a = a := by unfold clampT MaxT; rw [if_neg (by omega), if_neg (by omega)]
  have h2 : clampT b = b := by unfold clampT MaxT; rw [if_neg (by omega), if_neg (by omega)]
  unfold addT
  rw [h1, h2]
  unfold clampT MaxT
  rw [if_neg (by omega), if_neg (by omega)]
theorem later_low {m : LM} {t : Int} (ht : 0 ≤ t ∧ t ≤ 500000) (hl : 1 ≤ m.look ∧ m.look ≤ 256) : m.later t = t + m.look := by
  unfold LM.later
  rw [show max 1 (min m.look 1048576) = m.look by omega]
  exact addT_low ht.1 (by omega) (by omega)
/-- A lookahead. -/
def dk (l : List Int) (i : Nat) : Int := match l[i]? with | some x => 1 + x | none => 1
def tt (l : List Int) : Nat → Int
  | 0 => 0
  | i + 1 => tt l i + dk l i
variable {l : List Int} {n i : Nat}
theorem dk_ok (hw : ∀ m ∈ l, 0 ≤ m ∧ m ≤ 255) (i : Nat) : 1 ≤ dk l i ∧ dk l i ≤ 256 := by
  unfold dk
  cases h : l[i]? with
  | none =>
    show (1 : Int) ≤ 1 ∧ (1 : Int) ≤ 256
    omega
  | some x =>
    have := hw x (List.mem_of_getElem? h)
    show 1 ≤ 1 + x ∧ 1 + x ≤ 256
    omega
theorem tt_ok (hw : ∀ m ∈ l, 0 ≤ m ∧ m ≤ 255) : ∀ i : Nat, (i : Int) ≤ tt l i ∧ tt l i ≤ 256 * i
  | 0 => ⟨by simp [tt], by simp [tt]⟩
  | i + 1 => by
    have h1 := tt_ok hw i
    have h2 := dk_ok hw i
    show ((i + 1 : Nat) : Int) ≤ tt l i + dk l i ∧ tt l i + dk l i ≤ 256 * ((i + 1 : Nat) : Int)
    omega
/-- Members while the i first ones are set up; while the i first ones are constrained; while the i first ones asked. -/
def subsOf (n j : Nat) : Int := if 1 ≤ j ∧ j < n then bitV (j - 1) else 0
def mbA (l : List Int) (i j q : Nat) : Mb := if j < i then ⟨true, false, 0, dk l j, 0, 0, 0, q, subsOf i j⟩ else mb0 q
def mbB (l : List Int) (n i j q : Nat) : Mb := if j < n then ⟨true, decide (1 ≤ j ∧ j < i), 0, dk l j, 0, 0, 0, q, subsOf n j⟩ else mb0 q
def mbC (l : List Int) (n i j q : Nat) : Mb := if j < n then ⟨true, decide (1 ≤ j), 0, dk l j, if j < i then (if j = 0 then 1 else 2) else 0, if j < i then 100000 else 0, if j = 0 then 1 else 0, q, subsOf n j⟩ else mb0 q
def mbD (l : List Int) (n i j q : Nat) : Mb := if j < n then ⟨true, decide (1 ≤ j), if 1 ≤ j ∧ j < i then tt l j else 0, dk l j, if j = 0 then 1 else 2, 100000, if j < i then 1 else 0, q, subsOf n j⟩ else mb0 q
def msgAt (l : List Int) (i : Nat) : Msg := ⟨⟨tt l i, ((i - 1 : Nat) : Int), 0⟩, (i : Int), ((i - 1 : Nat) : Int), (i : Int)⟩
def linesL (l : List Int) (i j : Nat) : List Msg := if j = i then [msgAt l i] else []
structure Tab (n i : Nat) (s : RS) : Prop where
  p : ∀ j, j < 8 → s.pu j = if j < i then bitV j else 0
  u : ∀ j, j < 8 → s.su j = if j < i then subW n j else 0

theorem subsOf_eq {n j : Nat} : subsOf n j = subW n j := by
  unfold subsOf subW bitW bitV
  by_cases h : 1 ≤ j ∧ j < n
  · rw [if_pos h, decide_eq_true h]; rfl
  · rw [if_neg h, decide_eq_false h]; rfl
theorem lat_idle {m : Mb} {q : List Msg} (hk : m.kind = 0) (ht : 0 ≤ m.time ∧ m.time ≤ 100000) (hl : 1 ≤ m.look ∧ m.look ≤ 256) : (lmOf m q).lat = m.time + m.look := by
  have h1 : (lmOf m q).own = (addT m.time 0, false) := by
    unfold LM.own lmOf
    simp [hk]
  unfold LM.lat
  rw [h1]
  show (lmOf m q).later (addT m.time 0) = _
  rw [addT_low ht.1 (by omega) (by omega), Int.add_zero]
  exact later_low (m := lmOf m q) (by omega) hl
theorem lat_asks {m : Mb} {q : List Msg} (hk : m.kind = 1) (ha : m.ask = 100000) (hl : 1 ≤ m.look ∧ m.look ≤ 256) : (lmOf m q).lat = 100000 + m.look := by
  have h1 : (lmOf m q).own = (addT m.ask 0, false) := by
    unfold LM.own lmOf
    simp [hk]
  unfold LM.lat
  rw [h1]
  show (lmOf m q).later (addT m.ask 0) = _
  rw [ha, addT_low (by omega) (by omega) (by omega), Int.add_zero]
  exact later_low (m := lmOf m q) (by omega) hl
theorem lat_next {m : Mb} {q : List Msg} {x : Int} (hk : m.kind = 2) (hc : m.con = true) (ha : m.ask = 100000) (ht : 0 ≤ m.time ∧ m.time ≤ 100000) (hq : firstT q = x) (hx : m.time ≤ x ∧ x ≤ 100000 ∨ x = 1125899906842624) (hl : 1 ≤ m.look ∧ m.look ≤ 256) :
    (lmOf m q).lat = min 100000 x + m.look := by
  have h1 : (lmOf m q).own = (max (addT m.time 0) (min (addT m.ask 0) (addT x 0)), true) := by
    unfold LM.own lmOf
    simp [hk, hc, hq]
  unfold LM.lat
  rw [h1]
  have h2 : max (addT m.time 0) (min (addT m.ask 0) (addT x 0)) = min 100000 x := by
    rw [ha, addT_low ht.1 (by omega) (by omega), addT_low (a := 100000) (by omega) (by omega) (by omega)]
    rcases hx with hx | hx
    · rw [addT_low (a := x) (by omega) (by omega) (by omega)]
      omega
    · have h3 : addT x 0 = 1125899906842624 := by rw [hx]; decide
      rw [h3]
      omega
  show (lmOf m q).later (max (addT m.time 0) (min (addT m.ask 0) (addT x 0))) = _
  rw [h2]
  exact later_low (m := lmOf m q) (by omega) hl
/-- While the i-th one looks, nothing comes as early as what waits for it. -/
theorem lat_D (hw : ∀ m ∈ l, 0 ≤ m ∧ m ≤ 255) (hi : 1 ≤ i ∧ i < 8) {L : Nat → List Msg} (hL : ∀ j, j < 8 → L j = linesL l i j) (j q : Nat) (hj : j < 8) (hlk : 0 < (mbD l n i j q).look) : tt l i + 1 ≤ (lmOf (mbD l n i j q) (L j)).lat := by
  have h1 := tt_ok hw i
  have h2 := tt_ok hw j
  have h3 := dk_ok hw j
  rw [hL j hj]
  by_cases hn : j < n
  · by_cases h0 : j = 0
    · have e1 : (lmOf (mbD l n i j q) (linesL l i j)).lat = 100000 + (mbD l n i j q).look := lat_asks (by unfold mbD; rw [if_pos hn]; simp [h0]) (by unfold mbD; rw [if_pos hn]) (by unfold mbD; rw [if_pos hn]; exact h3)
      have e2 : (mbD l n i j q).look = dk l j := by unfold mbD; rw [if_pos hn]
      rw [e1, e2]
      omega
    · have hl0 : (mbD l n i j q).look = dk l j := by simp [mbD, hn]
      have htm : (mbD l n i j q).time = if 1 ≤ j ∧ j < i then tt l j else 0 := by simp [mbD, hn]
      have htm2 : 0 ≤ (mbD l n i j q).time ∧ (mbD l n i j q).time ≤ 100000 := by rw [htm]; split <;> omega
      by_cases hji : j = i
      · have e1 := lat_next (m := mbD l n i j q) (q := linesL l i j) (x := tt l i) (by simp [mbD, hn, h0]) (by simp [mbD, hn]; omega) (by simp [mbD, hn]) htm2 (by simp [linesL, hji, firstT, msgAt]) (.inl (by rw [htm, if_neg (by omega)]; omega)) (by rw [hl0]; exact h3)
        rw [e1, hl0]
        omega
      · have e1 := lat_next (m := mbD l n i j q) (q := linesL l i j) (x := 1125899906842624) (by simp [mbD, hn, h0]) (by simp [mbD, hn]; omega) (by simp [mbD, hn]) htm2 (by simp [linesL, hji, firstT]) (.inr rfl) (by rw [hl0]; exact h3)
        rw [e1, hl0]
        omega
  · simp [mbD, hn, mb0] at hlk
end Go.Proofs.YtmgaooeeddmbmaaGreatDoor
