/- Links: what each function of link does. Conditions: the net is one that New made. -/
import Derived.Test.YtcocbmbadigjbaaData
import Derived.Test.YtcocbmbadigjbaaPfTy
import Derived.Test.YtcocbmbadigjbaaEngN
import Derived.Test.YtcocbmbadigjbaaPf0
import Derived.Test.YtcocbmbadigjbaaPf1
import Derived.Test.YtcocbmbadigjbaaPf2
import Derived.Test.YtcocbmbadigjbaaPf3
import Derived.Test.YtcocbmbadigjbaaPf4
namespace Go.Proofs.Ytcocbmbadigjbaa
open Go Go.E
set_option maxRecDepth 100000

structure Item where
  Kind : Int
  m : Msg
  Colour : Int
  deriving DecidableEq
def Item.ns (x : Item) : List Int := [x.Kind, x.m.key.T, x.m.key.From, x.m.key.Seq, x.m.To, x.m.Class, x.m.Body, x.Colour]
abbrev Item.cs (x : Item) : List Value := ints x.ns
def Item.zero : Item := ⟨0, ⟨⟨0, 0, 0⟩, 0, 0, 0⟩, 0⟩
theorem Item.eq_ns (a b : Item) : (a.ns == b.ns) = decide (a = b) := by
  rw [Bool.eq_iff_iff]
  obtain ⟨a0, ⟨⟨a1, a2, a3⟩, a4, a5, a6⟩, a7⟩ := a
  obtain ⟨b0, ⟨⟨b1, b2, b3⟩, b4, b5, b6⟩, b7⟩ := b
  simp [Item.ns, and_assoc]

/-! ### A block of ints, as a function -/
def funL (N : Nat) (D : Nat → Int) : List Value := ints ((List.range N).map D)
theorem funL_len (N : Nat) (D : Nat → Int) : (funL N D).length = N := by simp [funL, ints]
theorem funL_get {N k : Nat} {D : Nat → Int} (h : k < N) : (funL N D)[k]? = some (.int .i64 (D k)) := by simp [funL, ints, h]
theorem funL_sub {N k m : Nat} {D : Nat → Int} (h : k + m ≤ N) : ((funL N D).drop k).take m = ints ((List.range m).map fun j => D (k + j)) := by
  apply List.ext_getElem
  · simp [funL, ints]; omega
  · intro i h1 h2
    simp [funL, ints]
def updR (D : Nat → Int) (k : Nat) (xs : List Int) : Nat → Int := fun i => if k ≤ i ∧ i < k + xs.length then xs.getD (i - k) 0 else D i
theorem funL_set {N k : Nat} {D : Nat → Int} {xs : List Int} (h : k + xs.length ≤ N) : wrL (funL N D) k (ints xs) = funL N (updR D k xs) := by
  apply List.ext_getElem?
  intro i
  rw [wrL_get _ _ _ (by rw [funL_len, ints_length]; exact h), ints_length]
  by_cases hi : i < N
  · rw [funL_get hi, funL_get hi]
    unfold updR
    by_cases h1 : i < k
    · rw [if_pos h1, if_neg (by omega)]
    · rw [if_neg h1]
      by_cases h2 : i < k + xs.length
      · rw [if_pos h2, if_pos ⟨by omega, h2⟩]
        have : i - k < xs.length := by omega
        simp [ints, this]
      · rw [if_neg h2, if_neg (by omega)]
  · rw [if_neg (by omega), if_neg (by omega)]
    rw [List.getElem?_eq_none (by rw [funL_len]; omega), List.getElem?_eq_none (by rw [funL_len]; omega)]
theorem updR_out {D : Nat → Int} {k : Nat} {xs : List Int} {i : Nat} (h : i < k ∨ k + xs.length ≤ i) : updR D k xs i = D i := if_neg (by omega)
theorem updR_in {D : Nat → Int} {k : Nat} {xs : List Int} {j : Nat} (h : j < xs.length) : updR D k xs (k + j) = xs.getD j 0 := by
  unfold updR
  rw [if_pos ⟨by omega, by omega⟩, Nat.add_sub_cancel_left]
theorem updR_at {D : Nat → Int} {k : Nat} {x : Int} : updR D k [x] k = x := updR_in (j := 0) (k := k) (by simp)

/-! ### Rings -/
structure RingAt (D : Nat → Int) (o : Nat) (q : List Item) (f : Nat) : Prop where
  hf : f < 16
  df : D (o + 128) = f
  dm : D (o + 129) = q.length
  len : q.length ≤ 16
  item : ∀ j x, q[j]? = some x → ∀ i, i < 8 → D (o + (f + j) % 16 * 8 + i) = x.ns.getD i 0
theorem RingAt.congr {D E : Nat → Int} {o : Nat} {q : List Item} {f : Nat} (h : RingAt D o q f) (hd : ∀ i, i < 130 → E (o + i) = D (o + i)) : RingAt E o q f := by
  refine ⟨h.hf, by rw [hd _ (by omega)]; exact h.df, by rw [hd _ (by omega)]; exact h.dm, h.len, fun j x hx i hi => ?_⟩
  have := Nat.mod_lt (f + j) (show 0 < 16 by omega)
  rw [Nat.add_assoc, hd _ (by omega), ← Nat.add_assoc]
  exact h.item j x hx i hi
theorem RingAt.sub {D : Nat → Int} {o : Nat} {q : List Item} {f : Nat} (h : RingAt D o q f) {x : Item} (hx : q[0]? = some x) : ((List.range 8).map fun j => D (o + f * 8 + j)) = x.ns := by
  have h0 := h.item 0 x hx
  rw [Nat.add_zero, Nat.mod_eq_of_lt h.hf] at h0
  show [D (o + f * 8 + 0), D (o + f * 8 + 1), D (o + f * 8 + 2), D (o + f * 8 + 3), D (o + f * 8 + 4), D (o + f * 8 + 5), D (o + f * 8 + 6), D (o + f * 8 + 7)] = _
  rw [h0 0 (by omega), h0 1 (by omega), h0 2 (by omega), h0 3 (by omega), h0 4 (by omega), h0 5 (by omega), h0 6 (by omega), h0 7 (by omega)]
  rfl
theorem RingAt.push {D : Nat → Int} {o : Nat} {q : List Item} {f : Nat} (h : RingAt D o q f) (hl : q.length < 16) (x : Item) :
    RingAt (updR (updR D (o + (f + q.length) % 16 * 8) x.ns) (o + 129) [((q.length : Int) + 1)]) o (q ++ [x]) f := by
  have hm := Nat.mod_lt (f + q.length) (show 0 < 16 by omega)
  have hx8 : x.ns.length = 8 := rfl
  refine ⟨h.hf, ?_, ?_, by simp; omega, fun j y hy i hi => ?_⟩
  · rw [updR_out (by simp), updR_out (by rw [hx8]; omega)]; exact h.df
  · rw [updR_at]; simp
  · have hj := Nat.mod_lt (f + j) (show 0 < 16 by omega)
    rw [updR_out (by left; omega)]
    by_cases hjl : j < q.length
    · rw [List.getElem?_append_left hjl] at hy
      have hne : (f + j) % 16 ≠ (f + q.length) % 16 := by have := h.hf; omega
      rw [updR_out (by rw [hx8]; omega)]
      exact h.item j y hy i hi
    · have hjq : j = q.length := by
        have := (List.getElem?_eq_some_iff.1 hy).1
        simp at this
        omega
      subst hjq
      rw [List.getElem?_append_right (Nat.le_refl _), Nat.sub_self] at hy
      simp at hy
      subst hy
      rw [updR_in (by rw [hx8]; exact hi)]
theorem RingAt.pop {D : Nat → Int} {o : Nat} {q : List Item} {f : Nat} {x : Item} (h : RingAt D o (x :: q) f) :
    RingAt (updR (updR D (o + 128) [(((f + 1) % 16 : Nat) : Int)]) (o + 129) [(q.length : Int)]) o q ((f + 1) % 16) := by
  refine ⟨Nat.mod_lt _ (by omega), ?_, updR_at, by have := h.len; simp at this; omega, fun j y hy i hi => ?_⟩
  · rw [updR_out (by left; omega), updR_at]
  · have hj := Nat.mod_lt ((f + 1) % 16 + j) (show 0 < 16 by omega)
    rw [updR_out (by left; omega), updR_out (by left; omega)]
    have := h.item (j + 1) y (by simpa using hy) i hi
    rw [show (f + (j + 1)) % 16 = ((f + 1) % 16 + j) % 16 from by omega] at this
    exact this

/-! ### Nets -/
def offL (a b : Nat) : Nat := 2 + a * 1040 + b * 130
structure NetOk (D : Nat → Int) (n room : Int) (Q : Nat → Nat → List Item) : Prop where
  dn : D 0 = n
  dr : D 1 = room
  hn : 1 ≤ n ∧ n ≤ 8
  hr : 1 ≤ room ∧ room ≤ 16
  ring : ∀ a b, a < 8 → b < 8 → ∃ f, RingAt D (offL a b) (Q a b) f
  room : ∀ a b, a < 8 → b < 8 → ((Q a b).length : Int) ≤ room
def IsNet (g : Nat) (n room : Int) (Q : Nat → Nat → List Item) : HP := hex fun D : Nat → Int => sepL [blk g 54 (funL 8322 D), pur (NetOk D n room Q)]
def updQ (Q : Nat → Nat → List Item) (a b : Nat) (q : List Item) : Nat → Nat → List Item := fun c d => if c = a ∧ d = b then q else Q c d
theorem NetOk.upd {D E : Nat → Int} {n room : Int} {Q : Nat → Nat → List Item} (h : NetOk D n room Q) {a b : Nat} (ha : a < 8) (hb : b < 8) {q : List Item} {f : Nat} (hq : RingAt E (offL a b) q f) (hl : (q.length : Int) ≤ room)
    (hE : ∀ i, (i < offL a b ∨ offL a b + 130 ≤ i) → E i = D i) : NetOk E n room (updQ Q a b q) := by
  refine ⟨by rw [hE 0 (by unfold offL; omega)]; exact h.dn, by rw [hE 1 (by unfold offL; omega)]; exact h.dr, h.hn, h.hr, fun c d hc hd => ?_, fun c d hc hd => ?_⟩
  · by_cases hcd : c = a ∧ d = b
    · obtain ⟨rfl, rfl⟩ := hcd
      exact ⟨f, by unfold updQ; rw [if_pos ⟨rfl, rfl⟩]; exact hq⟩
    · obtain ⟨f', hf'⟩ := h.ring c d hc hd
      refine ⟨f', ?_⟩
      unfold updQ
      rw [if_neg hcd]
      refine hf'.congr fun i hi => hE _ ?_
      unfold offL
      omega
  · unfold updQ
    split
    · exact hl
    · exact h.room c d hc hd

variable {e w : World} {R : List HP} {K : KV}
theorem IsNet.open {g : Nat} {n room : Int} {Q : Nat → Nat → List Item} (hS : Sat e w (IsNet g n room Q :: R)) : ∃ D, NetOk D n room Q ∧ Sat e w (blk g 54 (funL 8322 D) :: R) := by
  obtain ⟨D, h0⟩ := hS.ex
  have h1 := h0.split
  have h2 := h1.pick 1 rfl
  obtain ⟨h3, h4⟩ := h2.pure
  exact ⟨D, h3, h4⟩
theorem IsNet.close {g : Nat} {n room : Int} {Q : Nat → Nat → List Item} {D : Nat → Int} (h : NetOk D n room Q) (hS : Sat e w (blk g 54 (funL 8322 D) :: R)) : Sat e w (IsNet g n room Q :: R) := by
  refine .mk_ex D (.join (l' := [_, _]) ?_)
  exact (Sat.mk_pure h hS).swap

theorem zeroNet : (zeroD prog 54).toList = List.replicate 8322 (.int .i64 0) := by kernel_rfl
theorem fill_net {z : Array Value} {a b : Int} (hz : 2 ≤ z.size) : Instr.fill ((#[(0, 1), (1, 1), (2, 8320)] : Array (Nat × Nat))[·]?) z [(0, .int .i64 a), (1, .int .i64 b)] = some ((z.setIfInBounds 0 (.int .i64 a)).setIfInBounds 1 (.int .i64 b)) := by
  have h1 : ¬ z.size < 1 := by omega
  have h2 : ¬ z.size < 2 := by omega
  simp [Instr.fill, Value.cells, h1, h2]

theorem link_New_s {n room : Int} (h1 : 1 ≤ n) (h2 : n ≤ 8) (h3 : 1 ≤ room) (h4 : room ≤ 16) (hS : Sat e w R)
    (hk : ∀ g w', Sat e w' (IsNet g n room (fun _ _ => []) :: R) → K (.tuple #[.pointer (some ⟨g, 0, none⟩), .int .i64 0]) w') : Cl prog 6 #[.int .i64 n, .int .i64 room] w K := by
  refine link_New_calls ?_
  unfold link_New
  repeat (first | refine gd_tt ?_ | refine gd_ff ?_ | refine gd_tf ?_ | refine gd_ft ?_ | refine gd_u ?_ | refine pk_t ?_ | refine pk_f ?_ | refine iff_t ?_ | refine iff_f ?_ | refine not_t ?_ | refine not_f ?_ | refine beq_s ?_ | refine bne_s ?_ | refine ncP_p ?_ | refine nc_p ?_ | refine fld_at ?_ | refine xt_02 ?_ | refine xt_12 ?_ | refine xt_03 ?_ | refine xt_13 ?_ | refine xt_23 ?_ | refine eq_t (by omega) ?_ | refine eq_f (by omega) ?_ | refine ne_t (by omega) ?_ | refine ne_f (by omega) ?_ | refine lt_t (by omega) ?_ | refine lt_f (by omega) ?_ | refine gt_t (by omega) ?_ | refine gt_f (by omega) ?_ | refine ge_t (by omega) ?_ | refine ge_f (by omega) ?_ | refine le_t (by omega) ?_ | refine le_f (by omega) ?_)
  have hsz : (zeroD prog 54).size = 8322 := by rw [← Array.length_toList, zeroNet, List.length_replicate]
  refine ⟨_, fill_net (by omega), ?_⟩
  refine al_s (cs := funL 8322 (fun i => if i = 0 then n else if i = 1 then room else 0)) hS ?_ fun g w2 hg => ?_
  · show ((((zeroD prog 54).setIfInBounds 0 (.int .i64 n)).setIfInBounds 1 (.int .i64 room))).toList = _
    rw [Array.toList_setIfInBounds, Array.toList_setIfInBounds, zeroNet]
    apply List.ext_getElem?
    intro i
    rw [List.getElem?_set, List.getElem?_set, List.getElem?_replicate]
    by_cases hi : i < 8322
    · rw [funL_get hi]
      by_cases h0 : i = 0
      · subst h0; simp
      · by_cases h1 : i = 1
        · subst h1; simp
        · have e0 : ¬ 0 = i := by omega
          have e1 : ¬ 1 = i := by omega
          simp [h0, h1, e0, e1, hi]
    · rw [List.getElem?_eq_none (by rw [funL_len]; omega)]
      have e0 : ¬ 0 = i := by omega
      have e1 : ¬ 1 = i := by omega
      simp [e0, e1, hi]
  · refine hk _ _ (IsNet.close ⟨rfl, rfl, ⟨h1, h2⟩, ⟨h3, h4⟩, fun a b ha hb => ⟨0, by omega, ?_, ?_, by simp, fun j x hx => by simp at hx⟩, fun a b _ _ => by simp; omega⟩ hg)
    · show (if _ then _ else if _ then _ else (0 : Int)) = _
      unfold offL
      rw [if_neg (by omega), if_neg (by omega)]; rfl
    · show (if _ then _ else if _ then _ else (0 : Int)) = _
      unfold offL
      rw [if_neg (by omega), if_neg (by omega)]; rfl

def okL (n a b : Int) : Prop := 0 ≤ a ∧ 0 ≤ b ∧ a < n ∧ b < n ∧ a ≠ b
instance (n a b : Int) : Decidable (okL n a b) := inferInstanceAs (Decidable (_ ∧ _))
theorem link_of_bad {g : Nat} {n room : Int} {Q : Nat → Nat → List Item} {a b : Int} (hb : ¬ okL n a b) (hS : Sat e w (IsNet g n room Q :: R)) (hk : K (.pointer none) w) : Cl prog 24 #[.pointer (some ⟨g, 0, none⟩), .int .i64 a, .int .i64 b] w K := by
  obtain ⟨D, hD, h1⟩ := IsNet.open hS
  refine link_Net_of_calls ?_
  unfold link_Net_of
  have hn : (funL 8322 D)[0]? = some (.int .i64 n) := by rw [funL_get (by omega), hD.dn]
  unfold okL at hb
  refine lt_c (fun c1 => ?_) (fun c1 => ?_)
  · repeat (first | refine gd_tt ?_ | refine gd_ff ?_ | refine gd_tf ?_ | refine gd_ft ?_ | refine gd_u ?_ | refine pk_t ?_ | refine pk_f ?_ | refine iff_t ?_ | refine iff_f ?_ | refine not_t ?_ | refine not_f ?_ | refine beq_s ?_ | refine bne_s ?_ | refine ncP_p ?_ | refine nc_p ?_ | refine fld_at ?_ | refine xt_02 ?_ | refine xt_12 ?_ | refine xt_03 ?_ | refine xt_13 ?_ | refine xt_23 ?_ | refine eq_t (by omega) ?_ | refine eq_f (by omega) ?_ | refine ne_t (by omega) ?_ | refine ne_f (by omega) ?_ | refine lt_t (by omega) ?_ | refine lt_f (by omega) ?_ | refine gt_t (by omega) ?_ | refine gt_f (by omega) ?_ | refine ge_t (by omega) ?_ | refine ge_f (by omega) ?_ | refine le_t (by omega) ?_ | refine le_f (by omega) ?_)
    exact hk
  · refine gd_ff (gd_ff (lt_c (fun c2 => ?_) (fun c2 => ?_)))
    · repeat (first | refine gd_tt ?_ | refine gd_ff ?_ | refine gd_tf ?_ | refine gd_ft ?_ | refine gd_u ?_ | refine pk_t ?_ | refine pk_f ?_ | refine iff_t ?_ | refine iff_f ?_ | refine not_t ?_ | refine not_f ?_ | refine beq_s ?_ | refine bne_s ?_ | refine ncP_p ?_ | refine nc_p ?_ | refine fld_at ?_ | refine xt_02 ?_ | refine xt_12 ?_ | refine xt_03 ?_ | refine xt_13 ?_ | refine xt_23 ?_ | refine eq_t (by omega) ?_ | refine eq_f (by omega) ?_ | refine ne_t (by omega) ?_ | refine ne_f (by omega) ?_ | refine lt_t (by omega) ?_ | refine lt_f (by omega) ?_ | refine gt_t (by omega) ?_ | refine gt_f (by omega) ?_ | refine ge_t (by omega) ?_ | refine ge_f (by omega) ?_ | refine le_t (by omega) ?_ | refine le_f (by omega) ?_)
      exact hk
    · repeat (first | refine gd_tt ?_ | refine gd_ff ?_ | refine gd_tf ?_ | refine gd_ft ?_ | refine gd_u ?_ | refine pk_t ?_ | refine pk_f ?_ | refine iff_t ?_ | refine iff_f ?_ | refine not_t ?_ | refine not_f ?_ | refine beq_s ?_ | refine bne_s ?_ | refine ncP_p ?_ | refine nc_p ?_ | refine fld_at ?_ | refine xt_02 ?_ | refine xt_12 ?_ | refine xt_03 ?_ | refine xt_13 ?_ | refine xt_23 ?_ | refine eq_t (by omega) ?_ | refine eq_f (by omega) ?_ | refine ne_t (by omega) ?_ | refine ne_f (by omega) ?_ | refine lt_t (by omega) ?_ | refine lt_f (by omega) ?_ | refine gt_t (by omega) ?_ | refine gt_f (by omega) ?_ | refine ge_t (by omega) ?_ | refine ge_f (by omega) ?_ | refine le_t (by omega) ?_ | refine le_f (by omega) ?_)
      refine ld1_at h1 0 rfl hn ?_
      refine gd_ff (ge_c (fun c3 => ?_) (fun c3 => ?_))
      · repeat (first | refine gd_tt ?_ | refine gd_ff ?_ | refine gd_tf ?_ | refine gd_ft ?_ | refine gd_u ?_ | refine pk_t ?_ | refine pk_f ?_ | refine iff_t ?_ | refine iff_f ?_ | refine not_t ?_ | refine not_f ?_ | refine beq_s ?_ | refine bne_s ?_ | refine ncP_p ?_ | refine nc_p ?_ | refine fld_at ?_ | refine xt_02 ?_ | refine xt_12 ?_ | refine xt_03 ?_ | refine xt_13 ?_ | refine xt_23 ?_ | refine eq_t (by omega) ?_ | refine eq_f (by omega) ?_ | refine ne_t (by omega) ?_ | refine ne_f (by omega) ?_ | refine lt_t (by omega) ?_ | refine lt_f (by omega) ?_ | refine gt_t (by omega) ?_ | refine gt_f (by omega) ?_ | refine ge_t (by omega) ?_ | refine ge_f (by omega) ?_ | refine le_t (by omega) ?_ | refine le_f (by omega) ?_)
        exact hk
      · repeat (first | refine gd_tt ?_ | refine gd_ff ?_ | refine gd_tf ?_ | refine gd_ft ?_ | refine gd_u ?_ | refine pk_t ?_ | refine pk_f ?_ | refine iff_t ?_ | refine iff_f ?_ | refine not_t ?_ | refine not_f ?_ | refine beq_s ?_ | refine bne_s ?_ | refine ncP_p ?_ | refine nc_p ?_ | refine fld_at ?_ | refine xt_02 ?_ | refine xt_12 ?_ | refine xt_03 ?_ | refine xt_13 ?_ | refine xt_23 ?_ | refine eq_t (by omega) ?_ | refine eq_f (by omega) ?_ | refine ne_t (by omega) ?_ | refine ne_f (by omega) ?_ | refine lt_t (by omega) ?_ | refine lt_f (by omega) ?_ | refine gt_t (by omega) ?_ | refine gt_f (by omega) ?_ | refine ge_t (by omega) ?_ | refine ge_f (by omega) ?_ | refine le_t (by omega) ?_ | refine le_f (by omega) ?_)
        refine ld1_at h1 0 rfl hn ?_
        refine gd_ff (ge_c (fun c4 => ?_) (fun c4 => ?_))
        · repeat (first | refine gd_tt ?_ | refine gd_ff ?_ | refine gd_tf ?_ | refine gd_ft ?_ | refine gd_u ?_ | refine pk_t ?_ | refine pk_f ?_ | refine iff_t ?_ | refine iff_f ?_ | refine not_t ?_ | refine not_f ?_ | refine beq_s ?_ | refine bne_s ?_ | refine ncP_p ?_ | refine nc_p ?_ | refine fld_at ?_ | refine xt_02 ?_ | refine xt_12 ?_ | refine xt_03 ?_ | refine xt_13 ?_ | refine xt_23 ?_ | refine eq_t (by omega) ?_ | refine eq_f (by omega) ?_ | refine ne_t (by omega) ?_ | refine ne_f (by omega) ?_ | refine lt_t (by omega) ?_ | refine lt_f (by omega) ?_ | refine gt_t (by omega) ?_ | refine gt_f (by omega) ?_ | refine ge_t (by omega) ?_ | refine ge_f (by omega) ?_ | refine le_t (by omega) ?_ | refine le_f (by omega) ?_)
          exact hk
        · repeat (first | refine gd_tt ?_ | refine gd_ff ?_ | refine gd_tf ?_ | refine gd_ft ?_ | refine gd_u ?_ | refine pk_t ?_ | refine pk_f ?_ | refine iff_t ?_ | refine iff_f ?_ | refine not_t ?_ | refine not_f ?_ | refine beq_s ?_ | refine bne_s ?_ | refine ncP_p ?_ | refine nc_p ?_ | refine fld_at ?_ | refine xt_02 ?_ | refine xt_12 ?_ | refine xt_03 ?_ | refine xt_13 ?_ | refine xt_23 ?_ | refine eq_t (by omega) ?_ | refine eq_f (by omega) ?_ | refine ne_t (by omega) ?_ | refine ne_f (by omega) ?_ | refine lt_t (by omega) ?_ | refine lt_f (by omega) ?_ | refine gt_t (by omega) ?_ | refine gt_f (by omega) ?_ | refine ge_t (by omega) ?_ | refine ge_f (by omega) ?_ | refine le_t (by omega) ?_ | refine le_f (by omega) ?_)
          exact hk
theorem link_of_s {g : Nat} {n room : Int} {Q : Nat → Nat → List Item} {a b : Nat} (hb : okL n a b) (hS : Sat e w (IsNet g n room Q :: R)) (hk : K (.pointer (some ⟨g, offL a b, none⟩)) w) : Cl prog 24 #[.pointer (some ⟨g, 0, none⟩), .int .i64 a, .int .i64 b] w K := by
  obtain ⟨D, hD, h1⟩ := IsNet.open hS
  obtain ⟨b1', b2', b3', b4', b5'⟩ := hb
  have hn8 := hD.hn
  refine link_Net_of_calls ?_
  unfold link_Net_of
  have hn : (funL 8322 D)[0]? = some (.int .i64 n) := by rw [funL_get (by omega), hD.dn]
  repeat (first | refine gd_tt ?_ | refine gd_ff ?_ | refine gd_tf ?_ | refine gd_ft ?_ | refine gd_u ?_ | refine pk_t ?_ | refine pk_f ?_ | refine iff_t ?_ | refine iff_f ?_ | refine not_t ?_ | refine not_f ?_ | refine beq_s ?_ | refine bne_s ?_ | refine ncP_p ?_ | refine nc_p ?_ | refine fld_at ?_ | refine xt_02 ?_ | refine xt_12 ?_ | refine xt_03 ?_ | refine xt_13 ?_ | refine xt_23 ?_ | refine eq_t (by omega) ?_ | refine eq_f (by omega) ?_ | refine ne_t (by omega) ?_ | refine ne_f (by omega) ?_ | refine lt_t (by omega) ?_ | refine lt_f (by omega) ?_ | refine gt_t (by omega) ?_ | refine gt_f (by omega) ?_ | refine ge_t (by omega) ?_ | refine ge_f (by omega) ?_ | refine le_t (by omega) ?_ | refine le_f (by omega) ?_)
  refine ld1_at h1 0 rfl hn ?_
  repeat (first | refine gd_tt ?_ | refine gd_ff ?_ | refine gd_tf ?_ | refine gd_ft ?_ | refine gd_u ?_ | refine pk_t ?_ | refine pk_f ?_ | refine iff_t ?_ | refine iff_f ?_ | refine not_t ?_ | refine not_f ?_ | refine beq_s ?_ | refine bne_s ?_ | refine ncP_p ?_ | refine nc_p ?_ | refine fld_at ?_ | refine xt_02 ?_ | refine xt_12 ?_ | refine xt_03 ?_ | refine xt_13 ?_ | refine xt_23 ?_ | refine eq_t (by omega) ?_ | refine eq_f (by omega) ?_ | refine ne_t (by omega) ?_ | refine ne_f (by omega) ?_ | refine lt_t (by omega) ?_ | refine lt_f (by omega) ?_ | refine gt_t (by omega) ?_ | refine gt_f (by omega) ?_ | refine ge_t (by omega) ?_ | refine ge_f (by omega) ?_ | refine le_t (by omega) ?_ | refine le_f (by omega) ?_)
  refine ld1_at h1 0 rfl hn ?_
  repeat (first | refine gd_tt ?_ | refine gd_ff ?_ | refine gd_tf ?_ | refine gd_ft ?_ | refine gd_u ?_ | refine pk_t ?_ | refine pk_f ?_ | refine iff_t ?_ | refine iff_f ?_ | refine not_t ?_ | refine not_f ?_ | refine beq_s ?_ | refine bne_s ?_ | refine ncP_p ?_ | refine nc_p ?_ | refine fld_at ?_ | refine xt_02 ?_ | refine xt_12 ?_ | refine xt_03 ?_ | refine xt_13 ?_ | refine xt_23 ?_ | refine eq_t (by omega) ?_ | refine eq_f (by omega) ?_ | refine ne_t (by omega) ?_ | refine ne_f (by omega) ?_ | refine lt_t (by omega) ?_ | refine lt_f (by omega) ?_ | refine gt_t (by omega) ?_ | refine gt_f (by omega) ?_ | refine ge_t (by omega) ?_ | refine ge_f (by omega) ?_ | refine le_t (by omega) ?_ | refine le_f (by omega) ?_)
  refine ixA_at (by omega) ?_
  refine ixA_at (by omega) ?_
  rw [show 0 + 2 + a * 1040 + b * 130 = offL a b from by unfold offL; omega]
  exact hk
end Go.Proofs.Ytcocbmbadigjbaa
