/- The engine, part D: control, and a function's call out of its body. Conditions: none. -/
import Derived.Test.YtmgaooeeddmbmaaGreatDoorEngC
import Derived.ScopeJumps
namespace Go.E
open Go.RowKit
variable {ds : List Deferred}

/-! ### Sets of slots -/
def wrOps (l : List Oper) : Nat := l.foldr (fun o m => dbit o.dst ||| m) 0
/-- The slots that a code may write. -/
def wr : Code → Nat
  | .region _ ops _ => wrOps ops.toList
  | .seq a b => wr a ||| wr b
  | .cond _ a b => wr a ||| wr b
  | .block _ a => wr a
  | .loop a => wr a
  | _ => 0
def usesAll (ops : Array Oper) (l : List Oper) : Nat := l.foldr (fun o m => uses ops o ||| m) 0
/-- The slots that a code wants, that 'out' be right where it ends, 'ex' where it leaves a block, 'rl' where it returns. -/
def lv (rl : Nat) : Code → (out : Nat) → (ex : Nat → Nat) → Nat
  | .skip, out, _ => out
  | .region _ ops _, out, _ => lvOps ops ops.toList out
  | .seq a b, out, ex => lv rl a (lv rl b out ex) ex
  | .cond c a b, out, ex => bitO c ||| (lv rl a out ex ||| lv rl b out ex)
  | .block id a, out, ex => lv rl a out (fun i => match Nat.beq i id with | true => out | false => ex i)
  | .exit id, _, ex => ex id
  | .loop a, _, ex => lv rl a 0 ex
  | .ret, _, _ => rl
  | .label _, out, _ => out
  | .goto l, _, ex => ex (1000000 + l)
  | _, _, _ => 0
/-- The list of a set's slots. -/
def slots (n m : Nat) : List Nat := (List.range n).filter fun t => m.testBit t

theorem mem_slots {n m t : Nat} : t ∈ slots n m ↔ t < n ∧ m.testBit t = true := by simp [slots]

/-- How often a code goes on at its end. -/
def exits (id : Nat) : Code → Nat
  | .exit i => match Nat.beq i id with | true => 1 | false => 0
  | .seq a b => exits id a + exits id b
  | .cond _ a b => exits id a + exits id b
  | .block _ a => exits id a
  | .loop a => exits id a
  | _ => 0
def ends : Code → Nat
  | .skip => 1
  | .label _ => 1
  | .region .. => 1
  | .seq a b => match ends a with | 0 => 0 | _ => ends b
  | .cond _ a b => ends a + ends b
  | .block id a => ends a + exits id a
  | _ => 0

structure KS where
  nrm : Ev → World → Prop
  ext : Nat → Ev → World → Prop
  ret : Ev → World → Prop

/-- Ways that meet again: what is behind, as a function of what they may have written. -/
def jn (rest : List Value → World → Prop) (body : (List Value → World → Prop) → Prop) : Prop := body rest
/-- A loop. -/
def lp (init : List Value) (w : World) (body : List Value → World → (List Value → World → Prop) → Prop) : Prop :=
  ∃ (I : List Value → World → Prop) (μ : List Value → World → Nat), I init w ∧ ∀ vs w, vs.length = init.length → I vs w → body vs w (fun vs' w' => I vs' w' ∧ μ vs' w' < μ vs w)
def iff' (c : Value) (A B : Prop) : Prop := ∃ b, c = .bool b ∧ (b = true → A) ∧ (b = false → B)
def dr (w : World) (K : World → Prop) : Prop := K w.drew

def cw (P : Program) (nt rl : Nat) : Code → (out : Nat) → (ex : Nat → Nat) → KS → Ev → World → Prop
  | .skip, _, _, K, ρ, w => K.nrm ρ w
  | .region _ ops false, _, _, K, ρ, w => seqOps P ops K.nrm ops.toList ρ w
  | .region _ ops true, _, _, K, ρ, w => dr w fun w => drawW P ops K.nrm ops.size (Array.replicate ops.size false) [] ρ w
  | .seq a b, out, ex, K, ρ, w => cw P nt rl a (lv rl b out ex) ex { K with nrm := fun ρ' w' => cw P nt rl b out ex K ρ' w' } ρ w
  | .cond c a b, out, ex, K, ρ, w =>
    match Nat.ble (ends a + ends b) 1 with
    | true => iff' (ρ.opd c) (cw P nt rl a out ex K ρ w) (cw P nt rl b out ex K ρ w)
    | false =>
      jn (fun vs w' => K.nrm (ρ.over (slots nt ((wr a ||| wr b) &&& out)) vs) w') fun k =>
        iff' (ρ.opd c) (cw P nt rl a out ex { K with nrm := fun ρ' w' => k ((slots nt ((wr a ||| wr b) &&& out)).map ρ') w' } ρ w) (cw P nt rl b out ex { K with nrm := fun ρ' w' => k ((slots nt ((wr a ||| wr b) &&& out)).map ρ') w' } ρ w)
  | .block id a, out, ex, K, ρ, w =>
    match Nat.ble (ends a + exits id a) 1 with
    | true => cw P nt rl a out (fun i => match Nat.beq i id with | true => out | false => ex i) { K with ext := fun i => match Nat.beq i id with | true => K.nrm | false => K.ext i } ρ w
    | false =>
      jn (fun vs w' => K.nrm (ρ.over (slots nt (wr a &&& out)) vs) w') fun k =>
        cw P nt rl a out (fun i => match Nat.beq i id with | true => out | false => ex i)
          { K with nrm := fun ρ' w' => k ((slots nt (wr a &&& out)).map ρ') w', ext := fun i => match Nat.beq i id with | true => fun ρ' w' => k ((slots nt (wr a &&& out)).map ρ') w' | false => K.ext i } ρ w
  | .exit id, _, _, K, ρ, w => K.ext id ρ w
  | .loop a, out, ex, K, ρ, w =>
    lp ((slots nt (wr a &&& lv rl (.loop a) out ex)).map ρ) w fun vs w' again =>
      cw P nt rl a (lv rl (.loop a) out ex) ex { K with nrm := fun ρ' w'' => again ((slots nt (wr a &&& lv rl (.loop a) out ex)).map ρ') w'' } (ρ.over (slots nt (wr a &&& lv rl (.loop a) out ex)) vs) w'
  | .ret, _, _, K, ρ, w => K.ret ρ w
  | .label _, _, _, K, ρ, w => K.nrm ρ w
  | .goto l, _, _, K, ρ, w => K.ext (1000000 + l) ρ w
  | _, _, _, _, _, _ => False

def cwOk (P : Program) (nt rl : Nat) : Code → (out : Nat) → (ex : Nat → Nat) → Bool
  | .skip, _, _ => true
  | .region _ ops false, _, _ => ops.toList.all fun o => noSel o && okD nt o.dst
  | .region _ ops true, out, _ => ops.all noSel && (ops.toList.all fun o => okD nt o.dst) && drawOk P ops nt out ops.size (Array.replicate ops.size false) (lvOps ops ops.toList out)
  | .seq a b, out, ex => cwOk P nt rl a (lv rl b out ex) ex && cwOk P nt rl b out ex
  | .cond _ a b, out, ex => cwOk P nt rl a out ex && cwOk P nt rl b out ex
  | .block id a, out, ex => Nat.blt id 1000000 && cwOk P nt rl a out (fun i => match Nat.beq i id with | true => out | false => ex i)
  | .exit id, _, _ => Nat.blt id 1000000
  | .loop a, out, ex => cwOk P nt rl a (lv rl (.loop a) out ex) ex && sub (lv rl a (lv rl (.loop a) out ex) ex) (lv rl (.loop a) out ex)
  | .ret, _, _ => true
  | _, _, _ => true

theorem idx_none : ∀ (ms : List Nat) (i t : Nat), t ∉ ms → idx t ms i = none
  | [], _, _, _ => rfl
  | m :: ms, i, t, h => by
    unfold idx
    cases hb : Nat.beq t m with
    | true => exact absurd (Nat.eq_of_beq_eq_true hb) (fun e => h (by simp [e]))
    | false => exact idx_none ms (i + 1) t (fun e => h (by simp [e]))
theorem idx_some : ∀ (ms : List Nat) (i t : Nat), t ∈ ms → ∃ j, idx t ms i = some (i + j) ∧ ms[j]? = some t
  | [], _, _, h => by cases h
  | m :: ms, i, t, h => by
    unfold idx
    cases hb : Nat.beq t m with
    | true => exact ⟨0, rfl, by rw [Nat.eq_of_beq_eq_true hb]; rfl⟩
    | false =>
      have h' : t ∈ ms := by
        cases h with
        | head => simp at hb
        | tail _ h => exact h
      obtain ⟨j, h1, h2⟩ := idx_some ms (i + 1) t h'
      refine ⟨j + 1, ?_, by simpa using h2⟩
      simp only [h1]
      congr 1
      omega
theorem over_not_mem (ms : List Nat) (vs : List Value) (ρ : Ev) (t : Nat) (h : t ∉ ms) : ρ.over ms vs t = ρ t := by
  simp only [Ev.over, idx_none ms 0 t h]
theorem over_map (ms : List Nat) (ρ ρ' : Ev) (t : Nat) (h : t ∈ ms) : ρ.over ms (ms.map ρ') t = ρ' t := by
  obtain ⟨j, h1, h2⟩ := idx_some ms 0 t h
  simp only [Ev.over, h1, Nat.zero_add]
  simp [h2]
theorem over_Fr {n m : Nat} (ms : List Nat) (h : ms = slots n m) (vs : List Value) (ρ : Ev) : Fr m ρ (ρ.over ms vs) := fun t ht =>
  over_not_mem ms vs ρ t (fun hm => by rw [h, mem_slots] at hm; rw [hm.2] at ht; cases ht)

/-- Where ways meet: the environment behind, by what was written and is wanted. -/
theorem AgrD.over {n out W : Nat} {a : Act} {ρ ρ' : Ev} (h : AgrD ds n out a ρ') (hW : ∀ t, W.testBit t = true → t < n) (hf : Fr W ρ ρ') : AgrD ds n out a (ρ.over (slots n (W &&& out)) ((slots n (W &&& out)).map ρ')) := by
  refine ⟨h.1, h.2.1, fun t ht => ?_⟩
  by_cases hm : t ∈ slots n (W &&& out)
  · rw [over_map _ _ _ _ hm]; exact h.2.2 t ht
  · rw [over_not_mem _ _ _ _ hm]
    cases hw : W.testBit t with
    | false => rw [← hf t hw]; exact h.2.2 t ht
    | true => exact absurd (mem_slots.2 ⟨hW t hw, by simp [Nat.testBit_and, hw, ht]⟩) hm

theorem wrOps_spec {l : List Oper} {o : Oper} (h : o ∈ l) : ∀ t, (dbit o.dst).testBit t = true → (wrOps l).testBit t = true := by
  intro t ht
  induction l with
  | nil => cases h
  | cons x l ih =>
    simp only [wrOps, List.foldr_cons, Nat.testBit_or, Bool.or_eq_true]
    cases h with
    | head => exact .inl ht
    | tail _ h => exact .inr (ih h)
theorem wrOps_lt {n : Nat} : ∀ {l : List Oper}, l.all (fun o => okD n o.dst) = true → ∀ t, (wrOps l).testBit t = true → t < n
  | [], _, t, h => by simp [wrOps] at h
  | o :: l, hs, t, h => by
    simp only [List.all_cons, Bool.and_eq_true] at hs
    simp only [wrOps, List.foldr_cons, Nat.testBit_or, Bool.or_eq_true] at h
    rcases h with h | h
    · cases hd : o.dst with
      | none => rw [hd] at h; simp [dbit] at h
      | some d =>
        rw [hd] at h
        simp only [dbit, two_pow_bit, decide_eq_true_eq] at h
        subst h
        exact okD_spec hs.1 _ hd
    · exact wrOps_lt hs.2 t h

theorem wr_lt {P : Program} {nt rl : Nat} : ∀ (c : Code) (out : Nat) (ex : Nat → Nat), cwOk P nt rl c out ex = true → ∀ t, (wr c).testBit t = true → t < nt
  | .region _ ops d, out, ex, h, t, ht => by
    cases d with
    | false =>
      refine wrOps_lt (l := ops.toList) ?_ t ht
      simp only [cwOk, List.all_eq_true, Bool.and_eq_true] at h ⊢
      exact fun o ho => (h o ho).2
    | true =>
      simp only [cwOk, Bool.and_eq_true] at h
      exact wrOps_lt h.1.2 t ht
  | .seq a b, out, ex, h, t, ht => by
    simp only [cwOk, Bool.and_eq_true] at h
    simp only [wr, Nat.testBit_or, Bool.or_eq_true] at ht
    rcases ht with ht | ht
    · exact wr_lt a _ _ h.1 t ht
    · exact wr_lt b _ _ h.2 t ht
  | .cond _ a b, out, ex, h, t, ht => by
    simp only [cwOk, Bool.and_eq_true] at h
    simp only [wr, Nat.testBit_or, Bool.or_eq_true] at ht
    rcases ht with ht | ht
    · exact wr_lt a _ _ h.1 t ht
    · exact wr_lt b _ _ h.2 t ht
  | .block _ a, out, ex, h, t, ht => by
    simp only [cwOk, Bool.and_eq_true] at h
    exact wr_lt a _ _ h.2 t ht
  | .loop a, out, ex, h, t, ht => by
    simp only [cwOk, Bool.and_eq_true] at h
    exact wr_lt a _ _ h.1 t ht
  | .skip, _, _, _, t, ht => by simp [wr] at ht
  | .exit _, _, _, _, t, ht => by simp [wr] at ht
  | .ret, _, _, _, t, ht => by simp [wr] at ht
  | .label _, _, _, _, t, ht => by simp [wr] at ht
  | .goto _, _, _, _, t, ht => by simp [wr] at ht
  | .scope _, _, _, _, t, ht => by simp [wr] at ht
  | .refuse _, _, _, _, t, ht => by simp [wr] at ht
  | .rangeFunc .., _, _, _, t, ht => by simp [wr] at ht

/-- Q, but nothing at a panic. -/
def noP (Q : Exit → Act → World → Prop) : Exit → Act → World → Prop
  | .panic _, _, _ => False
  | e, a, w => Q e a w
theorem noP_imp {Q : Exit → Act → World → Prop} : ∀ (e : Exit) (a : Act) (w : World), noP Q e a w → Q e a w := fun e a w h => by
  cases e <;> first | exact h | exact (h : False).elim

theorem Down.start (ops : Array Oper) : Down ops (Array.replicate ops.size false) := by
  intro k o hk hl
  have hlt : k < ops.size := (Array.getElem?_eq_some_iff.1 hk).1
  simp [hlt] at hl

/-- No region draws its order. -/
def noDraw : Code → Bool
  | .region _ _ d => !d
  | .seq a b => noDraw a && noDraw b
  | .cond _ a b => noDraw a && noDraw b
  | .block _ a => noDraw a
  | .loop a => noDraw a
  | _ => true

/-- The way out that a number means: an exit's, or a label's. -/
def exO (i : Nat) : Exit := match Nat.ble 1000000 i with | true => .goto (i - 1000000) | false => .exit i
theorem exO_exit {i : Nat} (h : Nat.blt i 1000000 = true) : exO i = .exit i := by
  unfold exO
  split
  · rename_i h1
    have h2 := Nat.le_of_ble_eq_true h1
    simp only [Nat.blt_eq] at h
    omega
  · rfl
theorem exO_goto (l : Nat) : exO (1000000 + l) = .goto l := by
  unfold exO
  split
  · exact congrArg Exit.goto (Nat.add_sub_cancel_left 1000000 l)
  · rename_i h
    rw [Nat.ble_eq_true_of_le (Nat.le_add_right _ _)] at h
    cases h
theorem exO_then {N : Act → World → Prop} {Q : Exit → Act → World → Prop} {i : Nat} {a : Act} {w : World} (h : Q (exO i) a w) : Exit.then N Q (exO i) a w := by
  unfold exO at *
  split at h <;> exact h
theorem exO_noP {Q : Exit → Act → World → Prop} {i : Nat} {a : Act} {w : World} (h : Q (exO i) a w) : noP Q (exO i) a w := by
  unfold exO at *
  split at h <;> exact h

theorem cw_sound {P : Program} {ro : Option Nat} {nt rl : Nat} (hm : P.follows .mixedOrders = true) : ∀ (c : Code) (out : Nat) (ex : Nat → Nat) (K : KS) (ρ : Ev) (a : Act) (w : World) (Q : Exit → Act → World → Prop),
    (ro = none ∨ noDraw c = true) → cwOk P nt rl c out ex = true → AgrD ds nt (lv rl c out ex) a ρ →
    (∀ ρ' a' w', K.nrm ρ' w' → AgrD ds nt out a' ρ' → Fr (wr c) ρ ρ' → Q .normal a' w') →
    (∀ id ρ' a' w', K.ext id ρ' w' → AgrD ds nt (ex id) a' ρ' → Fr (wr c) ρ ρ' → Q (exO id) a' w') →
    (∀ ρ' a' w', K.ret ρ' w' → AgrD ds nt rl a' ρ' → Q .ret a' w') →
    cw P nt rl c out ex K ρ w → c.wpIn (fen ro) 0 P Q a w
  | .skip, out, ex, K, ρ, a, w, Q, hd, _, ha, hn, _, _, h => wpIn_skip (hn _ _ _ h ha (Fr.refl _ _))
  | .exit id, out, ex, K, ρ, a, w, Q, hd, hok, ha, _, hx, _, h => wpIn_exit (by have h2 := hx _ _ _ _ h ha (Fr.refl _ _); rw [exO_exit hok] at h2; exact h2)
  | .label l, out, ex, K, ρ, a, w, Q, hd, _, ha, hn, _, _, h => wpIn_label (hn _ _ _ h ha (Fr.refl _ _))
  | .goto l, out, ex, K, ρ, a, w, Q, hd, _, ha, _, hx, _, h => wpIn_goto (by have h2 := hx _ _ _ _ h ha (Fr.refl _ _); rw [exO_goto] at h2; exact h2)
  | .ret, out, ex, K, ρ, a, w, Q, hd, _, ha, _, _, hr, h => wpIn_ret (hr _ _ _ h ha)
  | .region id ops false, out, ex, K, ρ, a, w, Q, hd, hok, ha, hn, _, _, h =>
    wpIn_region_list (seqOps_sound (W := wrOps ops.toList) (ρ0 := ρ) (fun ρ' a' w' h1 h2 h3 => hn _ _ _ h3 h1 h2) ops.toList a ρ w (fun o ho => wrOps_spec ho) hok ha (Fr.refl _ _) h)
  | .region id ops true, out, ex, K, ρ, a, w, Q, hd, hok, ha, hn, _, _, h => by
    simp only [cwOk, Bool.and_eq_true] at hok
    obtain rfl : ro = none := hd.resolve_right (by simp [noDraw])
    refine Code.wpIn_mono noP_imp (wpIn_region_any hm (wpAny_of_S (qt := quietAt P ops) (S := SofT ops []) _ _ _ _ ?_))
    exact draw_sound (Q := noP Q) (W := wrOps ops.toList) (ρ0 := ρ) (fun o ho => wrOps_spec (by simpa using ho)) hok.1.1 (fun _ _ _ h => h) (fun ρ' a' w' h1 h2 h3 => hn _ _ _ h3 h1 h2) ops.size _ [] _ a ρ _ (Down.start ops) hok.2 ha (Fr.refl _ _) h
  | .seq x y, out, ex, K, ρ, a, w, Q, hd, hok, ha, hn, hx, hr, h => by
    have hdx : ro = none ∨ noDraw x = true := hd.imp (fun h => h) (fun h => by simp only [noDraw, Bool.and_eq_true] at h; exact h.1)
    have hdy : ro = none ∨ noDraw y = true := hd.imp (fun h => h) (fun h => by simp only [noDraw, Bool.and_eq_true] at h; exact h.2)
    simp only [cwOk, Bool.and_eq_true] at hok
    refine wpIn_seq (cw_sound hm x _ ex _ ρ a w _ hdx hok.1 ha ?_ ?_ ?_ h)
    · intro ρ1 a1 w1 h1 ha1 hf1
      refine cw_sound hm y out ex K ρ1 a1 w1 Q hdy hok.2 ha1 ?_ ?_ hr h1
      · intro ρ2 a2 w2 h2 ha2 hf2
        exact hn _ _ _ h2 ha2 (hf1.trans hf2)
      · intro id ρ2 a2 w2 h2 ha2 hf2
        exact hx _ _ _ _ h2 ha2 (hf1.trans hf2)
    · intro id ρ1 a1 w1 h1 ha1 hf1
      exact exO_then (hx _ _ _ _ h1 ha1 (hf1.mono fun t ht => by simp [wr, ht]))
    · exact hr
  | .cond c x y, out, ex, K, ρ, a, w, Q, hd, hok, ha, hn, hx, hr, h => by
    have hdx : ro = none ∨ noDraw x = true := hd.imp (fun h => h) (fun h => by simp only [noDraw, Bool.and_eq_true] at h; exact h.1)
    have hdy : ro = none ∨ noDraw y = true := hd.imp (fun h => h) (fun h => by simp only [noDraw, Bool.and_eq_true] at h; exact h.2)
    have hwl := wr_lt (.cond c x y) out ex hok
    simp only [cwOk, Bool.and_eq_true] at hok
    have hax : AgrD ds nt (lv rl x out ex) a ρ := ha.mono fun t ht => by simp [lv, ht]
    have hay : AgrD ds nt (lv rl y out ex) a ρ := ha.mono fun t ht => by simp [lv, ht]
    have hc : a.eval c = ρ.opd c := ha.opd (l := [c]) (fun t ht => by
      simp only [bitsO, List.foldr_cons, List.foldr_nil, Nat.or_zero] at ht
      simp [lv, ht]) c (by simp)
    unfold cw at h
    split at h
    · obtain ⟨b, hb, h1, h2⟩ := h
      refine wpIn_cond_split (t := b) (hc.trans hb) (fun e => ?_) (fun e => ?_)
      · exact cw_sound hm x out ex K ρ a w Q hdx hok.1 hax (fun _ _ _ k1 k2 k3 => hn _ _ _ k1 k2 (k3.mono fun t ht => by simp [wr, ht])) (fun _ _ _ _ k1 k2 k3 => hx _ _ _ _ k1 k2 (k3.mono fun t ht => by simp [wr, ht])) hr (h1 e)
      · exact cw_sound hm y out ex K ρ a w Q hdy hok.2 hay (fun _ _ _ k1 k2 k3 => hn _ _ _ k1 k2 (k3.mono fun t ht => by simp [wr, ht])) (fun _ _ _ _ k1 k2 k3 => hx _ _ _ _ k1 k2 (k3.mono fun t ht => by simp [wr, ht])) hr (h2 e)
    · obtain ⟨b, hb, h1, h2⟩ := h
      have hn' : ∀ ρ' a' w', K.nrm (ρ.over (slots nt ((wr x ||| wr y) &&& out)) ((slots nt ((wr x ||| wr y) &&& out)).map ρ')) w' → AgrD ds nt out a' ρ' → Fr (wr x ||| wr y) ρ ρ' → Q .normal a' w' := fun ρ' a' w' k1 k2 k3 =>
        hn _ _ _ k1 (k2.over hwl k3) ((over_Fr _ rfl _ _).mono fun t ht => by simp only [Nat.testBit_and, Bool.and_eq_true] at ht; exact ht.1)
      refine wpIn_cond_split (t := b) (hc.trans hb) (fun e => ?_) (fun e => ?_)
      · refine cw_sound hm x out ex _ ρ a w Q hdx hok.1 hax ?_ ?_ ?_ (h1 e)
        · exact fun ρ' a' w' k1 k2 k3 => hn' ρ' a' w' k1 k2 (k3.mono fun t ht => by simp [ht])
        · exact fun _ _ _ _ k1 k2 k3 => hx _ _ _ _ k1 k2 (k3.mono fun t ht => by simp [wr, ht])
        · exact hr
      · refine cw_sound hm y out ex _ ρ a w Q hdy hok.2 hay ?_ ?_ ?_ (h2 e)
        · exact fun ρ' a' w' k1 k2 k3 => hn' ρ' a' w' k1 k2 (k3.mono fun t ht => by simp [ht])
        · exact fun _ _ _ _ k1 k2 k3 => hx _ _ _ _ k1 k2 (k3.mono fun t ht => by simp [wr, ht])
        · exact hr
  | .block id x, out, ex, K, ρ, a, w, Q, hd, hok, ha, hn, hx, hr, h => by
    have hdx : ro = none ∨ noDraw x = true := hd.imp (fun h => h) (fun h => by simpa only [noDraw] using h)
    have hwl := wr_lt (.block id x) out ex hok
    simp only [cwOk, Bool.and_eq_true] at hok
    obtain ⟨hid, hok⟩ := hok
    unfold cw at h
    split at h
    · refine wpIn_block ?_
      refine cw_sound hm x out _ _ ρ a w _ hdx hok ha ?_ ?_ ?_ h
      · exact fun _ _ _ k1 k2 k3 => hn _ _ _ k1 k2 k3
      rotate_left
      · exact hr
      intro i ρ' a' w' k1 k2 k3
      cases hb : Nat.beq i id with
      | true =>
        rw [show exO i = .exit i from exO_exit (by rw [Nat.eq_of_beq_eq_true hb]; exact hid)]
        simp only [Exit.inBlock]
        rw [if_pos (Nat.eq_of_beq_eq_true hb)]
        simp only [hb] at k1 k2
        exact hn _ _ _ k1 k2 k3
      | false =>
        simp only [hb] at k1 k2
        have h2 := hx _ _ _ _ k1 k2 k3
        unfold exO at h2 ⊢
        split
        · rename_i h3
          rw [h3] at h2
          exact h2
        · rename_i h3
          rw [h3] at h2
          simp only [Exit.inBlock]
          rw [if_neg (fun e => by rw [e, Nat.beq_refl] at hb; cases hb)]
          exact h2
    · have hn' : ∀ ρ' a' w', K.nrm (ρ.over (slots nt (wr x &&& out)) ((slots nt (wr x &&& out)).map ρ')) w' → AgrD ds nt out a' ρ' → Fr (wr x) ρ ρ' → Q .normal a' w' := fun ρ' a' w' k1 k2 k3 =>
        hn _ _ _ k1 (k2.over hwl k3) ((over_Fr _ rfl _ _).mono fun t ht => by simp only [Nat.testBit_and, Bool.and_eq_true] at ht; exact ht.1)
      refine wpIn_block ?_
      refine cw_sound hm x out _ _ ρ a w _ hdx hok ha ?_ ?_ ?_ h
      · exact fun ρ' a' w' k1 k2 k3 => hn' ρ' a' w' k1 k2 k3
      rotate_left
      · exact hr
      intro i ρ' a' w' k1 k2 k3
      cases hb : Nat.beq i id with
      | true =>
        rw [show exO i = .exit i from exO_exit (by rw [Nat.eq_of_beq_eq_true hb]; exact hid)]
        simp only [Exit.inBlock]
        rw [if_pos (Nat.eq_of_beq_eq_true hb)]
        simp only [hb] at k1 k2
        exact hn' _ _ _ k1 k2 k3
      | false =>
        simp only [hb] at k1 k2
        have h2 := hx _ _ _ _ k1 k2 k3
        unfold exO at h2 ⊢
        split
        · rename_i h3
          rw [h3] at h2
          exact h2
        · rename_i h3
          rw [h3] at h2
          simp only [Exit.inBlock]
          rw [if_neg (fun e => by rw [e, Nat.beq_refl] at hb; cases hb)]
          exact h2
  | .loop x, out, ex, K, ρ, a, w, Q, hd, hok, ha, hn, hx, hr, h => by
    have hdx : ro = none ∨ noDraw x = true := hd.imp (fun h => h) (fun h => by simpa only [noDraw] using h)
    have hwl := wr_lt (.loop x) out ex hok
    simp only [cwOk, Bool.and_eq_true] at hok
    obtain ⟨I, μ, h0, hround⟩ := h
    generalize hL : lv rl (.loop x) out ex = L at *
    generalize hms : slots nt (wr x &&& L) = ms at *
    have hmem : ∀ t, t ∈ ms → L.testBit t = true := fun t ht => by
      rw [← hms, mem_slots, Nat.testBit_and, Bool.and_eq_true] at ht
      exact ht.2.2
    have hvs : ∀ {a' : Act} {ρ' : Ev}, AgrD ds nt L a' ρ' → ms.map (fun t => a'.tmps.getD t undef) = ms.map ρ' := fun h1 =>
      List.map_congr_left fun t ht => h1.2.2 t (hmem t ht)
    refine wpIn_loop (fun a' w' => I (ms.map fun t => a'.tmps.getD t undef) w' ∧ AgrD ds nt L a' (ρ.over ms (ms.map fun t => a'.tmps.getD t undef))) (fun a' w' => μ (ms.map fun t => a'.tmps.getD t undef) w') ?_ ?_
    · refine ⟨by rw [hvs ha]; exact h0, ?_⟩
      rw [hvs ha]
      have := ha.over (W := wr x) (ρ := ρ) hwl (Fr.refl (wr x) ρ)
      rw [hms] at this
      exact this
    · intro a1 w1 ⟨h1, ha1⟩
      have hb := hround (ms.map fun t => a1.tmps.getD t undef) w1 (by simp) h1
      have hfo : Fr (wr x) ρ (ρ.over ms (ms.map fun t => a1.tmps.getD t undef)) := (over_Fr ms hms.symm _ _).mono fun t ht => by simp only [Nat.testBit_and, Bool.and_eq_true] at ht; exact ht.1
      refine cw_sound hm x L ex _ _ a1 w1 _ hdx hok.1 (ha1.mono (sub_spec hok.2)) ?_ ?_ ?_ hb
      rotate_right
      · exact hr
      · intro ρ' a' w' ⟨k1, k1'⟩ k2 k3
        have k4 : Fr (wr x) ρ ρ' := (hfo.trans k3).mono fun t ht => by simpa using ht
        refine ⟨⟨by rw [hvs k2]; exact k1, ?_⟩, by rw [hvs k2]; exact k1'⟩
        rw [hvs k2]
        have := k2.over (W := wr x) hwl k4
        rw [hms] at this
        exact this
      · intro id ρ' a' w' k1 k2 k3
        exact exO_then (hx _ _ _ _ k1 k2 ((hfo.trans k3).mono fun t ht => by simpa [wr] using ht))
  | .scope _, _, _, _, _, _, _, _, _, _, _, _, _, _, h => (h : False).elim
  | .refuse _, _, _, _, _, _, _, _, _, _, _, _, _, _, h => (h : False).elim
  | .rangeFunc .., _, _, _, _, _, _, _, _, _, _, _, _, _, h => (h : False).elim

/-! ### A function -/
def Ev.init (args : Array Value) : Ev := fun t => args.getD t undef
def retV (rs : List Nat) (ρ : Ev) : Value :=
  match rs with
  | [t] => ρ t
  | _ => .tuple (rs.map ρ).toArray

theorem run_results {P : Program} {fn : Func} {rs : List Nat} (hr : fn.results = (rs.map ResultVar.tmp).toArray) {nt m : Nat} {a : Act} {ρ : Ev} (ha : AgrD ds nt m a ρ) (hm : ∀ t ∈ rs, m.testBit t = true) (w : World) :
    (results fn a.tmps).run P w = .ok (retV rs ρ) w := by
  have h1 : ∀ (g : ResultVar → Sem Value), (∀ t, g (.tmp t) = pure (a.tmps.getD t undef)) → ∀ l : List Nat, (∀ t ∈ l, m.testBit t = true) → ((l.map ResultVar.tmp).mapM g).run P w = .ok (l.map ρ) w := by
    intro g hg l
    induction l with
    | nil => intro _; simp
    | cons t l ih =>
      intro hl
      simp only [List.map_cons, List.mapM_cons, Sem.run_bind, hg, Sem.run_pure, Result.andThen_ok, ih (fun u hu => hl u (by simp [hu])), ha.2.2 t (hl t (by simp))]
  unfold results
  rw [hr, Array.mapM_eq_mapM_toList]
  simp only [Sem.run_bind, Sem.run_map]
  rw [h1 _ (fun t => rfl) rs hm]
  simp only [Result.andThen_ok, Sem.run_pure]
  congr 1
  unfold retV
  match rs with
  | [] => rfl
  | [t] => rfl
  | t :: u :: l => simp

def bitsL (l : List Nat) : Nat := l.foldr (fun t m => 2 ^ t ||| m) 0
theorem bitsL_mem {l : List Nat} {t : Nat} (h : t ∈ l) : (bitsL l).testBit t = true := by
  induction l with
  | nil => cases h
  | cons x l ih =>
    simp only [bitsL, List.foldr_cons, Nat.testBit_or, Bool.or_eq_true]
    cases h with
    | head => left; simp
    | tail _ h => right; exact ih h

/-- What a function's body asks. -/
def fnW (P : Program) (nt : Nat) (rs : List Nat) (c : Code) (args : Array Value) (w : World) (K : KV) : Prop :=
  cw P nt (bitsL rs) c (bitsL rs) (fun _ => 0) ⟨fun ρ w => K (retV rs ρ) w, fun _ _ _ => False, fun ρ w => K (retV rs ρ) w⟩ (Ev.init args) w
def fnOk (P : Program) (nt : Nat) (rs : List Nat) (c : Code) : Bool := cwOk P nt (bitsL rs) c (bitsL rs) (fun _ => 0)

theorem calls_of_fnW {P : Program} {f : FuncId} {fn : Func} {c : Code} {args : Array Value} {w : World} {K : KV} {nt : Nat} {rs : List Nat} (hm : P.follows .mixedOrders = true)
    (hf : P.funcs[f]? = some fn) (hb : fn.body = some c) (hn : fn.ntmps = nt) (hr : fn.results = (rs.map ResultVar.tmp).toArray) (hargs : args.size ≤ nt) (hok : fnOk P nt rs c = true)
    (h : fnW P nt rs c args w K) : CallsR P f args w K := by
  refine calls_of_wp hf hb (wpIn_wide (n := 0).1 (cw_sound (ro := none) hm c _ _ _ (Ev.init args) _ w _ (.inl rfl) hok ⟨by simp [hn]; omega, rfl, fun t _ => ?_⟩ ?_ ?_ ?_ h))
  · simp only [Ev.init, Array.getD_eq_getD_getElem?, Array.getElem?_append]
    split
    · rfl
    · rename_i hge
      rw [Array.getElem?_eq_none (xs := args) (by omega)]
      cases hx : (Array.replicate (fn.ntmps - args.size) undef)[t - args.size]? with
      | none => rfl
      | some v =>
        simp only [Array.getElem?_replicate] at hx
        split at hx
        · cases hx; rfl
        · cases hx
  · intro ρ' a' w' k1 k2 _
    exact ⟨k2.2.1, _, run_results hr k2 (fun t ht => bitsL_mem ht) w', _, rfl, k1⟩
  · intro id ρ' a' w' k1
    exact k1.elim
  · intro ρ' a' w' k1 k2
    exact ⟨k2.2.1, _, run_results hr k2 (fun t ht => bitsL_mem ht) w', _, rfl, k1⟩

/-- A function by its printed form. -/
theorem calls_of_F {P : Program} {f : FuncId} {fn : Func} {args : Array Value} {w : World} {K : KV} {nt : Nat} {rs : List Nat} {F : Prop} (hm : P.follows .mixedOrders = true)
    (hf : P.funcs[f]? = some fn) (hs : (match fn.body with | some _ => true | none => false) = true) (hn : fn.ntmps = nt) (hr : fn.results = (rs.map ResultVar.tmp).toArray) (hargs : args.size ≤ nt)
    (hok : fnOk P nt rs (match fn.body with | some c => c | none => .skip) = true) (he : F = fnW P nt rs (match fn.body with | some c => c | none => .skip) args w K) (h : F) : CallsR P f args w K := by
  cases hb : fn.body with
  | none => rw [hb] at hs; cases hs
  | some c =>
    rw [hb] at hok he
    exact calls_of_fnW hm hf hb hn hr hargs hok (he ▸ h)

/-! ### Curried joins and loops -/
abbrev Again := List Value → World → Prop
/-- A scope with one label: what leads to it, and what is done from it on. -/
def sg (n : Nat) (first : Again → Prop) (pass : List Value → World → Again → Prop) : Prop :=
  ∃ (I : List Value → World → Prop) (μ : List Value → World → Nat), first I ∧ ∀ vs w, vs.length = n → I vs w → pass vs w (fun vs' w' => I vs' w' ∧ μ vs' w' < μ vs w)
def gx {α : Type} (x y : α) : Nat → α := fun i => match Nat.beq i 1000000 with | true => x | false => y
/-- What a function asks whose body is a scope with the label 0 behind a first part. -/
def fnWG (P : Program) (nt : Nat) (rs : List Nat) (a c r : Code) (args : Array Value) (w : World) (K : KV) : Prop :=
  cw P nt (bitsL rs) a (lv (bitsL rs) c (bitsL rs) (gx (lv (bitsL rs) r (bitsL rs) (fun _ => 0)) 0)) (fun _ => 0)
    ⟨fun ρ w => sg (slots nt (wr c &&& lv (bitsL rs) r (bitsL rs) (fun _ => 0))).length
      (fun again => cw P nt (bitsL rs) c (bitsL rs) (gx (lv (bitsL rs) r (bitsL rs) (fun _ => 0)) 0)
        ⟨fun ρ w => K (retV rs ρ) w, gx (fun ρ' w' => again ((slots nt (wr c &&& lv (bitsL rs) r (bitsL rs) (fun _ => 0))).map ρ') w') (fun _ _ => False), fun ρ w => K (retV rs ρ) w⟩ ρ w)
      (fun vs w again => cw P nt (bitsL rs) r (bitsL rs) (gx (lv (bitsL rs) r (bitsL rs) (fun _ => 0)) 0)
        ⟨fun ρ w => K (retV rs ρ) w, gx (fun ρ' w' => again ((slots nt (wr c &&& lv (bitsL rs) r (bitsL rs) (fun _ => 0))).map ρ') w') (fun _ _ => False), fun ρ w => K (retV rs ρ) w⟩ (ρ.over (slots nt (wr c &&& lv (bitsL rs) r (bitsL rs) (fun _ => 0))) vs) w),
      fun _ _ _ => False, fun ρ w => K (retV rs ρ) w⟩ (Ev.init args) w
def fnOkG (P : Program) (nt : Nat) (rs : List Nat) (a c r : Code) : Bool :=
  cwOk P nt (bitsL rs) a (lv (bitsL rs) c (bitsL rs) (gx (lv (bitsL rs) r (bitsL rs) (fun _ => 0)) 0)) (fun _ => 0) &&
  (cwOk P nt (bitsL rs) c (bitsL rs) (gx (lv (bitsL rs) r (bitsL rs) (fun _ => 0)) 0) &&
  (cwOk P nt (bitsL rs) r (bitsL rs) (gx (lv (bitsL rs) r (bitsL rs) (fun _ => 0)) 0) &&
  (sub (lv (bitsL rs) r (bitsL rs) (gx (lv (bitsL rs) r (bitsL rs) (fun _ => 0)) 0)) (lv (bitsL rs) r (bitsL rs) (fun _ => 0)) &&
  sub (wr r) (wr c))))
theorem calls_of_fnWG {P : Program} {f : FuncId} {fn : Func} {x c r : Code} {args : Array Value} {w : World} {K : KV} {nt : Nat} {rs : List Nat} (hm : P.follows .mixedOrders = true)
    (hf : P.funcs[f]? = some fn) (hb : fn.body = some (.seq x (.scope c))) (hl : findLabel c 0 = some r) (hn : fn.ntmps = nt) (hr : fn.results = (rs.map ResultVar.tmp).toArray) (hargs : args.size ≤ nt) (hok : fnOkG P nt rs x c r = true)
    (h : fnWG P nt rs x c r args w K) : CallsR P f args w K := by
  unfold fnOkG at hok
  unfold fnWG at h
  generalize hL : lv (bitsL rs) r (bitsL rs) (fun _ => 0) = L at *
  simp only [Bool.and_eq_true] at hok
  obtain ⟨ho1, ho2, ho3, ho4, ho5⟩ := hok
  have fin : ∀ (ρ' : Ev) (a' : Act) (w' : World) (e : Exit), (e = .normal ∨ e = .ret) → K (retV rs ρ') w' → AgrD [] nt (bitsL rs) a' ρ' → bodyPost P fn (fun e w' => ∃ v, e = .returned v ∧ K v w') e a' w' := by
    intro ρ' a' w' e he k1 k2
    rcases he with rfl | rfl
    · exact ⟨k2.2.1, _, run_results hr k2 (fun t ht => bitsL_mem ht) w', _, rfl, k1⟩
    · exact ⟨k2.2.1, _, run_results hr k2 (fun t ht => bitsL_mem ht) w', _, rfl, k1⟩
  refine calls_of_wp hf hb (wp_seq (wpIn_wide (n := 0).1 (cw_sound (ro := none) hm x _ _ _ (Ev.init args) _ w _ (.inl rfl) ho1 ⟨by simp [hn]; omega, rfl, fun t _ => ?_⟩ ?_ ?_ ?_ h)))
  · simp only [Ev.init, Array.getD_eq_getD_getElem?, Array.getElem?_append]
    split
    · rfl
    · rename_i hge
      rw [Array.getElem?_eq_none (xs := args) (by omega)]
      cases hx : (Array.replicate (fn.ntmps - args.size) undef)[t - args.size]? with
      | none => rfl
      | some v =>
        simp only [Array.getElem?_replicate] at hx
        split at hx
        · cases hx; rfl
        · cases hx
  rotate_left
  · intro id ρ' a' w' k1
    exact k1.elim
  · intro ρ' a' w' k1 k2
    exact fin _ _ _ .ret (.inr rfl) k1 k2
  intro ρ a w ⟨I, μ, h1, h2⟩ ha _
  have hwl := wr_lt c _ _ ho2
  generalize hms : slots nt (wr c &&& L) = ms at *
  have hmem : ∀ t, t ∈ ms → L.testBit t = true := fun t ht => by
    rw [← hms, mem_slots, Nat.testBit_and, Bool.and_eq_true] at ht
    exact ht.2.2
  have hvs : ∀ {a' : Act} {ρ' : Ev}, AgrD [] nt L a' ρ' → ms.map (fun t => a'.tmps.getD t undef) = ms.map ρ' := fun h1 =>
    List.map_congr_left fun t ht => h1.2.2 t (hmem t ht)
  refine wp_scope_jumps 0 (fun a' w' => I (ms.map fun t => a'.tmps.getD t undef) w' ∧ AgrD [] nt L a' (ρ.over ms (ms.map fun t => a'.tmps.getD t undef))) (fun a' w' => μ (ms.map fun t => a'.tmps.getD t undef) w') hl ?_ ?_
  · refine wpIn_wide (n := 0).1 (cw_sound (ro := none) hm c _ _ _ ρ a w _ (.inl rfl) ho2 ha ?_ ?_ ?_ h1)
    · intro ρ' a' w' k1 k2 _
      exact fin _ _ _ .normal (.inl rfl) k1 k2
    rotate_left
    · intro ρ' a' w' k1 k2
      exact fin _ _ _ .ret (.inr rfl) k1 k2
    intro id ρ' a' w' k1 k2 k3
    cases hb : Nat.beq id 1000000 with
    | false => simp only [gx, hb] at k1
    | true =>
      simp only [gx, hb] at k1 k2
      obtain rfl := Nat.eq_of_beq_eq_true hb
      refine ⟨rfl, by rw [hvs k2]; exact k1, ?_⟩
      rw [hvs k2]
      have := k2.over (W := wr c) hwl k3
      rw [hms] at this
      exact this
  · intro a1 w1 ⟨h3, ha1⟩
    have hfo : Fr (wr c) ρ (ρ.over ms (ms.map fun t => a1.tmps.getD t undef)) := (over_Fr ms hms.symm _ _).mono fun t ht => by simp only [Nat.testBit_and, Bool.and_eq_true] at ht; exact ht.1
    refine wpIn_wide (n := 0).1 (cw_sound (ro := none) hm r _ _ _ _ a1 w1 _ (.inl rfl) ho3 (ha1.mono (sub_spec ho4)) ?_ ?_ ?_ (h2 _ w1 (by simp) h3))
    · intro ρ' a' w' k1 k2 _
      exact fin _ _ _ .normal (.inl rfl) k1 k2
    rotate_left
    · intro ρ' a' w' k1 k2
      exact fin _ _ _ .ret (.inr rfl) k1 k2
    intro id ρ' a' w' k1 k2 k3
    cases hb : Nat.beq id 1000000 with
    | false => simp only [gx, hb] at k1
    | true =>
      simp only [gx, hb] at k1 k2
      obtain rfl := Nat.eq_of_beq_eq_true hb
      have k4 : Fr (wr c) ρ ρ' := (hfo.trans (k3.mono (sub_spec ho5))).mono fun t ht => by simpa using ht
      refine ⟨rfl, ⟨by rw [hvs k2]; exact k1.1, ?_⟩, by rw [hvs k2]; exact k1.2⟩
      rw [hvs k2]
      have := k2.over (W := wr c) hwl k4
      rw [hms] at this
      exact this
def J0 (rest : World → Prop) (body : (World → Prop) → Prop) : Prop := body rest
def b0 (f : World → Again → Prop) : List Value → World → Again → Prop := fun _ w g => f w g
theorem J0.cut {rest : World → Prop} {body : (World → Prop) → Prop} (A : World → Prop) (h2 : ∀ k, (∀ w, A w → k w) → body k) (h1 : ∀ w, A w → rest w) : J0 rest body := h2 rest h1
theorem lp0 {w : World} {f : World → Again → Prop} (I : World → Prop) (μ : World → Nat) (h0 : I w)
    (hr : ∀ w (g : Again), I w → (∀ w', I w' → μ w' < μ w → g [] w') → f w g) : lp [] w (b0 f) := by
  refine ⟨fun vs w => vs = [] ∧ I w, fun _ w => μ w, ⟨rfl, h0⟩, ?_⟩
  rintro vs w _ ⟨rfl, hI⟩
  exact hr w _ hI fun w' k1 k2 => ⟨⟨rfl, k1⟩, k2⟩
def J1 (rest : Value → World → Prop) (body : (Value → World → Prop) → Prop) : Prop := body rest
def b1 (f : Value → World → Again → Prop) : List Value → World → Again → Prop := fun vs w g => f (vs.getD 0 undef) w g
theorem J1.cut {rest : Value → World → Prop} {body : (Value → World → Prop) → Prop} (A : Value → World → Prop) (h2 : ∀ k, (∀ x0 w, A x0 w → k x0 w) → body k) (h1 : ∀ x0 w, A x0 w → rest x0 w) : J1 rest body := h2 rest h1
theorem lp1 {x0 : Value} {w : World} {f : Value → World → Again → Prop} (I : Value → World → Prop) (μ : Value → World → Nat) (h0 : I x0 w)
    (hr : ∀ x0 w (g : Again), I x0 w → (∀ x0' w', I x0' w' → μ x0' w' < μ x0 w → g [x0'] w') → f x0 w g) : lp [x0] w (b1 f) := by
  refine ⟨fun vs w => ∃ x0, vs = [x0] ∧ I x0 w, fun vs w => μ (vs.getD 0 undef) w, ⟨x0, rfl, h0⟩, ?_⟩
  rintro vs w _ ⟨x0, rfl, hI⟩
  exact hr x0 w _ hI fun x0' w' k1 k2 => ⟨⟨x0', rfl, k1⟩, k2⟩
def J2 (rest : Value → Value → World → Prop) (body : (Value → Value → World → Prop) → Prop) : Prop := body rest
def b2 (f : Value → Value → World → Again → Prop) : List Value → World → Again → Prop := fun vs w g => f (vs.getD 0 undef) (vs.getD 1 undef) w g
theorem J2.cut {rest : Value → Value → World → Prop} {body : (Value → Value → World → Prop) → Prop} (A : Value → Value → World → Prop) (h2 : ∀ k, (∀ x0 x1 w, A x0 x1 w → k x0 x1 w) → body k) (h1 : ∀ x0 x1 w, A x0 x1 w → rest x0 x1 w) : J2 rest body := h2 rest h1
theorem lp2 {x0 x1 : Value} {w : World} {f : Value → Value → World → Again → Prop} (I : Value → Value → World → Prop) (μ : Value → Value → World → Nat) (h0 : I x0 x1 w)
    (hr : ∀ x0 x1 w (g : Again), I x0 x1 w → (∀ x0' x1' w', I x0' x1' w' → μ x0' x1' w' < μ x0 x1 w → g [x0', x1'] w') → f x0 x1 w g) : lp [x0, x1] w (b2 f) := by
  refine ⟨fun vs w => ∃ x0 x1, vs = [x0, x1] ∧ I x0 x1 w, fun vs w => μ (vs.getD 0 undef) (vs.getD 1 undef) w, ⟨x0, x1, rfl, h0⟩, ?_⟩
  rintro vs w _ ⟨x0, x1, rfl, hI⟩
  exact hr x0 x1 w _ hI fun x0' x1' w' k1 k2 => ⟨⟨x0', x1', rfl, k1⟩, k2⟩
def J3 (rest : Value → Value → Value → World → Prop) (body : (Value → Value → Value → World → Prop) → Prop) : Prop := body rest
def b3 (f : Value → Value → Value → World → Again → Prop) : List Value → World → Again → Prop := fun vs w g => f (vs.getD 0 undef) (vs.getD 1 undef) (vs.getD 2 undef) w g
theorem J3.cut {rest : Value → Value → Value → World → Prop} {body : (Value → Value → Value → World → Prop) → Prop} (A : Value → Value → Value → World → Prop) (h2 : ∀ k, (∀ x0 x1 x2 w, A x0 x1 x2 w → k x0 x1 x2 w) → body k) (h1 : ∀ x0 x1 x2 w, A x0 x1 x2 w → rest x0 x1 x2 w) : J3 rest body := h2 rest h1
theorem lp3 {x0 x1 x2 : Value} {w : World} {f : Value → Value → Value → World → Again → Prop} (I : Value → Value → Value → World → Prop) (μ : Value → Value → Value → World → Nat) (h0 : I x0 x1 x2 w)
    (hr : ∀ x0 x1 x2 w (g : Again), I x0 x1 x2 w → (∀ x0' x1' x2' w', I x0' x1' x2' w' → μ x0' x1' x2' w' < μ x0 x1 x2 w → g [x0', x1', x2'] w') → f x0 x1 x2 w g) : lp [x0, x1, x2] w (b3 f) := by
  refine ⟨fun vs w => ∃ x0 x1 x2, vs = [x0, x1, x2] ∧ I x0 x1 x2 w, fun vs w => μ (vs.getD 0 undef) (vs.getD 1 undef) (vs.getD 2 undef) w, ⟨x0, x1, x2, rfl, h0⟩, ?_⟩
  rintro vs w _ ⟨x0, x1, x2, rfl, hI⟩
  exact hr x0 x1 x2 w _ hI fun x0' x1' x2' w' k1 k2 => ⟨⟨x0', x1', x2', rfl, k1⟩, k2⟩
def J4 (rest : Value → Value → Value → Value → World → Prop) (body : (Value → Value → Value → Value → World → Prop) → Prop) : Prop := body rest
def b4 (f : Value → Value → Value → Value → World → Again → Prop) : List Value → World → Again → Prop := fun vs w g => f (vs.getD 0 undef) (vs.getD 1 undef) (vs.getD 2 undef) (vs.getD 3 undef) w g
theorem J4.cut {rest : Value → Value → Value → Value → World → Prop} {body : (Value → Value → Value → Value → World → Prop) → Prop} (A : Value → Value → Value → Value → World → Prop) (h2 : ∀ k, (∀ x0 x1 x2 x3 w, A x0 x1 x2 x3 w → k x0 x1 x2 x3 w) → body k) (h1 : ∀ x0 x1 x2 x3 w, A x0 x1 x2 x3 w → rest x0 x1 x2 x3 w) : J4 rest body := h2 rest h1
theorem lp4 {x0 x1 x2 x3 : Value} {w : World} {f : Value → Value → Value → Value → World → Again → Prop} (I : Value → Value → Value → Value → World → Prop) (μ : Value → Value → Value → Value → World → Nat) (h0 : I x0 x1 x2 x3 w)
    (hr : ∀ x0 x1 x2 x3 w (g : Again), I x0 x1 x2 x3 w → (∀ x0' x1' x2' x3' w', I x0' x1' x2' x3' w' → μ x0' x1' x2' x3' w' < μ x0 x1 x2 x3 w → g [x0', x1', x2', x3'] w') → f x0 x1 x2 x3 w g) : lp [x0, x1, x2, x3] w (b4 f) := by
  refine ⟨fun vs w => ∃ x0 x1 x2 x3, vs = [x0, x1, x2, x3] ∧ I x0 x1 x2 x3 w, fun vs w => μ (vs.getD 0 undef) (vs.getD 1 undef) (vs.getD 2 undef) (vs.getD 3 undef) w, ⟨x0, x1, x2, x3, rfl, h0⟩, ?_⟩
  rintro vs w _ ⟨x0, x1, x2, x3, rfl, hI⟩
  exact hr x0 x1 x2 x3 w _ hI fun x0' x1' x2' x3' w' k1 k2 => ⟨⟨x0', x1', x2', x3', rfl, k1⟩, k2⟩
def J5 (rest : Value → Value → Value → Value → Value → World → Prop) (body : (Value → Value → Value → Value → Value → World → Prop) → Prop) : Prop := body rest
def b5 (f : Value → Value → Value → Value → Value → World → Again → Prop) : List Value → World → Again → Prop := fun vs w g => f (vs.getD 0 undef) (vs.getD 1 undef) (vs.getD 2 undef) (vs.getD 3 undef) (vs.getD 4 undef) w g
theorem J5.cut {rest : Value → Value → Value → Value → Value → World → Prop} {body : (Value → Value → Value → Value → Value → World → Prop) → Prop} (A : Value → Value → Value → Value → Value → World → Prop) (h2 : ∀ k, (∀ x0 x1 x2 x3 x4 w, A x0 x1 x2 x3 x4 w → k x0 x1 x2 x3 x4 w) → body k) (h1 : ∀ x0 x1 x2 x3 x4 w, A x0 x1 x2 x3 x4 w → rest x0 x1 x2 x3 x4 w) : J5 rest body := h2 rest h1
theorem lp5 {x0 x1 x2 x3 x4 : Value} {w : World} {f : Value → Value → Value → Value → Value → World → Again → Prop} (I : Value → Value → Value → Value → Value → World → Prop) (μ : Value → Value → Value → Value → Value → World → Nat) (h0 : I x0 x1 x2 x3 x4 w)
    (hr : ∀ x0 x1 x2 x3 x4 w (g : Again), I x0 x1 x2 x3 x4 w → (∀ x0' x1' x2' x3' x4' w', I x0' x1' x2' x3' x4' w' → μ x0' x1' x2' x3' x4' w' < μ x0 x1 x2 x3 x4 w → g [x0', x1', x2', x3', x4'] w') → f x0 x1 x2 x3 x4 w g) : lp [x0, x1, x2, x3, x4] w (b5 f) := by
  refine ⟨fun vs w => ∃ x0 x1 x2 x3 x4, vs = [x0, x1, x2, x3, x4] ∧ I x0 x1 x2 x3 x4 w, fun vs w => μ (vs.getD 0 undef) (vs.getD 1 undef) (vs.getD 2 undef) (vs.getD 3 undef) (vs.getD 4 undef) w, ⟨x0, x1, x2, x3, x4, rfl, h0⟩, ?_⟩
  rintro vs w _ ⟨x0, x1, x2, x3, x4, rfl, hI⟩
  exact hr x0 x1 x2 x3 x4 w _ hI fun x0' x1' x2' x3' x4' w' k1 k2 => ⟨⟨x0', x1', x2', x3', x4', rfl, k1⟩, k2⟩
def J6 (rest : Value → Value → Value → Value → Value → Value → World → Prop) (body : (Value → Value → Value → Value → Value → Value → World → Prop) → Prop) : Prop := body rest
def b6 (f : Value → Value → Value → Value → Value → Value → World → Again → Prop) : List Value → World → Again → Prop := fun vs w g => f (vs.getD 0 undef) (vs.getD 1 undef) (vs.getD 2 undef) (vs.getD 3 undef) (vs.getD 4 undef) (vs.getD 5 undef) w g
theorem J6.cut {rest : Value → Value → Value → Value → Value → Value → World → Prop} {body : (Value → Value → Value → Value → Value → Value → World → Prop) → Prop} (A : Value → Value → Value → Value → Value → Value → World → Prop) (h2 : ∀ k, (∀ x0 x1 x2 x3 x4 x5 w, A x0 x1 x2 x3 x4 x5 w → k x0 x1 x2 x3 x4 x5 w) → body k) (h1 : ∀ x0 x1 x2 x3 x4 x5 w, A x0 x1 x2 x3 x4 x5 w → rest x0 x1 x2 x3 x4 x5 w) : J6 rest body := h2 rest h1
theorem lp6 {x0 x1 x2 x3 x4 x5 : Value} {w : World} {f : Value → Value → Value → Value → Value → Value → World → Again → Prop} (I : Value → Value → Value → Value → Value → Value → World → Prop) (μ : Value → Value → Value → Value → Value → Value → World → Nat) (h0 : I x0 x1 x2 x3 x4 x5 w)
    (hr : ∀ x0 x1 x2 x3 x4 x5 w (g : Again), I x0 x1 x2 x3 x4 x5 w → (∀ x0' x1' x2' x3' x4' x5' w', I x0' x1' x2' x3' x4' x5' w' → μ x0' x1' x2' x3' x4' x5' w' < μ x0 x1 x2 x3 x4 x5 w → g [x0', x1', x2', x3', x4', x5'] w') → f x0 x1 x2 x3 x4 x5 w g) : lp [x0, x1, x2, x3, x4, x5] w (b6 f) := by
  refine ⟨fun vs w => ∃ x0 x1 x2 x3 x4 x5, vs = [x0, x1, x2, x3, x4, x5] ∧ I x0 x1 x2 x3 x4 x5 w, fun vs w => μ (vs.getD 0 undef) (vs.getD 1 undef) (vs.getD 2 undef) (vs.getD 3 undef) (vs.getD 4 undef) (vs.getD 5 undef) w, ⟨x0, x1, x2, x3, x4, x5, rfl, h0⟩, ?_⟩
  rintro vs w _ ⟨x0, x1, x2, x3, x4, x5, rfl, hI⟩
  exact hr x0 x1 x2 x3 x4 x5 w _ hI fun x0' x1' x2' x3' x4' x5' w' k1 k2 => ⟨⟨x0', x1', x2', x3', x4', x5', rfl, k1⟩, k2⟩
def J7 (rest : Value → Value → Value → Value → Value → Value → Value → World → Prop) (body : (Value → Value → Value → Value → Value → Value → Value → World → Prop) → Prop) : Prop := body rest
def b7 (f : Value → Value → Value → Value → Value → Value → Value → World → Again → Prop) : List Value → World → Again → Prop := fun vs w g => f (vs.getD 0 undef) (vs.getD 1 undef) (vs.getD 2 undef) (vs.getD 3 undef) (vs.getD 4 undef) (vs.getD 5 undef) (vs.getD 6 undef) w g
theorem J7.cut {rest : Value → Value → Value → Value → Value → Value → Value → World → Prop} {body : (Value → Value → Value → Value → Value → Value → Value → World → Prop) → Prop} (A : Value → Value → Value → Value → Value → Value → Value → World → Prop) (h2 : ∀ k, (∀ x0 x1 x2 x3 x4 x5 x6 w, A x0 x1 x2 x3 x4 x5 x6 w → k x0 x1 x2 x3 x4 x5 x6 w) → body k) (h1 : ∀ x0 x1 x2 x3 x4 x5 x6 w, A x0 x1 x2 x3 x4 x5 x6 w → rest x0 x1 x2 x3 x4 x5 x6 w) : J7 rest body := h2 rest h1
theorem lp7 {x0 x1 x2 x3 x4 x5 x6 : Value} {w : World} {f : Value → Value → Value → Value → Value → Value → Value → World → Again → Prop} (I : Value → Value → Value → Value → Value → Value → Value → World → Prop) (μ : Value → Value → Value → Value → Value → Value → Value → World → Nat) (h0 : I x0 x1 x2 x3 x4 x5 x6 w)
    (hr : ∀ x0 x1 x2 x3 x4 x5 x6 w (g : Again), I x0 x1 x2 x3 x4 x5 x6 w → (∀ x0' x1' x2' x3' x4' x5' x6' w', I x0' x1' x2' x3' x4' x5' x6' w' → μ x0' x1' x2' x3' x4' x5' x6' w' < μ x0 x1 x2 x3 x4 x5 x6 w → g [x0', x1', x2', x3', x4', x5', x6'] w') → f x0 x1 x2 x3 x4 x5 x6 w g) : lp [x0, x1, x2, x3, x4, x5, x6] w (b7 f) := by
  refine ⟨fun vs w => ∃ x0 x1 x2 x3 x4 x5 x6, vs = [x0, x1, x2, x3, x4, x5, x6] ∧ I x0 x1 x2 x3 x4 x5 x6 w, fun vs w => μ (vs.getD 0 undef) (vs.getD 1 undef) (vs.getD 2 undef) (vs.getD 3 undef) (vs.getD 4 undef) (vs.getD 5 undef) (vs.getD 6 undef) w, ⟨x0, x1, x2, x3, x4, x5, x6, rfl, h0⟩, ?_⟩
  rintro vs w _ ⟨x0, x1, x2, x3, x4, x5, x6, rfl, hI⟩
  exact hr x0 x1 x2 x3 x4 x5 x6 w _ hI fun x0' x1' x2' x3' x4' x5' x6' w' k1 k2 => ⟨⟨x0', x1', x2', x3', x4', x5', x6', rfl, k1⟩, k2⟩
def J8 (rest : Value → Value → Value → Value → Value → Value → Value → Value → World → Prop) (body : (Value → Value → Value → Value → Value → Value → Value → Value → World → Prop) → Prop) : Prop := body rest
def b8 (f : Value → Value → Value → Value → Value → Value → Value → Value → World → Again → Prop) : List Value → World → Again → Prop := fun vs w g => f (vs.getD 0 undef) (vs.getD 1 undef) (vs.getD 2 undef) (vs.getD 3 undef) (vs.getD 4 undef) (vs.getD 5 undef) (vs.getD 6 undef) (vs.getD 7 undef) w g
theorem J8.cut {rest : Value → Value → Value → Value → Value → Value → Value → Value → World → Prop} {body : (Value → Value → Value → Value → Value → Value → Value → Value → World → Prop) → Prop} (A : Value → Value → Value → Value → Value → Value → Value → Value → World → Prop) (h2 : ∀ k, (∀ x0 x1 x2 x3 x4 x5 x6 x7 w, A x0 x1 x2 x3 x4 x5 x6 x7 w → k x0 x1 x2 x3 x4 x5 x6 x7 w) → body k) (h1 : ∀ x0 x1 x2 x3 x4 x5 x6 x7 w, A x0 x1 x2 x3 x4 x5 x6 x7 w → rest x0 x1 x2 x3 x4 x5 x6 x7 w) : J8 rest body := h2 rest h1
theorem lp8 {x0 x1 x2 x3 x4 x5 x6 x7 : Value} {w : World} {f : Value → Value → Value → Value → Value → Value → Value → Value → World → Again → Prop} (I : Value → Value → Value → Value → Value → Value → Value → Value → World → Prop) (μ : Value → Value → Value → Value → Value → Value → Value → Value → World → Nat) (h0 : I x0 x1 x2 x3 x4 x5 x6 x7 w)
    (hr : ∀ x0 x1 x2 x3 x4 x5 x6 x7 w (g : Again), I x0 x1 x2 x3 x4 x5 x6 x7 w → (∀ x0' x1' x2' x3' x4' x5' x6' x7' w', I x0' x1' x2' x3' x4' x5' x6' x7' w' → μ x0' x1' x2' x3' x4' x5' x6' x7' w' < μ x0 x1 x2 x3 x4 x5 x6 x7 w → g [x0', x1', x2', x3', x4', x5', x6', x7'] w') → f x0 x1 x2 x3 x4 x5 x6 x7 w g) : lp [x0, x1, x2, x3, x4, x5, x6, x7] w (b8 f) := by
  refine ⟨fun vs w => ∃ x0 x1 x2 x3 x4 x5 x6 x7, vs = [x0, x1, x2, x3, x4, x5, x6, x7] ∧ I x0 x1 x2 x3 x4 x5 x6 x7 w, fun vs w => μ (vs.getD 0 undef) (vs.getD 1 undef) (vs.getD 2 undef) (vs.getD 3 undef) (vs.getD 4 undef) (vs.getD 5 undef) (vs.getD 6 undef) (vs.getD 7 undef) w, ⟨x0, x1, x2, x3, x4, x5, x6, x7, rfl, h0⟩, ?_⟩
  rintro vs w _ ⟨x0, x1, x2, x3, x4, x5, x6, x7, rfl, hI⟩
  exact hr x0 x1 x2 x3 x4 x5 x6 x7 w _ hI fun x0' x1' x2' x3' x4' x5' x6' x7' w' k1 k2 => ⟨⟨x0', x1', x2', x3', x4', x5', x6', x7', rfl, k1⟩, k2⟩
def J9 (rest : Value → Value → Value → Value → Value → Value → Value → Value → Value → World → Prop) (body : (Value → Value → Value → Value → Value → Value → Value → Value → Value → World → Prop) → Prop) : Prop := body rest
def b9 (f : Value → Value → Value → Value → Value → Value → Value → Value → Value → World → Again → Prop) : List Value → World → Again → Prop := fun vs w g => f (vs.getD 0 undef) (vs.getD 1 undef) (vs.getD 2 undef) (vs.getD 3 undef) (vs.getD 4 undef) (vs.getD 5 undef) (vs.getD 6 undef) (vs.getD 7 undef) (vs.getD 8 undef) w g
theorem J9.cut {rest : Value → Value → Value → Value → Value → Value → Value → Value → Value → World → Prop} {body : (Value → Value → Value → Value → Value → Value → Value → Value → Value → World → Prop) → Prop} (A : Value → Value → Value → Value → Value → Value → Value → Value → Value → World → Prop) (h2 : ∀ k, (∀ x0 x1 x2 x3 x4 x5 x6 x7 x8 w, A x0 x1 x2 x3 x4 x5 x6 x7 x8 w → k x0 x1 x2 x3 x4 x5 x6 x7 x8 w) → body k) (h1 : ∀ x0 x1 x2 x3 x4 x5 x6 x7 x8 w, A x0 x1 x2 x3 x4 x5 x6 x7 x8 w → rest x0 x1 x2 x3 x4 x5 x6 x7 x8 w) : J9 rest body := h2 rest h1
theorem lp9 {x0 x1 x2 x3 x4 x5 x6 x7 x8 : Value} {w : World} {f : Value → Value → Value → Value → Value → Value → Value → Value → Value → World → Again → Prop} (I : Value → Value → Value → Value → Value → Value → Value → Value → Value → World → Prop) (μ : Value → Value → Value → Value → Value → Value → Value → Value → Value → World → Nat) (h0 : I x0 x1 x2 x3 x4 x5 x6 x7 x8 w)
    (hr : ∀ x0 x1 x2 x3 x4 x5 x6 x7 x8 w (g : Again), I x0 x1 x2 x3 x4 x5 x6 x7 x8 w → (∀ x0' x1' x2' x3' x4' x5' x6' x7' x8' w', I x0' x1' x2' x3' x4' x5' x6' x7' x8' w' → μ x0' x1' x2' x3' x4' x5' x6' x7' x8' w' < μ x0 x1 x2 x3 x4 x5 x6 x7 x8 w → g [x0', x1', x2', x3', x4', x5', x6', x7', x8'] w') → f x0 x1 x2 x3 x4 x5 x6 x7 x8 w g) : lp [x0, x1, x2, x3, x4, x5, x6, x7, x8] w (b9 f) := by
  refine ⟨fun vs w => ∃ x0 x1 x2 x3 x4 x5 x6 x7 x8, vs = [x0, x1, x2, x3, x4, x5, x6, x7, x8] ∧ I x0 x1 x2 x3 x4 x5 x6 x7 x8 w, fun vs w => μ (vs.getD 0 undef) (vs.getD 1 undef) (vs.getD 2 undef) (vs.getD 3 undef) (vs.getD 4 undef) (vs.getD 5 undef) (vs.getD 6 undef) (vs.getD 7 undef) (vs.getD 8 undef) w, ⟨x0, x1, x2, x3, x4, x5, x6, x7, x8, rfl, h0⟩, ?_⟩
  rintro vs w _ ⟨x0, x1, x2, x3, x4, x5, x6, x7, x8, rfl, hI⟩
  exact hr x0 x1 x2 x3 x4 x5 x6 x7 x8 w _ hI fun x0' x1' x2' x3' x4' x5' x6' x7' x8' w' k1 k2 => ⟨⟨x0', x1', x2', x3', x4', x5', x6', x7', x8', rfl, k1⟩, k2⟩
def J10 (rest : Value → Value → Value → Value → Value → Value → Value → Value → Value → Value → World → Prop) (body : (Value → Value → Value → Value → Value → Value → Value → Value → Value → Value → World → Prop) → Prop) : Prop := body rest
def b10 (f : Value → Value → Value → Value → Value → Value → Value → Value → Value → Value → World → Again → Prop) : List Value → World → Again → Prop := fun vs w g => f (vs.getD 0 undef) (vs.getD 1 undef) (vs.getD 2 undef) (vs.getD 3 undef) (vs.getD 4 undef) (vs.getD 5 undef) (vs.getD 6 undef) (vs.getD 7 undef) (vs.getD 8 undef) (vs.getD 9 undef) w g
theorem J10.cut {rest : Value → Value → Value → Value → Value → Value → Value → Value → Value → Value → World → Prop} {body : (Value → Value → Value → Value → Value → Value → Value → Value → Value → Value → World → Prop) → Prop} (A : Value → Value → Value → Value → Value → Value → Value → Value → Value → Value → World → Prop) (h2 : ∀ k, (∀ x0 x1 x2 x3 x4 x5 x6 x7 x8 x9 w, A x0 x1 x2 x3 x4 x5 x6 x7 x8 x9 w → k x0 x1 x2 x3 x4 x5 x6 x7 x8 x9 w) → body k) (h1 : ∀ x0 x1 x2 x3 x4 x5 x6 x7 x8 x9 w, A x0 x1 x2 x3 x4 x5 x6 x7 x8 x9 w → rest x0 x1 x2 x3 x4 x5 x6 x7 x8 x9 w) : J10 rest body := h2 rest h1
theorem lp10 {x0 x1 x2 x3 x4 x5 x6 x7 x8 x9 : Value} {w : World} {f : Value → Value → Value → Value → Value → Value → Value → Value → Value → Value → World → Again → Prop} (I : Value → Value → Value → Value → Value → Value → Value → Value → Value → Value → World → Prop) (μ : Value → Value → Value → Value → Value → Value → Value → Value → Value → Value → World → Nat) (h0 : I x0 x1 x2 x3 x4 x5 x6 x7 x8 x9 w)
    (hr : ∀ x0 x1 x2 x3 x4 x5 x6 x7 x8 x9 w (g : Again), I x0 x1 x2 x3 x4 x5 x6 x7 x8 x9 w → (∀ x0' x1' x2' x3' x4' x5' x6' x7' x8' x9' w', I x0' x1' x2' x3' x4' x5' x6' x7' x8' x9' w' → μ x0' x1' x2' x3' x4' x5' x6' x7' x8' x9' w' < μ x0 x1 x2 x3 x4 x5 x6 x7 x8 x9 w → g [x0', x1', x2', x3', x4', x5', x6', x7', x8', x9'] w') → f x0 x1 x2 x3 x4 x5 x6 x7 x8 x9 w g) : lp [x0, x1, x2, x3, x4, x5, x6, x7, x8, x9] w (b10 f) := by
  refine ⟨fun vs w => ∃ x0 x1 x2 x3 x4 x5 x6 x7 x8 x9, vs = [x0, x1, x2, x3, x4, x5, x6, x7, x8, x9] ∧ I x0 x1 x2 x3 x4 x5 x6 x7 x8 x9 w, fun vs w => μ (vs.getD 0 undef) (vs.getD 1 undef) (vs.getD 2 undef) (vs.getD 3 undef) (vs.getD 4 undef) (vs.getD 5 undef) (vs.getD 6 undef) (vs.getD 7 undef) (vs.getD 8 undef) (vs.getD 9 undef) w, ⟨x0, x1, x2, x3, x4, x5, x6, x7, x8, x9, rfl, h0⟩, ?_⟩
  rintro vs w _ ⟨x0, x1, x2, x3, x4, x5, x6, x7, x8, x9, rfl, hI⟩
  exact hr x0 x1 x2 x3 x4 x5 x6 x7 x8 x9 w _ hI fun x0' x1' x2' x3' x4' x5' x6' x7' x8' x9' w' k1 k2 => ⟨⟨x0', x1', x2', x3', x4', x5', x6', x7', x8', x9', rfl, k1⟩, k2⟩

def gA : Option Code → Code
  | some (.seq x (.scope _)) => x
  | _ => .skip
def gC : Option Code → Code
  | some (.seq _ (.scope c)) => c
  | _ => .skip
def gR (c : Option Code) : Code := match findLabel (gC c) 0 with | some r => r | none => .skip
def isG : Option Code → Bool
  | some (.seq _ (.scope c)) => (findLabel c 0).isSome
  | _ => false
theorem calls_of_FG {P : Program} {f : FuncId} {fn : Func} {args : Array Value} {w : World} {K : KV} {nt : Nat} {rs : List Nat} {F : Prop} (hm : P.follows .mixedOrders = true)
    (hf : P.funcs[f]? = some fn) (hs : isG fn.body = true) (hn : fn.ntmps = nt) (hr : fn.results = (rs.map ResultVar.tmp).toArray) (hargs : args.size ≤ nt)
    (hok : fnOkG P nt rs (gA fn.body) (gC fn.body) (gR fn.body) = true) (he : F = fnWG P nt rs (gA fn.body) (gC fn.body) (gR fn.body) args w K) (h : F) : CallsR P f args w K := by
  generalize hb : fn.body = ob at *
  match ob, hs with
  | some (.seq x (.scope c)), hs =>
    simp only [isG] at hs
    obtain ⟨r, hr2⟩ := Option.isSome_iff_exists.1 hs
    have e1 : gR (some (.seq x (.scope c))) = r := by simp only [gR, gC, hr2]
    rw [e1] at hok he
    exact calls_of_fnWG hm hf hb hr2 hn hr hargs hok (he ▸ h)
theorem sg3 {first : Again → Prop} {f : Value → Value → Value → World → Again → Prop} (I : Value → Value → Value → World → Prop) (μ : Value → Value → Value → World → Nat) (h0 : ∀ g : Again, (∀ x0' x1' x2' w', I x0' x1' x2' w' → g [x0', x1', x2'] w') → first g)
    (hr : ∀ x0 x1 x2 w (g : Again), I x0 x1 x2 w → (∀ x0' x1' x2' w', I x0' x1' x2' w' → μ x0' x1' x2' w' < μ x0 x1 x2 w → g [x0', x1', x2'] w') → f x0 x1 x2 w g) : sg 3 first (b3 f) := by
  refine ⟨fun vs w => ∃ x0 x1 x2, vs = [x0, x1, x2] ∧ I x0 x1 x2 w, fun vs w => μ (vs.getD 0 undef) (vs.getD 1 undef) (vs.getD 2 undef) w, h0 _ fun x0' x1' x2' w' h => ⟨x0', x1', x2', rfl, h⟩, ?_⟩
  rintro vs w _ ⟨x0, x1, x2, rfl, hI⟩
  exact hr x0 x1 x2 w _ hI fun x0' x1' x2' w' k1 k2 => ⟨⟨x0', x1', x2', rfl, k1⟩, k2⟩
theorem sg4 {first : Again → Prop} {f : Value → Value → Value → Value → World → Again → Prop} (I : Value → Value → Value → Value → World → Prop) (μ : Value → Value → Value → Value → World → Nat) (h0 : ∀ g : Again, (∀ x0' x1' x2' x3' w', I x0' x1' x2' x3' w' → g [x0', x1', x2', x3'] w') → first g)
    (hr : ∀ x0 x1 x2 x3 w (g : Again), I x0 x1 x2 x3 w → (∀ x0' x1' x2' x3' w', I x0' x1' x2' x3' w' → μ x0' x1' x2' x3' w' < μ x0 x1 x2 x3 w → g [x0', x1', x2', x3'] w') → f x0 x1 x2 x3 w g) : sg 4 first (b4 f) := by
  refine ⟨fun vs w => ∃ x0 x1 x2 x3, vs = [x0, x1, x2, x3] ∧ I x0 x1 x2 x3 w, fun vs w => μ (vs.getD 0 undef) (vs.getD 1 undef) (vs.getD 2 undef) (vs.getD 3 undef) w, h0 _ fun x0' x1' x2' x3' w' h => ⟨x0', x1', x2', x3', rfl, h⟩, ?_⟩
  rintro vs w _ ⟨x0, x1, x2, x3, rfl, hI⟩
  exact hr x0 x1 x2 x3 w _ hI fun x0' x1' x2' x3' w' k1 k2 => ⟨⟨x0', x1', x2', x3', rfl, k1⟩, k2⟩
theorem sg5 {first : Again → Prop} {f : Value → Value → Value → Value → Value → World → Again → Prop} (I : Value → Value → Value → Value → Value → World → Prop) (μ : Value → Value → Value → Value → Value → World → Nat) (h0 : ∀ g : Again, (∀ x0' x1' x2' x3' x4' w', I x0' x1' x2' x3' x4' w' → g [x0', x1', x2', x3', x4'] w') → first g)
    (hr : ∀ x0 x1 x2 x3 x4 w (g : Again), I x0 x1 x2 x3 x4 w → (∀ x0' x1' x2' x3' x4' w', I x0' x1' x2' x3' x4' w' → μ x0' x1' x2' x3' x4' w' < μ x0 x1 x2 x3 x4 w → g [x0', x1', x2', x3', x4'] w') → f x0 x1 x2 x3 x4 w g) : sg 5 first (b5 f) := by
  refine ⟨fun vs w => ∃ x0 x1 x2 x3 x4, vs = [x0, x1, x2, x3, x4] ∧ I x0 x1 x2 x3 x4 w, fun vs w => μ (vs.getD 0 undef) (vs.getD 1 undef) (vs.getD 2 undef) (vs.getD 3 undef) (vs.getD 4 undef) w, h0 _ fun x0' x1' x2' x3' x4' w' h => ⟨x0', x1', x2', x3', x4', rfl, h⟩, ?_⟩
  rintro vs w _ ⟨x0, x1, x2, x3, x4, rfl, hI⟩
  exact hr x0 x1 x2 x3 x4 w _ hI fun x0' x1' x2' x3' x4' w' k1 k2 => ⟨⟨x0', x1', x2', x3', x4', rfl, k1⟩, k2⟩
theorem sg6 {first : Again → Prop} {f : Value → Value → Value → Value → Value → Value → World → Again → Prop} (I : Value → Value → Value → Value → Value → Value → World → Prop) (μ : Value → Value → Value → Value → Value → Value → World → Nat) (h0 : ∀ g : Again, (∀ x0' x1' x2' x3' x4' x5' w', I x0' x1' x2' x3' x4' x5' w' → g [x0', x1', x2', x3', x4', x5'] w') → first g)
    (hr : ∀ x0 x1 x2 x3 x4 x5 w (g : Again), I x0 x1 x2 x3 x4 x5 w → (∀ x0' x1' x2' x3' x4' x5' w', I x0' x1' x2' x3' x4' x5' w' → μ x0' x1' x2' x3' x4' x5' w' < μ x0 x1 x2 x3 x4 x5 w → g [x0', x1', x2', x3', x4', x5'] w') → f x0 x1 x2 x3 x4 x5 w g) : sg 6 first (b6 f) := by
  refine ⟨fun vs w => ∃ x0 x1 x2 x3 x4 x5, vs = [x0, x1, x2, x3, x4, x5] ∧ I x0 x1 x2 x3 x4 x5 w, fun vs w => μ (vs.getD 0 undef) (vs.getD 1 undef) (vs.getD 2 undef) (vs.getD 3 undef) (vs.getD 4 undef) (vs.getD 5 undef) w, h0 _ fun x0' x1' x2' x3' x4' x5' w' h => ⟨x0', x1', x2', x3', x4', x5', rfl, h⟩, ?_⟩
  rintro vs w _ ⟨x0, x1, x2, x3, x4, x5, rfl, hI⟩
  exact hr x0 x1 x2 x3 x4 x5 w _ hI fun x0' x1' x2' x3' x4' x5' w' k1 k2 => ⟨⟨x0', x1', x2', x3', x4', x5', rfl, k1⟩, k2⟩

end Go.E
