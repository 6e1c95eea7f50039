/- The law CutWaits. Conditions: none. -/
import Derived.Test.YtdiglafiimnfoaaCutB
namespace Go.Proofs.Ytdiglafiimnfoaa
open Go Go.E
set_option maxRecDepth 100000
variable {e w : World} {R : List HP} {K : KV}

/-- The first round: t have turned, r have reported. -/
structure CutW1 (c : CutS) (n t r : Nat) (o0 o1 least : Int) : Prop where
  hn : c.n = n
  hb : c.begun = 1
  hT : ∀ k, k < n → c.T k = if k < t then 1 else 0
  hR : ∀ k, k < n → c.Rp k = if k < r then 1 else 0
  hl : c.least = least
  h0 : c.on0 = o0
  h1 : c.on1 = o1
  ho : c.over = if r < n then 0 else 1
  hv : c.value = if r < n then 0 else max 0 least
variable {c : CutS} {n t r : Nat} {o0 o1 least : Int}
theorem CutW1.turn (h : CutW1 c n t 0 o0 o1 least) (ht : t < n) : c.turnE t = 0 ∧ CutW1 (c.turn t) n (t + 1) 0 o0 o1 least := by
  obtain ⟨hn, hb, hT, hR, hl, h0, h1, ho, hv⟩ := h
  rw [if_pos (by omega)] at ho hv
  obtain ⟨e1, e2⟩ := CutS.turn_ok (c := c) (i := t) (by omega) (by rw [hT t ht, if_neg (Nat.lt_irrefl t), hb]; decide)
  rw [e2]
  refine ⟨e1, hn, hb, fun k hk => ?_, hR, hl, h0, h1, by rw [if_pos (by omega)]; exact ho, by rw [if_pos (by omega)]; exact hv⟩
  show updF c.T t c.begun k = _
  by_cases hki : k = t
  · subst hki; rw [updF_eq, if_pos (Nat.lt_succ_self k), hb]
  · rw [updF_ne _ _ hki, hT k hk]
    by_cases hkl : k < t
    · rw [if_pos hkl, if_pos (by omega)]
    · rw [if_neg hkl, if_neg (by omega)]
theorem CutW1.early (h : CutW1 c n n r o0 o1 least) (hr : r < n) {i : Nat} (hi : i < n) (hir : r ≤ i) : ¬ c.early i ∧ c.on (c.over % 2) = o0 := by
  obtain ⟨hn, hb, hT, hR, hl, h0, h1, ho, hv⟩ := h
  rw [if_pos hr] at ho
  constructor
  · unfold CutS.early
    have ha : c.all (fun t _ => decide (t = c.begun)) = true := (CutS.all_iff hn _).2 fun j hj => by rw [hT j hj, if_pos hj, hb]; simp
    rw [ha, hR i hi, if_neg (by omega), hb, ho]
    rintro (h | h | h)
    · exact h (by decide)
    · cases h
    · exact absurd h (by decide)
  · rw [ho]
    show c.on 0 = o0
    unfold CutS.on
    rw [if_pos rfl, h0]
theorem CutW1.rep (h : CutW1 c n n r o0 o1 least) (hr : r < n) (x : Int) : CutW1 (c.rep1 r x).rep2 n n (r + 1) o0 o1 (min least x) := by
  obtain ⟨hn, hb, hT, hR, hl, h0, h1, ho, hv⟩ := h
  rw [if_pos hr] at ho hv
  have hR' : ∀ k, k < n → (c.rep1 r x).Rp k = if k < r + 1 then 1 else 0 := fun k hk => by
    show updF c.Rp r c.begun k = _
    by_cases hki : k = r
    · subst hki; rw [updF_eq, if_pos (Nat.lt_succ_self k), hb]
    · rw [updF_ne _ _ hki, hR k hk]
      by_cases hkl : k < r
      · rw [if_pos hkl, if_pos (by omega)]
      · rw [if_neg hkl, if_neg (by omega)]
  have hal : (c.rep1 r x).all (fun _ q => decide (q = c.begun)) = true ↔ ¬ r + 1 < n := by
    rw [CutS.all_iff (c := c.rep1 r x) hn]
    constructor
    · intro h hlt
      have := h (r + 1) hlt
      rw [hR' _ hlt, if_neg (Nat.lt_irrefl _), hb] at this
      simp at this
    · intro h j hj
      rw [hR' j hj, if_pos (by omega), hb]
      simp
  by_cases hlast : r + 1 < n
  · have : (c.rep1 r x).rep2 = c.rep1 r x := if_neg (fun h => (hal.1 h) hlast)
    rw [this]
    exact ⟨hn, hb, hT, hR', by show min c.least x = _; rw [hl], h0, h1, by rw [if_pos hlast]; exact ho, by rw [if_pos hlast]; exact hv⟩
  · have : (c.rep1 r x).rep2 = { c.rep1 r x with over := c.begun, value := max c.value (min c.least x) } := if_pos (hal.2 hlast)
    rw [this]
    refine ⟨hn, hb, hT, hR', by show min c.least x = _; rw [hl], h0, h1, by rw [if_neg hlast]; exact hb, ?_⟩
    rw [if_neg hlast]
    show max c.value (min c.least x) = _
    rw [hv, hl]

theorem validT16 {x : Int} (h : 0 ≤ x ∧ x ≤ 65535) : validT x = true := by
  simp only [validT, decide_eq_true_eq]
  unfold MaxT
  omega

theorem cutWaits_s {n from' to old now local' : Int} {S : HP} (hS : Sat e w (S :: R)) (w0 : (Lit.int .u8 n).wf = true) (w1 : (Lit.int .u8 from').wf = true) (w2 : (Lit.int .u8 to).wf = true)
    (w3 : (Lit.int .u16 old).wf = true) (w4 : (Lit.int .u16 now).wf = true) (w5 : (Lit.int .u16 local').wf = true)
    (hk : ∀ w', Sat e w' (S :: R) → K (.bool true) w') : Cl prog 5 #[.int .u8 n, .int .u8 from', .int .u8 to, .int .u16 old, .int .u16 now, .int .u16 local'] w K := by
  have b0 := wfU8 w0
  have b1 := wfU8 w1
  have b2 := wfU8 w2
  have b3 := wfU16 w3
  have b4 := wfU16 w4
  have b5 := wfU16 w5
  refine pacelinelaw16_CutWaits_calls ?_
  unfold pacelinelaw16_CutWaits
  refine cv_s ?_
  rw [wrap_i64 (by omega) (by omega)]
  refine rem_s (by decide) ?_
  rw [Int.tmod_eq_emod_of_nonneg (by omega)]
  refine add_s (by omega) (by omega) ?_
  obtain ⟨k, hkk⟩ : ∃ k : Nat, 2 + n % 7 = (k : Int) := ⟨(2 + n % 7).toNat, by omega⟩
  have hk2 : 2 ≤ k := by omega
  have hk8 : k ≤ 8 := by omega
  rw [hkk]
  refine cut_New_s (by omega) (by omega) hS fun g v1 h1 => ?_
  refine xt_02 (xt_12 (ne_f rfl (gd_ff (gd_ff (bnp_s _ (pk_f (iff_f ?_)))))))
  refine cv_s ?_
  rw [wrap_i64 (by omega) (by omega)]
  refine rem_s (by omega) ?_
  rw [Int.tmod_eq_emod_of_nonneg (by omega)]
  have ma1 : 0 ≤ from' % (k : Int) := Int.emod_nonneg _ (by omega)
  have ma2 : from' % (k : Int) < k := Int.emod_lt_of_pos _ (by omega)
  obtain ⟨a, ha⟩ : ∃ a : Nat, from' % (k : Int) = a := ⟨(from' % (k : Int)).toNat, by omega⟩
  rw [ha] at ma2 ⊢
  refine cv_s ?_
  rw [wrap_i64 (by omega) (by omega)]
  refine rem_s (by omega) ?_
  rw [Int.tmod_eq_emod_of_nonneg (by omega)]
  have mb1 : 0 ≤ to % (k : Int) := Int.emod_nonneg _ (by omega)
  have mb2 : to % (k : Int) < k := Int.emod_lt_of_pos _ (by omega)
  obtain ⟨b, hb⟩ : ∃ b : Nat, to % (k : Int) = b := ⟨(to % (k : Int)).toNat, by omega⟩
  rw [hb] at mb2 ⊢
  refine cv_s ?_
  rw [wrap_i64 (by omega) (by omega)]
  refine cut_Sent_s (by omega) ma2 (by unfold In64; omega) (validT16 b3) (fun z => by unfold CutS.on; split <;> exact ⟨(by decide : (-1000000 : Int) ≤ 0), (by decide : (0 : Int) ≤ 1000000)⟩) h1 fun v2 h2 => ?_
  rw [show (CutS.zero k).sent a old = { CutS.zero k with on0 := 1 } from rfl] at h2
  refine xt_02 (xt_12 (ne_f rfl (gd_ff (gd_ff (ne_f rfl (pk_f (gd_ff (gd_ff ?_))))))))
  refine cut_Begin_s ⟨Int.le_refl _, (by decide : (0 : Int) ≤ 1000000)⟩ h2 fun v3 h3 => ?_
  refine gd_ff (ne_f rfl (pk_f (iff_f ?_)))
  replace h3 : Sat e v3 (IsCut g { CutS.zero k with on0 := 1, begun := 1, least := Inf } :: S :: R) := h3
  have c0 : CutW1 { CutS.zero k with on0 := 1, begun := 1, least := Inf } k 0 0 1 0 Inf :=
    ⟨rfl, rfl, fun z _ => by rw [if_neg (Nat.not_lt_zero z)]; rfl, fun z _ => by rw [if_neg (Nat.not_lt_zero z)]; rfl, rfl, rfl, rfl, by rw [if_pos (by omega)]; rfl, by rw [if_pos (by omega)]; rfl⟩
  generalize ({ CutS.zero k with on0 := 1, begun := 1, least := Inf } : CutS) = c at c0 h3
  refine lpi1 (fun m t20 w => ∃ (j : Nat) (c : CutS), j ≤ k ∧ t20 = .int .i64 j ∧ m = k - j ∧ CutW1 c k j 0 1 0 Inf ∧ Sat e w (IsCut g c :: S :: R)) k ⟨0, c, Nat.zero_le _, rfl, rfl, c0, h3⟩ ?_
  rintro m _ w g1 ⟨j, c, hj, rfl, rfl, hc, h4⟩ hg
  refine lt_c (fun q1 => iff_t ?_) (fun q1 => iff_f ?_)
  · obtain ⟨t1, t2⟩ := hc.turn (by omega)
    refine cut_Turn_s (by omega) (by rw [hc.hn]; omega) h4 fun w5 h5 => ?_
    rw [t1]
    refine ne_f rfl (iff_f (inc_s (by omega) ?_))
    exact hg _ _ _ (by omega) ⟨j + 1, _, by omega, rfl, rfl, t2, h5⟩
  obtain rfl : j = k := by omega
  refine cv_s ?_
  rw [wrap_i64 (by omega) (by omega)]
  have hTb := hc.hT b (by omega)
  rw [if_pos (by omega)] at hTb
  have hov := hc.ho
  rw [if_pos (by omega)] at hov
  have hbe := hc.hb
  have hon : ∀ k, -1000000 ≤ c.on k ∧ c.on k ≤ 1000000 := fun k => by
    have e0 := hc.h0
    have e1 := hc.h1
    unfold CutS.on
    split <;> omega
  refine cut_Sent_s (i := b) (by omega) (by rw [hc.hn]; omega) (by unfold In64; omega) (validT16 b4) hon h4 fun v5 h5 => ?_
  rw [hTb]
  refine xt_02 (xt_12 (ne_f rfl (gd_ff (gd_ff (ne_f (by decide) (pk_f (iff_f ?_)))))))
  have c5 : CutW1 (c.sent b now) j j 0 1 1 (min Inf now) := by
    unfold CutS.sent
    rw [if_pos ⟨by omega, by rw [hTb, hbe]⟩, hTb]
    obtain ⟨hn, hb, hT, hR, hl, h0, h1, ho, hv⟩ := hc
    have e1 : c.on (1 % 2) = 0 := by unfold CutS.on; rw [if_neg (by decide), h1]
    rw [e1]
    exact ⟨hn, hb, hT, hR, by show min c.least now = _; rw [hl], h0, rfl, ho, by rw [if_pos (by omega)] at hv ⊢; exact hv⟩
  generalize c.sent b now = c5' at c5 h5
  have hvl := validT16 b5
  -- nobody can report
  refine lpi1 (fun m t23 w => ∃ i : Nat, i ≤ j ∧ t23 = .int .i64 i ∧ m = j - i ∧ Sat e w (IsCut g c5' :: S :: R)) j ⟨0, Nat.zero_le _, rfl, rfl, h5⟩ ?_
  rintro m _ w g2 ⟨i, hi, rfl, rfl, h6⟩ hg2
  refine lt_c (fun q2 => iff_t ?_) (fun q2 => iff_f ?_)
  · refine cv_s ?_
    rw [wrap_i64 (by omega) (by omega)]
    obtain ⟨r1, r2⟩ := c5.early (by omega) (i := i) (by omega) (Nat.zero_le _)
    refine cut_Report_s (by rw [c5.hn]; omega) (by omega) (by rw [c5.hn]; omega) (by unfold In64; omega) hvl h6 (fun h => absurd h r1) (fun _ _ w7 h7 => ?_) (fun _ h => absurd (by rw [r2]; decide) h)
    refine ne_f rfl (iff_f (inc_s (by omega) ?_))
    exact hg2 _ _ _ (by omega) ⟨i + 1, by omega, rfl, rfl, h7⟩
  have e00 := c5.h0
  have e01 := c5.h1
  have hon5 : ∀ k, -1000000 ≤ c5'.on k ∧ c5'.on k ≤ 1000000 := fun k => by
    unfold CutS.on
    split <;> omega
  have p1 : ¬ (¬ ((0 : Int) ≤ 0 ∧ (0 : Int) ≤ 1) ∨ c5'.on 0 = 0) := by
    unfold CutS.on
    rw [if_pos rfl, e00]
    decide
  refine cut_Got_s (i := b) (by rw [c5.hn]; omega) hon5 h6 fun v7 h7 => ?_
  rw [show c5'.gotE 0 = 0 from if_neg p1]
  rw [show c5'.got 0 = c5'.setOn 0 (c5'.on 0 - 1) from if_neg p1] at h7
  refine ne_f rfl (gd_ff (gd_ff (gd_ff ?_)))
  have c7 : CutW1 (c5'.setOn 0 (c5'.on 0 - 1)) j j 0 0 1 (min Inf now) := by
    obtain ⟨hn, hb, hT, hR, hl, h0, h1, ho, hv⟩ := c5
    exact ⟨hn, hb, hT, hR, hl, by show c5'.on0 - 1 = 0; rw [h0]; rfl, h1, ho, hv⟩
  generalize c5'.setOn 0 (c5'.on 0 - 1) = c7' at c7 h7
  have e70 := c7.h0
  have e71 := c7.h1
  have hon7 : ∀ k, -1000000 ≤ c7'.on k ∧ c7'.on k ≤ 1000000 := fun k => by
    unfold CutS.on
    split <;> omega
  have p2 : ¬ ((0 : Int) ≤ 0 ∧ (0 : Int) ≤ 1) ∨ c7'.on 0 = 0 := .inr (by unfold CutS.on; rw [if_pos rfl, e70])
  refine cut_Got_s (i := b) (by rw [c7.hn]; omega) hon7 h7 fun v8 h8 => ?_
  rw [show c7'.gotE 0 = 1 from if_pos p2]
  rw [show c7'.got 0 = c7' from if_pos p2] at h8
  refine gd_ff (ne_f rfl (pk_f (iff_f ?_)))
  -- everybody can report
  refine lpi1 (fun m t24 w => ∃ (i : Nat) (c : CutS) (least : Int), i ≤ j ∧ t24 = .int .i64 i ∧ m = j - i ∧ least = (if i = 0 then now else min now local') ∧ CutW1 c j j i 0 1 least ∧ Sat e w (IsCut g c :: S :: R)) j
    ⟨0, c7', now, Nat.zero_le _, rfl, rfl, rfl, by rw [show min Inf now = now from by unfold Inf; omega] at c7; exact c7, h8⟩ ?_
  rintro m _ w g3 ⟨i, c, least, hi, rfl, rfl, hle, hc, h9⟩ hg3
  refine lt_c (fun q3 => iff_t ?_) (fun q3 => iff_f ?_)
  · refine cv_s ?_
    rw [wrap_i64 (by omega) (by omega)]
    obtain ⟨r1, r2⟩ := hc.early (by omega) (i := i) (by omega) (Nat.le_refl _)
    refine cut_Report_s (by rw [hc.hn]; omega) (by omega) (by rw [hc.hn]; omega) (by unfold In64; omega) hvl h9 (fun h => absurd h r1) (fun _ h => absurd h (by rw [r2]; decide)) (fun _ _ w7 h7 => ?_)
    refine ne_f rfl (iff_f (inc_s (by omega) ?_))
    refine hg3 _ _ _ (by omega) ⟨i + 1, _, _, by omega, rfl, rfl, ?_, hc.rep (by omega) local', h7⟩
    rw [if_neg (by omega), hle]
    split <;> omega
  obtain rfl : i = j := by omega
  have hv := hc.hv
  have ho := hc.ho
  rw [if_neg (Nat.lt_irrefl _)] at hv ho
  rw [if_neg (by omega)] at hle
  refine cut_Value_s h9 ?_
  refine cv_s ?_
  rw [wrap_i64 (by omega) (by omega)]
  refine cv_s ?_
  rw [wrap_i64 (by omega) (by omega)]
  refine min_s ?_
  refine eq_t (by rw [hv, hle]; omega) (gd_tt (gd_tt (cut_Rounds_s h9 ?_)))
  refine gd_tt (eq_t ho (pk_t (gd_tt (gd_tt (gd_tt ?_)))))
  have e90 := hc.h0
  have e91 := hc.h1
  have p3 : ¬ (¬ ((0 : Int) ≤ 1 ∧ (1 : Int) ≤ 1) ∨ c.on 1 = 0) := by
    unfold CutS.on
    rw [if_neg (by decide), e91]
    decide
  refine cut_Got_s (i := a) (by rw [hc.hn]; omega) (fun k => by unfold CutS.on; split <;> omega) h9 fun v10 h10 => ?_
  rw [show c.gotE 1 = 0 from if_neg p3]
  exact gd_tt (eq_t rfl (pk_t (hk _ h10.drop)))
end Go.Proofs.Ytdiglafiimnfoaa
