/- The laws CutQuiet and CutColours. Conditions: none. -/
import Derived.Test.YtiiekfcfledkhaaCutA
namespace Go.Proofs.Ytiiekfcfledkhaa
open Go Go.E
set_option maxRecDepth 100000
variable {e w : World} {R : List HP} {K : KV}

theorem wf8c {n : Int} (h : (Lit.int .u8 n).wf = true) : 0 ≤ n ∧ n ≤ 255 := by
  simp only [Lit.wf, IntKind.min, IntKind.max, IntKind.signed, IntKind.bits] at h
  simp at h
  omega
theorem wf16c {n : Int} (h : (Lit.int .u16 n).wf = true) : 0 ≤ n ∧ n ≤ 65535 := by
  simp only [Lit.wf, IntKind.min, IntKind.max, IntKind.signed, IntKind.bits] at h
  simp at h
  omega
theorem CutS.turn_ok {c : CutS} {i : Nat} (hu : c.over < c.begun) (ht : c.T i ≠ c.begun) : c.turnE i = 0 ∧ c.turn i = { c with T := updF c.T i c.begun } := by
  have hn : ¬ (¬ c.over < c.begun ∨ c.T i = c.begun) := by simp [hu, ht]
  exact ⟨if_neg hn, if_neg hn⟩
theorem CutS.turn_no {c : CutS} {i : Nat} (ht : c.T i = c.begun) : c.turnE i = 130 ∧ c.turn i = c := ⟨if_pos (.inr ht), if_pos (.inr ht)⟩
theorem CutS.all_iff {c : CutS} {n : Nat} (hn : c.n = n) (p : Int → Int → Bool) : c.all p = true ↔ ∀ j, j < n → p (c.T j) (c.Rp j) = true := by
  unfold CutS.all
  rw [List.all_eq_true, hn]
  simp
theorem updF_eq (f : Nat → Int) (i : Nat) (x : Int) : updF f i x i = x := if_pos rfl
theorem updF_ne (f : Nat → Int) {i k : Nat} (x : Int) (h : k ≠ i) : updF f i x k = f k := if_neg h

/-- Reports of all of a round, one behind the other: i have reported. -/
structure RepAt (c : CutS) (n : Nat) (r want least : Int) (i : Nat) : Prop where
  hn : c.n = n
  hb : c.begun = r + 1
  hT : ∀ k, k < n → c.T k = r + 1
  hR : ∀ k, k < n → c.Rp k = if k < i then r + 1 else r
  hl : c.least = least
  h0 : c.on0 = 0
  h1 : c.on1 = 0
  ho : c.over = if i < n then r else r + 1
  hv : c.value = if i < n then want else max want least
theorem RepAt.ok {c : CutS} {n : Nat} {r want least : Int} {i : Nat} (h : RepAt c n r want least i) (hi : i < n) : ¬ c.early i ∧ ¬ 0 < c.on (c.over % 2) := by
  obtain ⟨hn, hb, hT, hR, hl, h0, h1, ho, hv⟩ := h
  rw [if_pos hi] at ho
  constructor
  · unfold CutS.early
    have ha : c.all (fun t _ => decide (t = c.begun)) = true := (CutS.all_iff hn _).2 fun j hj => by rw [hT j hj, hb]; simp
    rw [ha, hR i hi, if_neg (Nat.lt_irrefl i), hb, ho]
    rintro (h | h | h)
    · omega
    · cases h
    · omega
  · unfold CutS.on
    split <;> omega
theorem RepAt.next {c : CutS} {n : Nat} {r want least x : Int} {i : Nat} (h : RepAt c n r want least i) (hi : i < n) : RepAt (c.rep1 i x).rep2 n r want (min least x) (i + 1) := by
  obtain ⟨hn, hb, hT, hR, hl, h0, h1, ho, hv⟩ := h
  rw [if_pos hi] at ho hv
  have hR' : ∀ k, k < n → (c.rep1 i x).Rp k = if k < i + 1 then r + 1 else r := fun k hk => by
    show updF c.Rp i c.begun k = _
    by_cases hki : k = i
    · subst hki; rw [updF_eq, if_pos (Nat.lt_succ_self k), hb]
    · rw [updF_ne _ _ hki, hR k hk]
      by_cases hkl : k < i
      · rw [if_pos hkl, if_pos (by omega)]
      · rw [if_neg hkl, if_neg (by omega)]
  have hal : (c.rep1 i x).all (fun _ q => decide (q = c.begun)) = true ↔ ¬ i + 1 < n := by
    rw [CutS.all_iff (c := c.rep1 i x) hn]
    constructor
    · intro h hlt
      have := h (i + 1) hlt
      rw [hR' _ hlt, if_neg (Nat.lt_irrefl _), hb] at this
      simp at this
      omega
    · intro h j hj
      rw [hR' j hj, if_pos (by omega), hb]
      simp
  by_cases hlast : i + 1 < n
  · have : (c.rep1 i x).rep2 = c.rep1 i x := if_neg (fun h => (hal.1 h) hlast)
    rw [this]
    exact ⟨hn, hb, hT, hR', by show min c.least x = _; rw [hl], h0, h1, by rw [if_pos hlast]; exact ho, by rw [if_pos hlast]; exact hv⟩
  · have : (c.rep1 i x).rep2 = { c.rep1 i x with over := c.begun, value := max c.value (min c.least x) } := if_pos (hal.2 hlast)
    rw [this]
    refine ⟨hn, hb, hT, hR', by show min c.least x = _; rw [hl], h0, h1, by rw [if_neg hlast]; exact hb, ?_⟩
    rw [if_neg hlast]
    show max c.value (min c.least x) = _
    rw [hv, hl]

/-- Ahead of a round. -/
structure CutAt (c : CutS) (n : Nat) (r want : Int) : Prop where
  hn : c.n = n
  hb : c.begun = r
  ho : c.over = r
  hT : ∀ k, k < n → c.T k = r
  hR : ∀ k, k < n → c.Rp k = r
  h0 : c.on0 = 0
  h1 : c.on1 = 0
  hv : c.value = want
theorem RepAt.over' {c : CutS} {n : Nat} {r want least : Int} (h : RepAt c n r want least n) : CutAt c n (r + 1) (max want least) := by
  obtain ⟨hn, hb, hT, hR, hl, h0, h1, ho, hv⟩ := h
  rw [if_neg (Nat.lt_irrefl n)] at ho hv
  exact ⟨hn, hb, ho, hT, fun k hk => by rw [hR k hk, if_pos hk], h0, h1, hv⟩

/-- In a round, nobody has reported. -/
structure TurnAt (c : CutS) (n : Nat) (r want : Int) (t : Nat → Bool) : Prop where
  hn : c.n = n
  hb : c.begun = r + 1
  ho : c.over = r
  hT : ∀ k, k < n → c.T k = if t k = true then r + 1 else r
  hR : ∀ k, k < n → c.Rp k = r
  hl : c.least = Inf
  h0 : c.on0 = 0
  h1 : c.on1 = 0
  hv : c.value = want
theorem CutAt.begin' {c : CutS} {n : Nat} {r want : Int} (h : CutAt c n r want) : ¬ c.over < c.begun ∧ TurnAt { c with begun := c.begun + 1, least := Inf } n r want (fun _ => false) := by
  obtain ⟨hn, hb, ho, hT, hR, h0, h1, hv⟩ := h
  exact ⟨by omega, hn, by show c.begun + 1 = _; rw [hb], ho, fun k hk => by rw [if_neg (by decide)]; exact hT k hk, hR, rfl, h0, h1, hv⟩
theorem TurnAt.ok {c : CutS} {n : Nat} {r want : Int} {t : Nat → Bool} (h : TurnAt c n r want t) {i : Nat} (hi : i < n) (ht : t i = false) :
    c.turnE i = 0 ∧ TurnAt (c.turn i) n r want (fun k => if k = i then true else t k) := by
  obtain ⟨hn, hb, ho, hT, hR, hl, h0, h1, hv⟩ := h
  obtain ⟨e1, e2⟩ := CutS.turn_ok (c := c) (i := i) (by omega) (by rw [hT i hi, ht, if_neg (by decide), hb]; omega)
  rw [e2]
  refine ⟨e1, hn, hb, ho, fun k hk => ?_, hR, hl, h0, h1, hv⟩
  show updF c.T i c.begun k = _
  by_cases hki : k = i
  · subst hki; rw [updF_eq, if_pos (by simp), hb]
  · rw [updF_ne _ _ hki, hT k hk]; simp [hki]
theorem TurnAt.no {c : CutS} {n : Nat} {r want : Int} {t : Nat → Bool} (h : TurnAt c n r want t) {i : Nat} (hi : i < n) (ht : t i = true) : c.turnE i = 130 ∧ c.turn i = c :=
  CutS.turn_no (by rw [h.hT i hi, ht, if_pos rfl, h.hb])
theorem TurnAt.early {c : CutS} {n : Nat} {r want : Int} {t : Nat → Bool} (h : TurnAt c n r want t) {i : Nat} (hi : i < n) (ht : t i = false) (k : Nat) : c.early k := by
  refine .inr (.inl ?_)
  cases ha : c.all (fun t _ => decide (t = c.begun)) with
  | false => rfl
  | true =>
    have := (CutS.all_iff h.hn _).1 ha i hi
    rw [h.hT i hi, ht, if_neg (by decide), h.hb] at this
    simp at this
    omega
theorem TurnAt.rep {c : CutS} {n : Nat} {r want : Int} {t : Nat → Bool} (h : TurnAt c n r want t) (hn : 0 < n) (ht : ∀ k, k < n → t k = true) : RepAt c n r want Inf 0 :=
  ⟨h.hn, h.hb, fun k hk => by rw [h.hT k hk, ht k hk, if_pos rfl], fun k hk => by rw [if_neg (Nat.not_lt_zero k)]; exact h.hR k hk, h.hl, h.h0, h.h1, by rw [if_pos hn]; exact h.ho, by rw [if_pos hn]; exact h.hv⟩

theorem cutQuiet_s {v : Value} {l : List Int} {S : HP} (hS : Sat e w (S :: R)) (hr : ∀ g, S g → rdS 1 (intsK .u16) v l g) (hw : ∀ m ∈ l, (Lit.int .u16 m).wf = true) {rounds : Int} (hrw : (Lit.int .u8 rounds).wf = true)
    (hk : ∀ w', Sat e w' (S :: R) → K (.bool true) w') : Cl prog 10 #[v, .int .u8 rounds] w K := by
  have hrd := wf8c hrw
  refine pacelinelaw16_CutQuiet_calls ?_
  unfold pacelinelaw16_CutQuiet
  refine lnS_rd hS 0 rfl hr ?_
  refine min_s ?_
  obtain ⟨n, hn⟩ : ∃ n : Nat, min (l.length : Int) 8 = n := ⟨min l.length 8, by omega⟩
  rw [hn]
  refine lt_c (fun c1 => iff_t ?_) (fun c1 => iff_f ?_)
  · refine cut_New_bad (.inl (by omega)) ?_
    repeat (first | refine gd_tt ?_ | refine gd_ff ?_ | refine gd_tf ?_ | refine gd_ft ?_ | refine gd_u ?_ | refine pk_t ?_ | refine pk_f ?_ | refine iff_t ?_ | refine iff_f ?_ | refine not_t ?_ | refine not_f ?_ | refine beq_s ?_ | refine bne_s ?_ | refine ncP_p ?_ | refine nc_p ?_ | refine fld_at ?_ | refine xt_02 ?_ | refine xt_12 ?_ | refine xt_03 ?_ | refine xt_13 ?_ | refine xt_23 ?_ | refine eq_t (by omega) ?_ | refine eq_f (by omega) ?_ | refine ne_t (by omega) ?_ | refine ne_f (by omega) ?_ | refine lt_t (by omega) ?_ | refine lt_f (by omega) ?_ | refine gt_t (by omega) ?_ | refine gt_f (by omega) ?_ | refine ge_t (by omega) ?_ | refine ge_f (by omega) ?_ | refine le_t (by omega) ?_ | refine le_f (by omega) ?_)
    exact hk _ hS
  have hln : n ≤ l.length := by omega
  have hn8 : n ≤ 8 := by omega
  refine cut_New_s (by omega) (by omega) hS fun g w1 h1 => ?_
  repeat (first | refine gd_tt ?_ | refine gd_ff ?_ | refine gd_tf ?_ | refine gd_ft ?_ | refine gd_u ?_ | refine pk_t ?_ | refine pk_f ?_ | refine iff_t ?_ | refine iff_f ?_ | refine not_t ?_ | refine not_f ?_ | refine beq_s ?_ | refine bne_s ?_ | refine ncP_p ?_ | refine nc_p ?_ | refine fld_at ?_ | refine xt_02 ?_ | refine xt_12 ?_ | refine xt_03 ?_ | refine xt_13 ?_ | refine xt_23 ?_ | refine eq_t (by omega) ?_ | refine eq_f (by omega) ?_ | refine ne_t (by omega) ?_ | refine ne_f (by omega) ?_ | refine lt_t (by omega) ?_ | refine lt_f (by omega) ?_ | refine gt_t (by omega) ?_ | refine gt_f (by omega) ?_ | refine ge_t (by omega) ?_ | refine ge_f (by omega) ?_ | refine le_t (by omega) ?_ | refine le_f (by omega) ?_)
  refine bnp_s _ ?_
  repeat (first | refine gd_tt ?_ | refine gd_ff ?_ | refine gd_tf ?_ | refine gd_ft ?_ | refine gd_u ?_ | refine pk_t ?_ | refine pk_f ?_ | refine iff_t ?_ | refine iff_f ?_ | refine not_t ?_ | refine not_f ?_ | refine beq_s ?_ | refine bne_s ?_ | refine ncP_p ?_ | refine nc_p ?_ | refine fld_at ?_ | refine xt_02 ?_ | refine xt_12 ?_ | refine xt_03 ?_ | refine xt_13 ?_ | refine xt_23 ?_ | refine eq_t (by omega) ?_ | refine eq_f (by omega) ?_ | refine ne_t (by omega) ?_ | refine ne_f (by omega) ?_ | refine lt_t (by omega) ?_ | refine lt_f (by omega) ?_ | refine gt_t (by omega) ?_ | refine gt_f (by omega) ?_ | refine ge_t (by omega) ?_ | refine ge_f (by omega) ?_ | refine le_t (by omega) ?_ | refine le_f (by omega) ?_)
  refine lpi2 (fun m t10 t11 w => ∃ (r : Nat) (want : Int) (c : CutS), t11 = .int .i64 r ∧ t10 = .int .i64 want ∧ r ≤ 1 + rounds % 5 ∧ m = 20 - r ∧ CutAt c n r want ∧ Sat e w (IsCut g c :: S :: R)) 20
    ⟨0, 0, CutS.zero n, rfl, rfl, by omega, rfl, ⟨rfl, rfl, rfl, fun _ _ => rfl, fun _ _ => rfl, rfl, rfl, rfl⟩, h1⟩ ?_
  rintro m _ _ w g1 ⟨r, want, c, rfl, rfl, hrr, rfl, hc, h2⟩ hg
  refine cv_s ?_
  rw [wrap_i64 (by omega) (by omega)]
  refine rem_s (by decide) ?_
  rw [Int.tmod_eq_emod_of_nonneg (by omega)]
  refine add_s (by omega) (by omega) ?_
  refine lt_c (fun c2 => iff_t ?_) (fun c2 => iff_f (hk _ h2.drop))
  have hbd : 0 ≤ c.begun ∧ c.begun ≤ 1000000 := by rw [hc.hb]; omega
  obtain ⟨b1, b2⟩ := hc.begin'
  refine cut_Begin_s hbd h2 fun w3 h3 => ?_
  rw [if_neg b1] at h3 ⊢
  repeat (first | refine gd_tt ?_ | refine gd_ff ?_ | refine gd_tf ?_ | refine gd_ft ?_ | refine gd_u ?_ | refine pk_t ?_ | refine pk_f ?_ | refine iff_t ?_ | refine iff_f ?_ | refine not_t ?_ | refine not_f ?_ | refine beq_s ?_ | refine bne_s ?_ | refine ncP_p ?_ | refine nc_p ?_ | refine fld_at ?_ | refine xt_02 ?_ | refine xt_12 ?_ | refine xt_03 ?_ | refine xt_13 ?_ | refine xt_23 ?_ | refine eq_t (by omega) ?_ | refine eq_f (by omega) ?_ | refine ne_t (by omega) ?_ | refine ne_f (by omega) ?_ | refine lt_t (by omega) ?_ | refine lt_f (by omega) ?_ | refine gt_t (by omega) ?_ | refine gt_f (by omega) ?_ | refine ge_t (by omega) ?_ | refine ge_f (by omega) ?_ | refine le_t (by omega) ?_ | refine le_f (by omega) ?_)
  have hbd2 : 0 ≤ c.begun + 1 ∧ c.begun + 1 ≤ 1000000 := by rw [hc.hb]; omega
  refine cut_Begin_s (c := { c with begun := c.begun + 1, least := Inf }) hbd2 h3 fun w4 h4 => ?_
  have b3 : c.over < c.begun + 1 := by rw [hc.ho, hc.hb]; omega
  rw [if_pos b3] at h4 ⊢
  repeat (first | refine gd_tt ?_ | refine gd_ff ?_ | refine gd_tf ?_ | refine gd_ft ?_ | refine gd_u ?_ | refine pk_t ?_ | refine pk_f ?_ | refine iff_t ?_ | refine iff_f ?_ | refine not_t ?_ | refine not_f ?_ | refine beq_s ?_ | refine bne_s ?_ | refine ncP_p ?_ | refine nc_p ?_ | refine fld_at ?_ | refine xt_02 ?_ | refine xt_12 ?_ | refine xt_03 ?_ | refine xt_13 ?_ | refine xt_23 ?_ | refine eq_t (by omega) ?_ | refine eq_f (by omega) ?_ | refine ne_t (by omega) ?_ | refine ne_f (by omega) ?_ | refine lt_t (by omega) ?_ | refine lt_f (by omega) ?_ | refine gt_t (by omega) ?_ | refine gt_f (by omega) ?_ | refine ge_t (by omega) ?_ | refine ge_f (by omega) ?_ | refine le_t (by omega) ?_ | refine le_f (by omega) ?_)
  clear h3 h2
  generalize ({ c with begun := c.begun + 1, least := Inf } : CutS) = c' at b2 h4
  -- all turn
  refine lpi1 (fun m t13 w => ∃ (i : Nat) (c : CutS), i ≤ n ∧ t13 = .int .i64 i ∧ m = n - i ∧ TurnAt c n r want (fun k => decide (k < i)) ∧ Sat e w (IsCut g c :: S :: R)) n
    ⟨0, c', Nat.zero_le _, rfl, rfl, by simpa using b2, h4⟩ ?_
  rintro m _ w g2 ⟨i, c, hi, rfl, rfl, hT, h5⟩ hg2
  refine lt_c (fun c3 => iff_t ?_) (fun c3 => iff_f ?_)
  · have hin : (i : Int) < c.n := by rw [hT.hn]; omega
    have hear := hT.early (i := i) (by omega) (by simp) i
    refine cut_Report_s (by rw [hT.hn]; omega) (by omega) hin (by unfold In64; omega) (by decide) h5 (fun _ w6 h6 => ?_) (fun h => absurd hear h) (fun h => absurd hear h)
    obtain ⟨t1, t2⟩ := hT.ok (i := i) (by omega) (by simp)
    repeat (first | refine gd_tt ?_ | refine gd_ff ?_ | refine gd_tf ?_ | refine gd_ft ?_ | refine gd_u ?_ | refine pk_t ?_ | refine pk_f ?_ | refine iff_t ?_ | refine iff_f ?_ | refine not_t ?_ | refine not_f ?_ | refine beq_s ?_ | refine bne_s ?_ | refine ncP_p ?_ | refine nc_p ?_ | refine fld_at ?_ | refine xt_02 ?_ | refine xt_12 ?_ | refine xt_03 ?_ | refine xt_13 ?_ | refine xt_23 ?_ | refine eq_t (by omega) ?_ | refine eq_f (by omega) ?_ | refine ne_t (by omega) ?_ | refine ne_f (by omega) ?_ | refine lt_t (by omega) ?_ | refine lt_f (by omega) ?_ | refine gt_t (by omega) ?_ | refine gt_f (by omega) ?_ | refine ge_t (by omega) ?_ | refine ge_f (by omega) ?_ | refine le_t (by omega) ?_ | refine le_f (by omega) ?_)
    refine cut_Turn_s (by omega) hin h6 fun w7 h7 => ?_
    rw [t1]
    repeat (first | refine gd_tt ?_ | refine gd_ff ?_ | refine gd_tf ?_ | refine gd_ft ?_ | refine gd_u ?_ | refine pk_t ?_ | refine pk_f ?_ | refine iff_t ?_ | refine iff_f ?_ | refine not_t ?_ | refine not_f ?_ | refine beq_s ?_ | refine bne_s ?_ | refine ncP_p ?_ | refine nc_p ?_ | refine fld_at ?_ | refine xt_02 ?_ | refine xt_12 ?_ | refine xt_03 ?_ | refine xt_13 ?_ | refine xt_23 ?_ | refine eq_t (by omega) ?_ | refine eq_f (by omega) ?_ | refine ne_t (by omega) ?_ | refine ne_f (by omega) ?_ | refine lt_t (by omega) ?_ | refine lt_f (by omega) ?_ | refine gt_t (by omega) ?_ | refine gt_f (by omega) ?_ | refine ge_t (by omega) ?_ | refine ge_f (by omega) ?_ | refine le_t (by omega) ?_ | refine le_f (by omega) ?_)
    have hin2 : (i : Int) < (c.turn i).n := by rw [t2.hn]; omega
    obtain ⟨t3, t4⟩ := t2.no (i := i) (by omega) (by simp)
    refine cut_Turn_s (by omega) hin2 h7 fun w8 h8 => ?_
    rw [t4] at h8
    rw [t3]
    repeat (first | refine gd_tt ?_ | refine gd_ff ?_ | refine gd_tf ?_ | refine gd_ft ?_ | refine gd_u ?_ | refine pk_t ?_ | refine pk_f ?_ | refine iff_t ?_ | refine iff_f ?_ | refine not_t ?_ | refine not_f ?_ | refine beq_s ?_ | refine bne_s ?_ | refine ncP_p ?_ | refine nc_p ?_ | refine fld_at ?_ | refine xt_02 ?_ | refine xt_12 ?_ | refine xt_03 ?_ | refine xt_13 ?_ | refine xt_23 ?_ | refine eq_t (by omega) ?_ | refine eq_f (by omega) ?_ | refine ne_t (by omega) ?_ | refine ne_f (by omega) ?_ | refine lt_t (by omega) ?_ | refine lt_f (by omega) ?_ | refine gt_t (by omega) ?_ | refine gt_f (by omega) ?_ | refine ge_t (by omega) ?_ | refine ge_f (by omega) ?_ | refine le_t (by omega) ?_ | refine le_f (by omega) ?_)
    refine inc_s (by omega) ?_
    refine hg2 _ _ _ (by omega) ⟨i + 1, c.turn i, by omega, rfl, rfl, ?_, h8⟩
    have : (fun k => decide (k < i + 1)) = fun k => if k = i then true else decide (k < i) := by
      funext k
      by_cases hki : k = i
      · subst hki; simp
      · simp [hki]; omega
    rw [this]
    exact t2
  obtain rfl : i = n := by omega
  -- all report
  refine lpi2 (fun m t12 t14 w => ∃ (k : Nat) (least : Int) (c : CutS), k ≤ i ∧ t14 = .int .i64 k ∧ t12 = .int .i64 least ∧ m = i - k ∧ RepAt c i r want least k ∧ Sat e w (IsCut g c :: S :: R)) i
    ⟨0, Inf, c, Nat.zero_le _, rfl, rfl, rfl, hT.rep (by omega) (fun k hk => by simp [hk]), h5⟩ ?_
  rintro m _ _ w g3 ⟨k, least, d, hk2, rfl, rfl, rfl, hR, h6⟩ hg3
  refine lt_c (fun c4 => iff_t ?_) (fun c4 => iff_f ?_)
  · obtain ⟨x, hx⟩ := get_of_lt (l := l) (j := k) (by omega)
    have hxw := wf16c (hw x (List.mem_of_getElem? hx))
    refine ixS_rd h6 1 rfl hr (fun _ => rfl) hx fun a ha => ?_
    refine ld1_of h6 1 rfl ha rfl ?_
    refine cv_s ?_
    rw [wrap_i64 (by omega) (by omega)]
    refine add_s (by omega) (by omega) ?_
    have hmul : 0 ≤ x * ((r : Int) + 1) ∧ x * ((r : Int) + 1) ≤ 65535 * 20 := ⟨Int.mul_nonneg (by omega) (by omega), Int.mul_le_mul (by omega) (by omega) (by omega) (by omega)⟩
    refine mul_s (by omega) (by omega) ?_
    refine min_s ?_
    refine cut_Under_s h6 fun w7 h7 => ?_
    have hu : d.over < d.begun := by rw [hR.ho, hR.hb, if_pos (by omega)]; omega
    rw [decide_eq_true hu]
    repeat (first | refine gd_tt ?_ | refine gd_ff ?_ | refine gd_tf ?_ | refine gd_ft ?_ | refine gd_u ?_ | refine pk_t ?_ | refine pk_f ?_ | refine iff_t ?_ | refine iff_f ?_ | refine not_t ?_ | refine not_f ?_ | refine beq_s ?_ | refine bne_s ?_ | refine ncP_p ?_ | refine nc_p ?_ | refine fld_at ?_ | refine xt_02 ?_ | refine xt_12 ?_ | refine xt_03 ?_ | refine xt_13 ?_ | refine xt_23 ?_ | refine eq_t (by omega) ?_ | refine eq_f (by omega) ?_ | refine ne_t (by omega) ?_ | refine ne_f (by omega) ?_ | refine lt_t (by omega) ?_ | refine lt_f (by omega) ?_ | refine gt_t (by omega) ?_ | refine gt_f (by omega) ?_ | refine ge_t (by omega) ?_ | refine ge_f (by omega) ?_ | refine le_t (by omega) ?_ | refine le_f (by omega) ?_)
    have hv : validT (x * ((r : Int) + 1)) = true := by
      simp only [validT, decide_eq_true_eq]
      unfold MaxT
      omega
    obtain ⟨k1, k2⟩ := hR.ok (by omega)
    refine cut_Report_s (by rw [hR.hn]; omega) (by omega) (by rw [hR.hn]; omega) (by unfold In64; omega) hv h7 (fun h => absurd h k1) (fun _ h => absurd h k2) (fun _ _ w8 h8 => ?_)
    repeat (first | refine gd_tt ?_ | refine gd_ff ?_ | refine gd_tf ?_ | refine gd_ft ?_ | refine gd_u ?_ | refine pk_t ?_ | refine pk_f ?_ | refine iff_t ?_ | refine iff_f ?_ | refine not_t ?_ | refine not_f ?_ | refine beq_s ?_ | refine bne_s ?_ | refine ncP_p ?_ | refine nc_p ?_ | refine fld_at ?_ | refine xt_02 ?_ | refine xt_12 ?_ | refine xt_03 ?_ | refine xt_13 ?_ | refine xt_23 ?_ | refine eq_t (by omega) ?_ | refine eq_f (by omega) ?_ | refine ne_t (by omega) ?_ | refine ne_f (by omega) ?_ | refine lt_t (by omega) ?_ | refine lt_f (by omega) ?_ | refine gt_t (by omega) ?_ | refine gt_f (by omega) ?_ | refine ge_t (by omega) ?_ | refine ge_f (by omega) ?_ | refine le_t (by omega) ?_ | refine le_f (by omega) ?_)
    refine inc_s (by omega) ?_
    exact hg3 _ _ _ _ (by omega) ⟨k + 1, _, _, by omega, rfl, rfl, rfl, hR.next (by omega), h8⟩
  obtain rfl : k = i := by omega
  have hC := hR.over'
  refine max_s ?_
  refine cut_Under_s h6 fun w7 h7 => ?_
  rw [decide_eq_false (show ¬ d.over < d.begun from by rw [hC.ho, hC.hb]; omega)]
  repeat (first | refine gd_tt ?_ | refine gd_ff ?_ | refine gd_tf ?_ | refine gd_ft ?_ | refine gd_u ?_ | refine pk_t ?_ | refine pk_f ?_ | refine iff_t ?_ | refine iff_f ?_ | refine not_t ?_ | refine not_f ?_ | refine beq_s ?_ | refine bne_s ?_ | refine ncP_p ?_ | refine nc_p ?_ | refine fld_at ?_ | refine xt_02 ?_ | refine xt_12 ?_ | refine xt_03 ?_ | refine xt_13 ?_ | refine xt_23 ?_ | refine eq_t (by omega) ?_ | refine eq_f (by omega) ?_ | refine ne_t (by omega) ?_ | refine ne_f (by omega) ?_ | refine lt_t (by omega) ?_ | refine lt_f (by omega) ?_ | refine gt_t (by omega) ?_ | refine gt_f (by omega) ?_ | refine ge_t (by omega) ?_ | refine ge_f (by omega) ?_ | refine le_t (by omega) ?_ | refine le_f (by omega) ?_)
  refine cut_Value_s h7 ?_
  rw [hC.hv]
  repeat (first | refine gd_tt ?_ | refine gd_ff ?_ | refine gd_tf ?_ | refine gd_ft ?_ | refine gd_u ?_ | refine pk_t ?_ | refine pk_f ?_ | refine iff_t ?_ | refine iff_f ?_ | refine not_t ?_ | refine not_f ?_ | refine beq_s ?_ | refine bne_s ?_ | refine ncP_p ?_ | refine nc_p ?_ | refine fld_at ?_ | refine xt_02 ?_ | refine xt_12 ?_ | refine xt_03 ?_ | refine xt_13 ?_ | refine xt_23 ?_ | refine eq_t (by omega) ?_ | refine eq_f (by omega) ?_ | refine ne_t (by omega) ?_ | refine ne_f (by omega) ?_ | refine lt_t (by omega) ?_ | refine lt_f (by omega) ?_ | refine gt_t (by omega) ?_ | refine gt_f (by omega) ?_ | refine ge_t (by omega) ?_ | refine ge_f (by omega) ?_ | refine le_t (by omega) ?_ | refine le_f (by omega) ?_)
  refine cut_Rounds_s h7 ?_
  rw [hC.ho]
  refine gd_ff (gd_ff (add_s (by omega) (by omega) ?_))
  repeat (first | refine gd_tt ?_ | refine gd_ff ?_ | refine gd_tf ?_ | refine gd_ft ?_ | refine gd_u ?_ | refine pk_t ?_ | refine pk_f ?_ | refine iff_t ?_ | refine iff_f ?_ | refine not_t ?_ | refine not_f ?_ | refine beq_s ?_ | refine bne_s ?_ | refine ncP_p ?_ | refine nc_p ?_ | refine fld_at ?_ | refine xt_02 ?_ | refine xt_12 ?_ | refine xt_03 ?_ | refine xt_13 ?_ | refine xt_23 ?_ | refine eq_t (by omega) ?_ | refine eq_f (by omega) ?_ | refine ne_t (by omega) ?_ | refine ne_f (by omega) ?_ | refine lt_t (by omega) ?_ | refine lt_f (by omega) ?_ | refine gt_t (by omega) ?_ | refine gt_f (by omega) ?_ | refine ge_t (by omega) ?_ | refine ge_f (by omega) ?_ | refine le_t (by omega) ?_ | refine le_f (by omega) ?_)
  refine cut_Colour_s (i := 0) (by omega) (by rw [hC.hn]; omega) h7 ?_
  rw [hC.hT 0 (by omega)]
  refine gd_ff (gd_ff (add_s (by omega) (by omega) ?_))
  refine gd_ff (rem_s (by decide) ?_)
  rw [Int.tmod_eq_emod_of_nonneg (by omega)]
  repeat (first | refine gd_tt ?_ | refine gd_ff ?_ | refine gd_tf ?_ | refine gd_ft ?_ | refine gd_u ?_ | refine pk_t ?_ | refine pk_f ?_ | refine iff_t ?_ | refine iff_f ?_ | refine not_t ?_ | refine not_f ?_ | refine beq_s ?_ | refine bne_s ?_ | refine ncP_p ?_ | refine nc_p ?_ | refine fld_at ?_ | refine xt_02 ?_ | refine xt_12 ?_ | refine xt_03 ?_ | refine xt_13 ?_ | refine xt_23 ?_ | refine eq_t (by omega) ?_ | refine eq_f (by omega) ?_ | refine ne_t (by omega) ?_ | refine ne_f (by omega) ?_ | refine lt_t (by omega) ?_ | refine lt_f (by omega) ?_ | refine gt_t (by omega) ?_ | refine gt_f (by omega) ?_ | refine ge_t (by omega) ?_ | refine ge_f (by omega) ?_ | refine le_t (by omega) ?_ | refine le_f (by omega) ?_)
  refine inc_s (by omega) ?_
  exact hg _ _ _ _ (by omega) ⟨r + 1, _, d, rfl, rfl, by omega, rfl, by rw [Int.natCast_add]; exact hC, h7⟩

def bl (b : Bool) : List Value := [.bool b]
theorem bl_flat (b : Bool) : ∀ v ∈ bl b, flat v = true := by
  intro v hv
  simp [bl] at hv
  subst hv
  rfl
theorem getD_set {l : List Bool} {i k : Nat} (hi : i < l.length) (b : Bool) : (l.set i b).getD k false = if k = i then b else l.getD k false := by
  rw [List.getD_eq_getElem?_getD, List.getD_eq_getElem?_getD, List.getElem?_set]
  by_cases h : i = k
  · subst h; simp [hi]
  · have : ¬ k = i := fun e => h e.symm
    simp [h, this]

theorem cutColours_s {n : Int} {v : Value} {l : List Int} {S : HP} {rounds : Int} (hS : Sat e w (S :: R)) (hnw : (Lit.int .u8 n).wf = true) (hr : ∀ g, S g → rdS 1 (intsK .u8) v l g) (hw : ∀ m ∈ l, (Lit.int .u8 m).wf = true) (hrw : (Lit.int .u8 rounds).wf = true)
    (hk : ∀ w', Sat e w' (S :: R) → K (.bool true) w') : Cl prog 9 #[.int .u8 n, v, .int .u8 rounds] w K := by
  have hrd := wf8c hrw
  have hnd := wf8c hnw
  refine pacelinelaw16_CutColours_calls ?_
  unfold pacelinelaw16_CutColours
  refine lnS_rd hS 0 rfl hr ?_
  refine gt_c (fun c1 => iff_t (hk _ hS)) (fun c1 => iff_f ?_)
  refine cv_s ?_
  rw [wrap_i64 (by omega) (by omega)]
  refine rem_s (by decide) ?_
  rw [Int.tmod_eq_emod_of_nonneg (by omega)]
  refine add_s (by omega) (by omega) ?_
  obtain ⟨k, hkk⟩ : ∃ k : Nat, (1 + n % 8) = (k : Int) := ⟨(1 + n % 8).toNat, by omega⟩
  rw [hkk]
  refine cut_New_s (by omega) (by omega) hS fun g w1 h1 => ?_
  repeat (first | refine gd_tt ?_ | refine gd_ff ?_ | refine gd_tf ?_ | refine gd_ft ?_ | refine gd_u ?_ | refine pk_t ?_ | refine pk_f ?_ | refine iff_t ?_ | refine iff_f ?_ | refine not_t ?_ | refine not_f ?_ | refine beq_s ?_ | refine bne_s ?_ | refine ncP_p ?_ | refine nc_p ?_ | refine fld_at ?_ | refine xt_02 ?_ | refine xt_12 ?_ | refine xt_03 ?_ | refine xt_13 ?_ | refine xt_23 ?_ | refine eq_t (by omega) ?_ | refine eq_f (by omega) ?_ | refine ne_t (by omega) ?_ | refine ne_f (by omega) ?_ | refine lt_t (by omega) ?_ | refine lt_f (by omega) ?_ | refine gt_t (by omega) ?_ | refine gt_f (by omega) ?_ | refine ge_t (by omega) ?_ | refine ge_f (by omega) ?_ | refine le_t (by omega) ?_ | refine le_f (by omega) ?_)
  refine bnp_s _ ?_
  repeat (first | refine gd_tt ?_ | refine gd_ff ?_ | refine gd_tf ?_ | refine gd_ft ?_ | refine gd_u ?_ | refine pk_t ?_ | refine pk_f ?_ | refine iff_t ?_ | refine iff_f ?_ | refine not_t ?_ | refine not_f ?_ | refine beq_s ?_ | refine bne_s ?_ | refine ncP_p ?_ | refine nc_p ?_ | refine fld_at ?_ | refine xt_02 ?_ | refine xt_12 ?_ | refine xt_03 ?_ | refine xt_13 ?_ | refine xt_23 ?_ | refine eq_t (by omega) ?_ | refine eq_f (by omega) ?_ | refine ne_t (by omega) ?_ | refine ne_f (by omega) ?_ | refine lt_t (by omega) ?_ | refine lt_f (by omega) ?_ | refine gt_t (by omega) ?_ | refine gt_f (by omega) ?_ | refine ge_t (by omega) ?_ | refine ge_f (by omega) ?_ | refine le_t (by omega) ?_ | refine le_f (by omega) ?_)
  refine lpi1 (fun m t10 w => ∃ (r : Nat) (c : CutS), t10 = .int .i64 r ∧ r ≤ 1 + rounds % 4 ∧ m = 20 - r ∧ CutAt c k r (5 * r) ∧ Sat e w (IsCut g c :: S :: R)) 20
    ⟨0, CutS.zero k, rfl, by omega, rfl, ⟨rfl, rfl, rfl, fun _ _ => rfl, fun _ _ => rfl, rfl, rfl, rfl⟩, h1⟩ ?_
  rintro m _ w g1 ⟨r, c, rfl, hrr, rfl, hc, h2⟩ hg
  refine cv_s ?_
  rw [wrap_i64 (by omega) (by omega)]
  refine rem_s (by decide) ?_
  rw [Int.tmod_eq_emod_of_nonneg (by omega)]
  refine add_s (by omega) (by omega) ?_
  refine lt_c (fun c2 => iff_t ?_) (fun c2 => iff_f (hk _ h2.drop))
  have hbd : 0 ≤ c.begun ∧ c.begun ≤ 1000000 := by rw [hc.hb]; omega
  obtain ⟨nb, b2⟩ := hc.begin'
  refine cut_Begin_s hbd h2 fun w3 h3 => ?_
  rw [if_neg nb] at h3 ⊢
  repeat (first | refine gd_tt ?_ | refine gd_ff ?_ | refine gd_tf ?_ | refine gd_ft ?_ | refine gd_u ?_ | refine pk_t ?_ | refine pk_f ?_ | refine iff_t ?_ | refine iff_f ?_ | refine not_t ?_ | refine not_f ?_ | refine beq_s ?_ | refine bne_s ?_ | refine ncP_p ?_ | refine nc_p ?_ | refine fld_at ?_ | refine xt_02 ?_ | refine xt_12 ?_ | refine xt_03 ?_ | refine xt_13 ?_ | refine xt_23 ?_ | refine eq_t (by omega) ?_ | refine eq_f (by omega) ?_ | refine ne_t (by omega) ?_ | refine ne_f (by omega) ?_ | refine lt_t (by omega) ?_ | refine lt_f (by omega) ?_ | refine gt_t (by omega) ?_ | refine gt_f (by omega) ?_ | refine ge_t (by omega) ?_ | refine ge_f (by omega) ?_ | refine le_t (by omega) ?_ | refine le_f (by omega) ?_)
  clear h2
  generalize ({ c with begun := c.begun + 1, least := Inf } : CutS) = c' at b2 h3
  refine mkS_own te_76 (by omega) h3 bl (fun _ => rfl) false (by rw [zero_4]; rfl) fun v1 w4 h4 => ?_
  -- turns
  refine lpi1 (fun m t12 w => ∃ (j : Nat) (tl : List Bool) (c : CutS), j ≤ l.length ∧ t12 = .int .i64 j ∧ m = l.length - j ∧ tl.length = k ∧ TurnAt c k r (5 * r) (fun z => tl.getD z false) ∧ Sat e w (ownS 4 1 bl v1 tl :: IsCut g c :: S :: R)) l.length
    ⟨0, List.replicate k false, c', Nat.zero_le _, rfl, rfl, by simp, ?_, h4⟩ ?_
  · have : (fun z => (List.replicate k false).getD z false) = fun _ => false := by
      funext z
      rw [List.getD_eq_getElem?_getD, List.getElem?_replicate]
      split <;> rfl
    rw [this]
    exact b2
  rintro m _ w g2 ⟨j, tl, c, hj, rfl, rfl, htl, hT, h5⟩ hg2
  refine lnS_rd h5 2 rfl hr ?_
  refine lt_c (fun c3 => iff_t ?_) (fun c3 => iff_f ?_)
  · obtain ⟨x, hx⟩ := get_of_lt (l := l) (j := j) (by omega)
    have hxw := wf8c (hw x (List.mem_of_getElem? hx))
    refine ixS_rd h5 2 rfl hr (fun _ => rfl) hx fun a ha => ?_
    refine ld1_of h5 2 rfl ha rfl ?_
    refine cv_s ?_
    rw [wrap_i64 (by omega) (by omega)]
    refine rem_s (by omega) ?_
    rw [Int.tmod_eq_emod_of_nonneg (by omega)]
    have hme1 : 0 ≤ x % (k : Int) := Int.emod_nonneg _ (by omega)
    have hme2 : x % (k : Int) < k := Int.emod_lt_of_pos _ (by omega)
    obtain ⟨a, haa⟩ : ∃ a : Nat, x % (k : Int) = a := ⟨(x % (k : Int)).toNat, by omega⟩
    rw [haa]
    have hak : a < k := by omega
    refine cut_Turn_s (by omega) (by rw [hT.hn]; omega) (h5.pick 1 rfl) fun w6 h6 => ?_
    obtain ⟨q, hq⟩ := get_of_lt (l := tl) (j := a) (by omega)
    have hqd : tl.getD a false = q := by rw [List.getD_eq_getElem?_getD, hq]; rfl
    have hT2 : c.turnE a = (if q = true then 130 else 0) ∧ TurnAt (c.turn a) k r (5 * r) (fun z => (tl.set a true).getD z false) := by
      have hset : (fun z => (tl.set a true).getD z false) = fun z => if z = a then true else tl.getD z false := by
        funext z
        exact getD_set (by omega) true
      rw [hset]
      cases q with
      | true =>
        obtain ⟨t1, t2⟩ := hT.no (i := a) hak hqd
        rw [t1, t2]
        refine ⟨rfl, ?_⟩
        have : (fun z => if z = a then true else tl.getD z false) = fun z => tl.getD z false := by
          funext z
          by_cases hz : z = a
          · subst hz; rw [if_pos rfl, hqd]
          · rw [if_neg hz]
        rw [this]
        exact hT
      | false =>
        obtain ⟨t1, t2⟩ := hT.ok (i := a) hak hqd
        exact ⟨t1, t2⟩
    obtain ⟨t1, t2⟩ := hT2
    rw [t1]
    refine ixS_rd h6 1 rfl (fun g hg => own_rd hg) (fun _ => rfl) hq fun p hp => ?_
    refine ld1_of h6 1 rfl hp rfl ?_
    have hstep : ∀ w', Sat e w' (ownS 4 1 bl v1 (tl.set a true) :: IsCut g (c.turn a) :: S :: R) → lp [.int .i64 0] w' (b1 fun t15 w g3 =>
        bi .lss .i64 t15 (.int .i64 k) w fun t89 w =>
        iff' t89
        (bi .rem .i64 (.int .i64 r) (Value.int IntKind.i64 2) w fun t93 w =>
        ixS 1 v1 t15 w fun t96 w =>
        ld1 t96 w fun t97 w =>
        J1 (fun t16 w =>
        Cl prog 34 #[.pointer (some ⟨g, 0, none⟩), t15] w fun t102 w =>
        bi .neq .i64 t102 t16 w fun t104 w =>
        iff' t104
        (K (Value.bool false) w)
        (bi .add .i64 t15 (Value.int IntKind.i64 1) w fun t91 w =>
        g3 [t91] w)) fun k4 =>
        iff' t97
        (bi .sub .i64 (Value.int IntKind.i64 1) t93 w fun t99 w =>
        k4 t99 w)
        (k4 t93 w))
        (bi .add .i64 (.int .i64 j) (Value.int IntKind.i64 1) w fun t55 w =>
        g2 [t55] w)) := by
      intro w' h7
      refine lpi1 (fun m t15 w => ∃ z : Nat, z ≤ k ∧ t15 = .int .i64 z ∧ m = k - z ∧ Sat e w (ownS 4 1 bl v1 (tl.set a true) :: IsCut g (c.turn a) :: S :: R)) k ⟨0, Nat.zero_le _, rfl, rfl, h7⟩ ?_
      rintro m _ w g3 ⟨z, hz, rfl, rfl, h8⟩ hg3
      refine lt_c (fun c4 => iff_t ?_) (fun c4 => iff_f ?_)
      · refine rem_s (by decide) ?_
        rw [Int.tmod_eq_emod_of_nonneg (by omega)]
        obtain ⟨y, hy⟩ := get_of_lt (l := tl.set a true) (j := z) (by rw [List.length_set]; omega)
        have hyd : (tl.set a true).getD z false = y := by rw [List.getD_eq_getElem?_getD, hy]; rfl
        refine ixS_rd h8 0 rfl (fun g hg => own_rd hg) (fun _ => rfl) hy fun p hp => ?_
        refine ld1_of h8 0 rfl hp rfl ?_
        refine J1.cut (fun x w => x = .int .i64 ((c.turn a).T z % 2) ∧ Sat e w (ownS 4 1 bl v1 (tl.set a true) :: IsCut g (c.turn a) :: S :: R)) (fun k4 hcut => ?_) ?_
        · have hTz := t2.hT z (by omega)
          rw [hyd] at hTz
          cases y with
          | true =>
            rw [if_pos rfl] at hTz
            refine iff_t (sub_s (by omega) (by omega) (hcut _ _ ⟨?_, h8⟩))
            rw [hTz]
            congr 1
            omega
          | false =>
            rw [if_neg (by decide)] at hTz
            exact iff_f (hcut _ _ ⟨by rw [hTz], h8⟩)
        · rintro _ w ⟨rfl, h9⟩
          refine cut_Colour_s (by omega) (by rw [t2.hn]; omega) h9.swap ?_
          repeat (first | refine gd_tt ?_ | refine gd_ff ?_ | refine gd_tf ?_ | refine gd_ft ?_ | refine gd_u ?_ | refine pk_t ?_ | refine pk_f ?_ | refine iff_t ?_ | refine iff_f ?_ | refine not_t ?_ | refine not_f ?_ | refine beq_s ?_ | refine bne_s ?_ | refine ncP_p ?_ | refine nc_p ?_ | refine fld_at ?_ | refine xt_02 ?_ | refine xt_12 ?_ | refine xt_03 ?_ | refine xt_13 ?_ | refine xt_23 ?_ | refine eq_t (by omega) ?_ | refine eq_f (by omega) ?_ | refine ne_t (by omega) ?_ | refine ne_f (by omega) ?_ | refine lt_t (by omega) ?_ | refine lt_f (by omega) ?_ | refine gt_t (by omega) ?_ | refine gt_f (by omega) ?_ | refine ge_t (by omega) ?_ | refine ge_f (by omega) ?_ | refine le_t (by omega) ?_ | refine le_f (by omega) ?_)
          refine inc_s (by omega) ?_
          exact hg3 _ _ _ (by omega) ⟨z + 1, by omega, rfl, rfl, h9⟩
      · refine inc_s (by omega) ?_
        exact hg2 _ _ _ (by omega) ⟨j + 1, tl.set a true, c.turn a, by omega, rfl, rfl, by rw [List.length_set]; exact htl, t2, h8⟩
    have hstore : ∀ w', Sat e w' (IsCut g (c.turn a) :: ownS 4 1 bl v1 tl :: S :: R) → ixS 1 v1 (.int .i64 a) w' fun t86 w => stN 1 t86 (Value.bool true) w fun _ w => lp [.int .i64 0] w (b1 fun t15 w g3 =>
        bi .lss .i64 t15 (.int .i64 k) w fun t89 w =>
        iff' t89
        (bi .rem .i64 (.int .i64 r) (Value.int IntKind.i64 2) w fun t93 w =>
        ixS 1 v1 t15 w fun t96 w =>
        ld1 t96 w fun t97 w =>
        J1 (fun t16 w =>
        Cl prog 34 #[.pointer (some ⟨g, 0, none⟩), t15] w fun t102 w =>
        bi .neq .i64 t102 t16 w fun t104 w =>
        iff' t104
        (K (Value.bool false) w)
        (bi .add .i64 t15 (Value.int IntKind.i64 1) w fun t91 w =>
        g3 [t91] w)) fun k4 =>
        iff' t97
        (bi .sub .i64 (Value.int IntKind.i64 1) t93 w fun t99 w =>
        k4 t99 w)
        (k4 t93 w))
        (bi .add .i64 (.int .i64 j) (Value.int IntKind.i64 1) w fun t55 w =>
        g2 [t55] w)) := by
      intro w' h7
      obtain ⟨b, cp, cs, hv2, hcl, hcp, hct, h8⟩ := h7.own_open 1 rfl (by omega)
      subst hv2
      refine ixS_sl (by omega) ?_
      refine stN_at h8 1 rfl (vs := bl true) rfl rfl (by rw [hcl]; omega) (bl_flat true) rfl fun w8 h9 => ?_
      refine hstep _ ?_
      have h10 : Sat e w8 (blk b 4 (wrL cs (0 + a * 1) (bl true)) :: IsCut g (c.turn a) :: S :: R) := Sat.swap h9
      exact h10.imp fun g hg => own_set (f := bl) (x := true) (fun _ => rfl) hcl hcp hct (by omega) (by rw [Nat.zero_add]) hg
    cases q with
    | true =>
      refine eq_t rfl (bne_s ?_)
      rw [bne_self_eq_false]
      repeat (first | refine gd_tt ?_ | refine gd_ff ?_ | refine gd_tf ?_ | refine gd_ft ?_ | refine gd_u ?_ | refine pk_t ?_ | refine pk_f ?_ | refine iff_t ?_ | refine iff_f ?_ | refine not_t ?_ | refine not_f ?_ | refine beq_s ?_ | refine bne_s ?_ | refine ncP_p ?_ | refine nc_p ?_ | refine fld_at ?_ | refine xt_02 ?_ | refine xt_12 ?_ | refine xt_03 ?_ | refine xt_13 ?_ | refine xt_23 ?_ | refine eq_t (by omega) ?_ | refine eq_f (by omega) ?_ | refine ne_t (by omega) ?_ | refine ne_f (by omega) ?_ | refine lt_t (by omega) ?_ | refine lt_f (by omega) ?_ | refine gt_t (by omega) ?_ | refine gt_f (by omega) ?_ | refine ge_t (by omega) ?_ | refine ge_f (by omega) ?_ | refine le_t (by omega) ?_ | refine le_f (by omega) ?_)
      refine ixS_rd h6 1 rfl (fun g hg => own_rd hg) (fun _ => rfl) hq fun p hp => ?_
      refine gd_ff (ld1_of h6 1 rfl hp rfl ?_)
      repeat (first | refine gd_tt ?_ | refine gd_ff ?_ | refine gd_tf ?_ | refine gd_ft ?_ | refine gd_u ?_ | refine pk_t ?_ | refine pk_f ?_ | refine iff_t ?_ | refine iff_f ?_ | refine not_t ?_ | refine not_f ?_ | refine beq_s ?_ | refine bne_s ?_ | refine ncP_p ?_ | refine nc_p ?_ | refine fld_at ?_ | refine xt_02 ?_ | refine xt_12 ?_ | refine xt_03 ?_ | refine xt_13 ?_ | refine xt_23 ?_ | refine eq_t (by omega) ?_ | refine eq_f (by omega) ?_ | refine ne_t (by omega) ?_ | refine ne_f (by omega) ?_ | refine lt_t (by omega) ?_ | refine lt_f (by omega) ?_ | refine gt_t (by omega) ?_ | refine gt_f (by omega) ?_ | refine ge_t (by omega) ?_ | refine ge_f (by omega) ?_ | refine le_t (by omega) ?_ | refine le_f (by omega) ?_)
      exact hstore _ h6
    | false =>
      refine eq_f (by decide) (bne_s ?_)
      rw [bne_self_eq_false]
      repeat (first | refine gd_tt ?_ | refine gd_ff ?_ | refine gd_tf ?_ | refine gd_ft ?_ | refine gd_u ?_ | refine pk_t ?_ | refine pk_f ?_ | refine iff_t ?_ | refine iff_f ?_ | refine not_t ?_ | refine not_f ?_ | refine beq_s ?_ | refine bne_s ?_ | refine ncP_p ?_ | refine nc_p ?_ | refine fld_at ?_ | refine xt_02 ?_ | refine xt_12 ?_ | refine xt_03 ?_ | refine xt_13 ?_ | refine xt_23 ?_ | refine eq_t (by omega) ?_ | refine eq_f (by omega) ?_ | refine ne_t (by omega) ?_ | refine ne_f (by omega) ?_ | refine lt_t (by omega) ?_ | refine lt_f (by omega) ?_ | refine gt_t (by omega) ?_ | refine gt_f (by omega) ?_ | refine ge_t (by omega) ?_ | refine ge_f (by omega) ?_ | refine le_t (by omega) ?_ | refine le_f (by omega) ?_)
      refine ixS_rd h6 1 rfl (fun g hg => own_rd hg) (fun _ => rfl) hq fun p hp => ?_
      refine gd_ff (ld1_of h6 1 rfl hp rfl ?_)
      repeat (first | refine gd_tt ?_ | refine gd_ff ?_ | refine gd_tf ?_ | refine gd_ft ?_ | refine gd_u ?_ | refine pk_t ?_ | refine pk_f ?_ | refine iff_t ?_ | refine iff_f ?_ | refine not_t ?_ | refine not_f ?_ | refine beq_s ?_ | refine bne_s ?_ | refine ncP_p ?_ | refine nc_p ?_ | refine fld_at ?_ | refine xt_02 ?_ | refine xt_12 ?_ | refine xt_03 ?_ | refine xt_13 ?_ | refine xt_23 ?_ | refine eq_t (by omega) ?_ | refine eq_f (by omega) ?_ | refine ne_t (by omega) ?_ | refine ne_f (by omega) ?_ | refine lt_t (by omega) ?_ | refine lt_f (by omega) ?_ | refine gt_t (by omega) ?_ | refine gt_f (by omega) ?_ | refine ge_t (by omega) ?_ | refine ge_f (by omega) ?_ | refine le_t (by omega) ?_ | refine le_f (by omega) ?_)
      refine ne_f rfl ?_
      repeat (first | refine gd_tt ?_ | refine gd_ff ?_ | refine gd_tf ?_ | refine gd_ft ?_ | refine gd_u ?_ | refine pk_t ?_ | refine pk_f ?_ | refine iff_t ?_ | refine iff_f ?_ | refine not_t ?_ | refine not_f ?_ | refine beq_s ?_ | refine bne_s ?_ | refine ncP_p ?_ | refine nc_p ?_ | refine fld_at ?_ | refine xt_02 ?_ | refine xt_12 ?_ | refine xt_03 ?_ | refine xt_13 ?_ | refine xt_23 ?_ | refine eq_t (by omega) ?_ | refine eq_f (by omega) ?_ | refine ne_t (by omega) ?_ | refine ne_f (by omega) ?_ | refine lt_t (by omega) ?_ | refine lt_f (by omega) ?_ | refine gt_t (by omega) ?_ | refine gt_f (by omega) ?_ | refine ge_t (by omega) ?_ | refine ge_f (by omega) ?_ | refine le_t (by omega) ?_ | refine le_f (by omega) ?_)
      exact hstore _ h6
  obtain rfl : j = l.length := by omega
  -- who has not turned turns
  refine lpi1 (fun m t17 w => ∃ (z : Nat) (c : CutS), z ≤ k ∧ t17 = .int .i64 z ∧ m = k - z ∧ TurnAt c k r (5 * r) (fun y => if y < z then true else tl.getD y false) ∧ Sat e w (ownS 4 1 bl v1 tl :: IsCut g c :: S :: R)) k
    ⟨0, c, Nat.zero_le _, rfl, rfl, by simpa using hT, h5⟩ ?_
  rintro m _ w g5 ⟨z, c, hz, rfl, rfl, hT, h6⟩ hg5
  refine lt_c (fun c4 => iff_t ?_) (fun c4 => iff_f ?_)
  · obtain ⟨q, hq⟩ := get_of_lt (l := tl) (j := z) (by omega)
    have hqd : tl.getD z false = q := by rw [List.getD_eq_getElem?_getD, hq]; rfl
    refine ixS_rd h6 0 rfl (fun g hg => own_rd hg) (fun _ => rfl) hq fun p hp => ?_
    refine ld1_of h6 0 rfl hp rfl ?_
    cases q with
    | true =>
      repeat (first | refine gd_tt ?_ | refine gd_ff ?_ | refine gd_tf ?_ | refine gd_ft ?_ | refine gd_u ?_ | refine pk_t ?_ | refine pk_f ?_ | refine iff_t ?_ | refine iff_f ?_ | refine not_t ?_ | refine not_f ?_ | refine beq_s ?_ | refine bne_s ?_ | refine ncP_p ?_ | refine nc_p ?_ | refine fld_at ?_ | refine xt_02 ?_ | refine xt_12 ?_ | refine xt_03 ?_ | refine xt_13 ?_ | refine xt_23 ?_ | refine eq_t (by omega) ?_ | refine eq_f (by omega) ?_ | refine ne_t (by omega) ?_ | refine ne_f (by omega) ?_ | refine lt_t (by omega) ?_ | refine lt_f (by omega) ?_ | refine gt_t (by omega) ?_ | refine gt_f (by omega) ?_ | refine ge_t (by omega) ?_ | refine ge_f (by omega) ?_ | refine le_t (by omega) ?_ | refine le_f (by omega) ?_)
      refine inc_s (by omega) ?_
      refine hg5 _ _ _ (by omega) ⟨z + 1, c, by omega, rfl, rfl, ?_, h6⟩
      have : (fun y => if y < z + 1 then true else tl.getD y false) = fun y => if y < z then true else tl.getD y false := by
        funext y
        by_cases hyz : y = z
        · subst hyz; rw [if_pos (Nat.lt_succ_self y), if_neg (Nat.lt_irrefl y), hqd]
        · by_cases hyl : y < z
          · rw [if_pos hyl, if_pos (by omega)]
          · rw [if_neg hyl, if_neg (by omega)]
      rw [this]
      exact hT
    | false =>
      obtain ⟨t1, t2⟩ := hT.ok (i := z) (by omega) (by rw [if_neg (Nat.lt_irrefl z)]; exact hqd)
      repeat (first | refine gd_tt ?_ | refine gd_ff ?_ | refine gd_tf ?_ | refine gd_ft ?_ | refine gd_u ?_ | refine pk_t ?_ | refine pk_f ?_ | refine iff_t ?_ | refine iff_f ?_ | refine not_t ?_ | refine not_f ?_ | refine beq_s ?_ | refine bne_s ?_ | refine ncP_p ?_ | refine nc_p ?_ | refine fld_at ?_ | refine xt_02 ?_ | refine xt_12 ?_ | refine xt_03 ?_ | refine xt_13 ?_ | refine xt_23 ?_ | refine eq_t (by omega) ?_ | refine eq_f (by omega) ?_ | refine ne_t (by omega) ?_ | refine ne_f (by omega) ?_ | refine lt_t (by omega) ?_ | refine lt_f (by omega) ?_ | refine gt_t (by omega) ?_ | refine gt_f (by omega) ?_ | refine ge_t (by omega) ?_ | refine ge_f (by omega) ?_ | refine le_t (by omega) ?_ | refine le_f (by omega) ?_)
      refine cut_Turn_s (by omega) (by rw [hT.hn]; omega) h6.swap fun w7 h7 => ?_
      rw [t1]
      repeat (first | refine gd_tt ?_ | refine gd_ff ?_ | refine gd_tf ?_ | refine gd_ft ?_ | refine gd_u ?_ | refine pk_t ?_ | refine pk_f ?_ | refine iff_t ?_ | refine iff_f ?_ | refine not_t ?_ | refine not_f ?_ | refine beq_s ?_ | refine bne_s ?_ | refine ncP_p ?_ | refine nc_p ?_ | refine fld_at ?_ | refine xt_02 ?_ | refine xt_12 ?_ | refine xt_03 ?_ | refine xt_13 ?_ | refine xt_23 ?_ | refine eq_t (by omega) ?_ | refine eq_f (by omega) ?_ | refine ne_t (by omega) ?_ | refine ne_f (by omega) ?_ | refine lt_t (by omega) ?_ | refine lt_f (by omega) ?_ | refine gt_t (by omega) ?_ | refine gt_f (by omega) ?_ | refine ge_t (by omega) ?_ | refine ge_f (by omega) ?_ | refine le_t (by omega) ?_ | refine le_f (by omega) ?_)
      refine inc_s (by omega) ?_
      refine hg5 _ _ _ (by omega) ⟨z + 1, c.turn z, by omega, rfl, rfl, ?_, h7.swap⟩
      have : (fun y => if y < z + 1 then true else tl.getD y false) = fun y => if y = z then true else if y < z then true else tl.getD y false := by
        funext y
        by_cases hyz : y = z
        · subst hyz; rw [if_pos (Nat.lt_succ_self y), if_pos rfl]
        · rw [if_neg hyz]
          by_cases hyl : y < z
          · rw [if_pos hyl, if_pos (by omega)]
          · rw [if_neg hyl, if_neg (by omega)]
      rw [this]
      exact t2
  obtain rfl : z = k := by omega
  -- all report
  refine lpi1 (fun m t18 w => ∃ (y : Nat) (least : Int) (c : CutS), y ≤ z ∧ t18 = .int .i64 y ∧ m = z - y ∧ (least = if y = 0 then Inf else 5 * (r + 1)) ∧ RepAt c z r (5 * r) least y ∧ Sat e w (IsCut g c :: S :: R)) z
    ⟨0, Inf, c, Nat.zero_le _, rfl, rfl, rfl, hT.rep (by omega) (fun y hy => by rw [if_pos hy]), h6.drop⟩ ?_
  rintro m _ w g6 ⟨y, least, c, hy, rfl, rfl, hle, hR, h7⟩ hg6
  refine lt_c (fun c5 => iff_t ?_) (fun c5 => iff_f ?_)
  · refine add_s (by omega) (by omega) ?_
    refine mul_s (by omega) (by omega) ?_
    have hv : validT (5 * ((r : Int) + 1)) = true := by
      simp only [validT, decide_eq_true_eq]
      unfold MaxT
      omega
    obtain ⟨k1, k2⟩ := hR.ok (by omega)
    refine cut_Report_s (by rw [hR.hn]; omega) (by omega) (by rw [hR.hn]; omega) (by unfold In64; omega) hv h7 (fun h => absurd h k1) (fun _ h => absurd h k2) (fun _ _ w8 h8 => ?_)
    have hN := hR.next (x := 5 * ((r : Int) + 1)) (i := y) (by omega)
    repeat (first | refine gd_tt ?_ | refine gd_ff ?_ | refine gd_tf ?_ | refine gd_ft ?_ | refine gd_u ?_ | refine pk_t ?_ | refine pk_f ?_ | refine iff_t ?_ | refine iff_f ?_ | refine not_t ?_ | refine not_f ?_ | refine beq_s ?_ | refine bne_s ?_ | refine ncP_p ?_ | refine nc_p ?_ | refine fld_at ?_ | refine xt_02 ?_ | refine xt_12 ?_ | refine xt_03 ?_ | refine xt_13 ?_ | refine xt_23 ?_ | refine eq_t (by omega) ?_ | refine eq_f (by omega) ?_ | refine ne_t (by omega) ?_ | refine ne_f (by omega) ?_ | refine lt_t (by omega) ?_ | refine lt_f (by omega) ?_ | refine gt_t (by omega) ?_ | refine gt_f (by omega) ?_ | refine ge_t (by omega) ?_ | refine ge_f (by omega) ?_ | refine le_t (by omega) ?_ | refine le_f (by omega) ?_)
    refine cut_Colour_s (by omega) (by rw [hN.hn]; omega) h8 ?_
    rw [hN.hT y (by omega)]
    refine gd_ff (gd_ff (rem_s (by decide) ?_))
    rw [Int.tmod_eq_emod_of_nonneg (by omega)]
    refine gd_ff (sub_s (by omega) (by omega) ?_)
    repeat (first | refine gd_tt ?_ | refine gd_ff ?_ | refine gd_tf ?_ | refine gd_ft ?_ | refine gd_u ?_ | refine pk_t ?_ | refine pk_f ?_ | refine iff_t ?_ | refine iff_f ?_ | refine not_t ?_ | refine not_f ?_ | refine beq_s ?_ | refine bne_s ?_ | refine ncP_p ?_ | refine nc_p ?_ | refine fld_at ?_ | refine xt_02 ?_ | refine xt_12 ?_ | refine xt_03 ?_ | refine xt_13 ?_ | refine xt_23 ?_ | refine eq_t (by omega) ?_ | refine eq_f (by omega) ?_ | refine ne_t (by omega) ?_ | refine ne_f (by omega) ?_ | refine lt_t (by omega) ?_ | refine lt_f (by omega) ?_ | refine gt_t (by omega) ?_ | refine gt_f (by omega) ?_ | refine ge_t (by omega) ?_ | refine ge_f (by omega) ?_ | refine le_t (by omega) ?_ | refine le_f (by omega) ?_)
    refine inc_s (by omega) ?_
    refine hg6 _ _ _ (by omega) ⟨y + 1, _, _, by omega, rfl, rfl, ?_, hN, h8⟩
    rw [if_neg (by omega), hle]
    unfold Inf
    split <;> omega
  obtain rfl : y = z := by omega
  rw [if_neg (by omega)] at hle
  have hC := hR.over'
  rw [hle] at hC
  refine cut_Value_s h7 ?_
  rw [hC.hv]
  refine add_s (by omega) (by omega) ?_
  refine mul_s (by omega) (by omega) ?_
  repeat (first | refine gd_tt ?_ | refine gd_ff ?_ | refine gd_tf ?_ | refine gd_ft ?_ | refine gd_u ?_ | refine pk_t ?_ | refine pk_f ?_ | refine iff_t ?_ | refine iff_f ?_ | refine not_t ?_ | refine not_f ?_ | refine beq_s ?_ | refine bne_s ?_ | refine ncP_p ?_ | refine nc_p ?_ | refine fld_at ?_ | refine xt_02 ?_ | refine xt_12 ?_ | refine xt_03 ?_ | refine xt_13 ?_ | refine xt_23 ?_ | refine eq_t (by omega) ?_ | refine eq_f (by omega) ?_ | refine ne_t (by omega) ?_ | refine ne_f (by omega) ?_ | refine lt_t (by omega) ?_ | refine lt_f (by omega) ?_ | refine gt_t (by omega) ?_ | refine gt_f (by omega) ?_ | refine ge_t (by omega) ?_ | refine ge_f (by omega) ?_ | refine le_t (by omega) ?_ | refine le_f (by omega) ?_)
  refine cut_Under_s h7 fun w8 h8 => ?_
  rw [decide_eq_false (show ¬ c.over < c.begun from by rw [hC.ho, hC.hb]; omega)]
  repeat (first | refine gd_tt ?_ | refine gd_ff ?_ | refine gd_tf ?_ | refine gd_ft ?_ | refine gd_u ?_ | refine pk_t ?_ | refine pk_f ?_ | refine iff_t ?_ | refine iff_f ?_ | refine not_t ?_ | refine not_f ?_ | refine beq_s ?_ | refine bne_s ?_ | refine ncP_p ?_ | refine nc_p ?_ | refine fld_at ?_ | refine xt_02 ?_ | refine xt_12 ?_ | refine xt_03 ?_ | refine xt_13 ?_ | refine xt_23 ?_ | refine eq_t (by omega) ?_ | refine eq_f (by omega) ?_ | refine ne_t (by omega) ?_ | refine ne_f (by omega) ?_ | refine lt_t (by omega) ?_ | refine lt_f (by omega) ?_ | refine gt_t (by omega) ?_ | refine gt_f (by omega) ?_ | refine ge_t (by omega) ?_ | refine ge_f (by omega) ?_ | refine le_t (by omega) ?_ | refine le_f (by omega) ?_)
  refine inc_s (by omega) ?_
  refine hg _ _ _ (by omega) ⟨r + 1, c, rfl, by omega, rfl, ?_, h8⟩
  rw [show max (5 * (r : Int)) (5 * ((r : Int) + 1)) = 5 * ((r + 1 : Nat) : Int) from by omega] at hC
  rw [Int.natCast_add] at hC ⊢
  exact hC
end Go.Proofs.Ytiiekfcfledkhaa
