/- The document's cuts: what each of its functions does, told by what the program's cuts hold. Conditions: the participant is one, where that is asked. -/
import Derived.Test.YtdiglafiimnfoaaCutB
namespace Go.Proofs.Ytdiglafiimnfoaa
open Go Go.E
set_option maxRecDepth 100000
variable {e w : World} {R : List HP} {K : KV}

structure CutInv (n : Nat) (c : CutS) : Prop where
  h0 : 0 ≤ c.over
  h1 : c.over ≤ c.begun
  h2 : c.begun ≤ c.over + 1
  hT : ∀ i, i < n → c.over ≤ c.T i ∧ c.T i ≤ c.begun
  hR : ∀ i, i < n → 0 ≤ c.Rp i ∧ c.Rp i ≤ c.begun
structure RX where
  (vc vt vr : Value) (old : Int) (cl : List Int) (tl rl : List Bool)
def rcs (x : RX) (c : CutS) : List Value := [x.vc, x.vt, x.vr, .int .i64 c.on0, .int .i64 c.on1, .bool (decide (c.over < c.begun)), .int .i64 x.old, .int .i64 c.least, .int .i64 c.value, .int .i64 c.over]
structure RelC (n : Nat) (c : CutS) (x : RX) : Prop where
  hn : c.n = n
  inv : CutInv n c
  lc : x.cl.length = n
  lt : x.tl.length = n
  lr : x.rl.length = n
  hc : ∀ i, i < n → x.cl[i]? = some (c.T i % 2)
  ht : c.over < c.begun → ∀ i, i < n → x.tl[i]? = some (decide (c.T i = c.begun))
  hr : c.over < c.begun → ∀ i, i < n → x.rl[i]? = some (decide (c.Rp i = c.begun))
  ho : c.over < c.begun → x.old = c.over % 2
theorem CutInv.congr {n : Nat} {c c' : CutS} (h : CutInv n c) (e2 : c'.over = c.over) (e3 : c'.begun = c.begun) (e4 : c'.T = c.T) (e5 : c'.Rp = c.Rp) : CutInv n c' := by
  obtain ⟨i0, i1, i2, i3, i4⟩ := h
  exact ⟨by rw [e2]; exact i0, by rw [e2, e3]; exact i1, by rw [e2, e3]; exact i2, by rw [e2, e3, e4]; exact i3, by rw [e3, e5]; exact i4⟩
theorem RelC.congr {n : Nat} {c c' : CutS} {x : RX} (h : RelC n c x) (e1 : c'.n = c.n) (e2 : c'.over = c.over) (e3 : c'.begun = c.begun) (e4 : c'.T = c.T) (e5 : c'.Rp = c.Rp) : RelC n c' x := by
  obtain ⟨hn, inv, lc, lt, lr, hc, ht, hr, ho⟩ := h
  exact ⟨by rw [e1]; exact hn, inv.congr e2 e3 e4 e5, lc, lt, lr, by rw [e4]; exact hc, by rw [e2, e3, e4]; exact ht, by rw [e2, e3, e5]; exact hr, by rw [e2, e3]; exact ho⟩
def IsRC (g n : Nat) (c : CutS) : HP := hex fun x : RX => sepL [pur (RelC n c x), blk g 42 (rcs x c), ownS 3 1 (intsK .i64) x.vc x.cl, ownS 4 1 bl x.vt x.tl, ownS 4 1 bl x.vr x.rl]
theorem rc_of {g n : Nat} {c : CutS} (h : Sat e w (IsRC g n c :: R)) : ∃ x, RelC n c x ∧ Sat e w (blk g 42 (rcs x c) :: ownS 3 1 (intsK .i64) x.vc x.cl :: ownS 4 1 bl x.vt x.tl :: ownS 4 1 bl x.vr x.rl :: R) := by
  obtain ⟨x, h0⟩ := h.ex
  exact ⟨x, Sat.pure h0.split⟩
theorem mk_rc {g n : Nat} {c : CutS} {x : RX} (hr : RelC n c x) (h : Sat e w (blk g 42 (rcs x c) :: ownS 3 1 (intsK .i64) x.vc x.cl :: ownS 4 1 bl x.vt x.tl :: ownS 4 1 bl x.vr x.rl :: R)) : Sat e w (IsRC g n c :: R) :=
  .mk_ex x (.join (l' := [_, _, _, _, _]) (.mk_pure hr h))
theorem rcs_len (x : RX) (c : CutS) : (rcs x c).length = 10 := rfl

theorem ref16_New_bad {n : Int} (hb : n < 1 ∨ 8 < n) (hk : K (.tuple #[.pointer none, .int .i64 1]) w) : Cl prog 16 #[.int .i64 n] w K := by
  refine pacelineref16_New_calls ?_
  unfold pacelineref16_New
  refine lt_c (fun c1 => ?_) (fun c1 => ?_)
  · repeat (first | refine gd_tt ?_ | refine gd_ff ?_ | refine gd_tf ?_ | refine gd_ft ?_ | refine gd_u ?_ | refine pk_t ?_ | refine pk_f ?_ | refine iff_t ?_ | refine iff_f ?_ | refine not_t ?_ | refine not_f ?_ | refine beq_s ?_ | refine bne_s ?_ | refine ncP_p ?_ | refine nc_p ?_ | refine fld_at ?_ | refine xt_02 ?_ | refine xt_12 ?_ | refine xt_03 ?_ | refine xt_13 ?_ | refine xt_23 ?_ | refine eq_t (by omega) ?_ | refine eq_f (by omega) ?_ | refine ne_t (by omega) ?_ | refine ne_f (by omega) ?_ | refine lt_t (by omega) ?_ | refine lt_f (by omega) ?_ | refine gt_t (by omega) ?_ | refine gt_f (by omega) ?_ | refine ge_t (by omega) ?_ | refine ge_f (by omega) ?_ | refine le_t (by omega) ?_ | refine le_f (by omega) ?_)
    exact hk
  · repeat (first | refine gd_tt ?_ | refine gd_ff ?_ | refine gd_tf ?_ | refine gd_ft ?_ | refine gd_u ?_ | refine pk_t ?_ | refine pk_f ?_ | refine iff_t ?_ | refine iff_f ?_ | refine not_t ?_ | refine not_f ?_ | refine beq_s ?_ | refine bne_s ?_ | refine ncP_p ?_ | refine nc_p ?_ | refine fld_at ?_ | refine xt_02 ?_ | refine xt_12 ?_ | refine xt_03 ?_ | refine xt_13 ?_ | refine xt_23 ?_ | refine eq_t (by omega) ?_ | refine eq_f (by omega) ?_ | refine ne_t (by omega) ?_ | refine ne_f (by omega) ?_ | refine lt_t (by omega) ?_ | refine lt_f (by omega) ?_ | refine gt_t (by omega) ?_ | refine gt_f (by omega) ?_ | refine ge_t (by omega) ?_ | refine ge_f (by omega) ?_ | refine le_t (by omega) ?_ | refine le_f (by omega) ?_)
    exact hk
theorem ref16_New_s {n : Nat} (h1 : 1 ≤ n) (h2 : n ≤ 8) (hS : Sat e w R) (hk : ∀ g w', Sat e w' (IsRC g n (CutS.zero n) :: R) → K (.tuple #[.pointer (some ⟨g, 0, none⟩), .int .i64 0]) w') : Cl prog 16 #[.int .i64 n] w K := by
  refine pacelineref16_New_calls ?_
  unfold pacelineref16_New
  repeat (first | refine gd_tt ?_ | refine gd_ff ?_ | refine gd_tf ?_ | refine gd_ft ?_ | refine gd_u ?_ | refine pk_t ?_ | refine pk_f ?_ | refine iff_t ?_ | refine iff_f ?_ | refine not_t ?_ | refine not_f ?_ | refine beq_s ?_ | refine bne_s ?_ | refine ncP_p ?_ | refine nc_p ?_ | refine fld_at ?_ | refine xt_02 ?_ | refine xt_12 ?_ | refine xt_03 ?_ | refine xt_13 ?_ | refine xt_23 ?_ | refine eq_t (by omega) ?_ | refine eq_f (by omega) ?_ | refine ne_t (by omega) ?_ | refine ne_f (by omega) ?_ | refine lt_t (by omega) ?_ | refine lt_f (by omega) ?_ | refine gt_t (by omega) ?_ | refine gt_f (by omega) ?_ | refine ge_t (by omega) ?_ | refine ge_f (by omega) ?_ | refine le_t (by omega) ?_ | refine le_f (by omega) ?_)
  have tail : ∀ v1 v2 v3 w', Sat e w' (ownS 3 1 (intsK .i64) v1 (List.replicate n 0) :: ownS 4 1 bl v2 (List.replicate n false) :: ownS 4 1 bl v3 (List.replicate n false) :: R) →
      bld (zeroD prog 42) #[(0, 1), (1, 1), (2, 1), (3, 2), (5, 1), (6, 1), (7, 1), (8, 1), (9, 1)] [(0, v1), (1, v2), (2, v3)] w' fun t16 w => al (Value.cells t16) 42 w fun t17 w => K (Value.tuple #[t17, (Value.int IntKind.i64 0)]) w := by
    intro v1 v2 v3 w' h
    obtain ⟨A1, c1, e1, _⟩ := h.shape 0 rfl (fun _ hg => own_rd hg)
    obtain ⟨A2, c2, e2, _⟩ := h.shape 1 rfl (fun _ hg => own_rd hg)
    obtain ⟨A3, c3, e3, _⟩ := h.shape 2 rfl (fun _ hg => own_rd hg)
    rw [List.length_replicate] at e1 e2 e3
    subst e1 e2 e3
    rw [zero_42]
    refine bld_s (rcs ⟨.slice A1 n c1, .slice A2 n c2, .slice A3 n c3, 0, List.replicate n 0, List.replicate n false, List.replicate n false⟩ (CutS.zero n)) (by kernel_rfl) ?_
    refine al_s (cs := rcs ⟨.slice A1 n c1, .slice A2 n c2, .slice A3 n c3, 0, List.replicate n 0, List.replicate n false, List.replicate n false⟩ (CutS.zero n)) h rfl fun g w2 h2 => ?_
    refine hk _ _ (mk_rc ?_ h2)
    have hno : ¬ (CutS.zero n).over < (CutS.zero n).begun := by show ¬ (0 : Int) < 0; decide
    refine ⟨rfl, ⟨Int.le_refl _, Int.le_refl _, by show (0 : Int) ≤ 0 + 1; decide, fun _ _ => ⟨Int.le_refl _, Int.le_refl _⟩, fun _ _ => ⟨Int.le_refl _, Int.le_refl _⟩⟩, List.length_replicate, List.length_replicate, List.length_replicate, fun i hi => ?_, fun h => absurd h hno, fun h => absurd h hno, fun h => absurd h hno⟩
    show (List.replicate n (0 : Int))[i]? = some (0 % 2)
    rw [List.getElem?_replicate, if_pos hi]
    rfl
  have mkI : ∀ {w : World} {L : List HP} {K : KV}, Sat e w L → (∀ v w', Sat e w' (ownS 3 1 (intsK .i64) v (List.replicate n 0) :: L) → K v w') → mkS prog 38 (.int .i64 (n : Int)) (.int .i64 (n : Int)) w K :=
    fun h hk => mkS_own te_38 (by omega) h (intsK .i64) (fun _ => rfl) 0 (by rw [zero_3]; rfl) hk
  have mkB : ∀ {w : World} {L : List HP} {K : KV}, Sat e w L → (∀ v w', Sat e w' (ownS 4 1 bl v (List.replicate n false) :: L) → K v w') → mkS prog 39 (.int .i64 (n : Int)) (.int .i64 (n : Int)) w K :=
    fun h hk => mkS_own te_39 (by omega) h bl (fun _ => rfl) false (by rw [zero_4]; rfl) hk
  have h0 := hS.drew
  refine ⟨?_, ?_, ?_⟩
  · refine mkI h0 fun v1 w1 h1 => ⟨?_, ?_⟩
    · exact mkB h1 fun v2 w2 h2 => mkB h2 fun v3 w3 h3 => tail _ _ _ _ (h3.selR [_, _, _] [_, _, _] [2, 1, 0] (by decide) rfl)
    · exact mkB h1 fun v2 w2 h2 => mkB h2 fun v3 w3 h3 => tail _ _ _ _ (h3.selR [_, _, _] [_, _, _] [2, 0, 1] (by decide) rfl)
  · refine mkB h0 fun v1 w1 h1 => ⟨?_, ?_⟩
    · exact mkI h1 fun v2 w2 h2 => mkB h2 fun v3 w3 h3 => tail _ _ _ _ (h3.selR [_, _, _] [_, _, _] [1, 2, 0] (by decide) rfl)
    · exact mkB h1 fun v2 w2 h2 => mkI h2 fun v3 w3 h3 => tail _ _ _ _ (h3.selR [_, _, _] [_, _, _] [0, 2, 1] (by decide) rfl)
  · refine mkB h0 fun v1 w1 h1 => ⟨?_, ?_⟩
    · exact mkI h1 fun v2 w2 h2 => mkB h2 fun v3 w3 h3 => tail _ _ _ _ (h3.selR [_, _, _] [_, _, _] [1, 0, 2] (by decide) rfl)
    · exact mkB h1 fun v2 w2 h2 => mkI h2 fun v3 w3 h3 => tail _ _ _ _ (h3.selR [_, _, _] [_, _, _] [0, 1, 2] (by decide) rfl)

theorem ref16_is_s {g n : Nat} {c : CutS} {i : Int} (hS : Sat e w (IsRC g n c :: R)) (hk : K (.bool (decide (0 ≤ i ∧ i < n))) w) : Cl prog 78 #[.pointer (some ⟨g, 0, none⟩), .int .i64 i] w K := by
  obtain ⟨x, hx, h1⟩ := rc_of hS
  refine pacelineref16_Cut_is_calls ?_
  unfold pacelineref16_Cut_is
  refine ge_c (fun c1 => ?_) (fun c1 => ?_)
  · repeat (first | refine gd_tt ?_ | refine gd_ff ?_ | refine gd_tf ?_ | refine gd_ft ?_ | refine gd_u ?_ | refine pk_t ?_ | refine pk_f ?_ | refine iff_t ?_ | refine iff_f ?_ | refine not_t ?_ | refine not_f ?_ | refine beq_s ?_ | refine bne_s ?_ | refine ncP_p ?_ | refine nc_p ?_ | refine fld_at ?_ | refine xt_02 ?_ | refine xt_12 ?_ | refine xt_03 ?_ | refine xt_13 ?_ | refine xt_23 ?_ | refine eq_t (by omega) ?_ | refine eq_f (by omega) ?_ | refine ne_t (by omega) ?_ | refine ne_f (by omega) ?_ | refine lt_t (by omega) ?_ | refine lt_f (by omega) ?_ | refine gt_t (by omega) ?_ | refine gt_f (by omega) ?_ | refine ge_t (by omega) ?_ | refine ge_f (by omega) ?_ | refine le_t (by omega) ?_ | refine le_f (by omega) ?_)
    refine ld1_at h1 0 rfl (v := x.vc) rfl ?_
    refine gd_tt (lnS_rd h1 1 rfl (fun g hg => own_rd hg) ?_)
    rw [hx.lc]
    refine gd_tt (lt_d ?_)
    repeat (first | refine gd_tt ?_ | refine gd_ff ?_ | refine gd_tf ?_ | refine gd_ft ?_ | refine gd_u ?_ | refine pk_t ?_ | refine pk_f ?_ | refine iff_t ?_ | refine iff_f ?_ | refine not_t ?_ | refine not_f ?_ | refine beq_s ?_ | refine bne_s ?_ | refine ncP_p ?_ | refine nc_p ?_ | refine fld_at ?_ | refine xt_02 ?_ | refine xt_12 ?_ | refine xt_03 ?_ | refine xt_13 ?_ | refine xt_23 ?_ | refine eq_t (by omega) ?_ | refine eq_f (by omega) ?_ | refine ne_t (by omega) ?_ | refine ne_f (by omega) ?_ | refine lt_t (by omega) ?_ | refine lt_f (by omega) ?_ | refine gt_t (by omega) ?_ | refine gt_f (by omega) ?_ | refine ge_t (by omega) ?_ | refine ge_f (by omega) ?_ | refine le_t (by omega) ?_ | refine le_f (by omega) ?_)
    rw [show decide (0 ≤ i ∧ i < (n : Int)) = decide (i < n) from by simp [c1]] at hk
    exact hk
  · repeat (first | refine gd_tt ?_ | refine gd_ff ?_ | refine gd_tf ?_ | refine gd_ft ?_ | refine gd_u ?_ | refine pk_t ?_ | refine pk_f ?_ | refine iff_t ?_ | refine iff_f ?_ | refine not_t ?_ | refine not_f ?_ | refine beq_s ?_ | refine bne_s ?_ | refine ncP_p ?_ | refine nc_p ?_ | refine fld_at ?_ | refine xt_02 ?_ | refine xt_12 ?_ | refine xt_03 ?_ | refine xt_13 ?_ | refine xt_23 ?_ | refine eq_t (by omega) ?_ | refine eq_f (by omega) ?_ | refine ne_t (by omega) ?_ | refine ne_f (by omega) ?_ | refine lt_t (by omega) ?_ | refine lt_f (by omega) ?_ | refine gt_t (by omega) ?_ | refine gt_f (by omega) ?_ | refine ge_t (by omega) ?_ | refine ge_f (by omega) ?_ | refine le_t (by omega) ?_ | refine le_f (by omega) ?_)
    rw [show decide (0 ≤ i ∧ i < (n : Int)) = false from by simp; omega] at hk
    exact hk
theorem ref16_Colour_s {g n i : Nat} {c : CutS} (hi : i < n) (hS : Sat e w (IsRC g n c :: R)) (hk : K (.int .i64 (c.T i % 2)) w) : Cl prog 31 #[.pointer (some ⟨g, 0, none⟩), .int .i64 i] w K := by
  refine pacelineref16_Cut_Colour_calls ?_
  unfold pacelineref16_Cut_Colour
  refine ref16_is_s hS ?_
  obtain ⟨x, hx, h1⟩ := rc_of hS
  rw [decide_eq_true (show 0 ≤ (i : Int) ∧ (i : Int) < n from ⟨by omega, by omega⟩)]
  repeat (first | refine gd_tt ?_ | refine gd_ff ?_ | refine gd_tf ?_ | refine gd_ft ?_ | refine gd_u ?_ | refine pk_t ?_ | refine pk_f ?_ | refine iff_t ?_ | refine iff_f ?_ | refine not_t ?_ | refine not_f ?_ | refine beq_s ?_ | refine bne_s ?_ | refine ncP_p ?_ | refine nc_p ?_ | refine fld_at ?_ | refine xt_02 ?_ | refine xt_12 ?_ | refine xt_03 ?_ | refine xt_13 ?_ | refine xt_23 ?_ | refine eq_t (by omega) ?_ | refine eq_f (by omega) ?_ | refine ne_t (by omega) ?_ | refine ne_f (by omega) ?_ | refine lt_t (by omega) ?_ | refine lt_f (by omega) ?_ | refine gt_t (by omega) ?_ | refine gt_f (by omega) ?_ | refine ge_t (by omega) ?_ | refine ge_f (by omega) ?_ | refine le_t (by omega) ?_ | refine le_f (by omega) ?_)
  refine ld1_at h1 0 rfl (v := x.vc) rfl ?_
  refine ixS_rd h1 1 rfl (fun g hg => own_rd hg) (fun _ => rfl) (hx.hc i hi) fun a ha => ?_
  exact ld1_of h1 1 rfl ha rfl hk
theorem ref16_Colour_bad {g n : Nat} {c : CutS} {i : Int} (hi : ¬ (0 ≤ i ∧ i < n)) (hS : Sat e w (IsRC g n c :: R)) (hk : K (.int .i64 (-1)) w) : Cl prog 31 #[.pointer (some ⟨g, 0, none⟩), .int .i64 i] w K := by
  refine pacelineref16_Cut_Colour_calls ?_
  unfold pacelineref16_Cut_Colour
  refine ref16_is_s hS ?_
  rw [decide_eq_false hi]
  repeat (first | refine gd_tt ?_ | refine gd_ff ?_ | refine gd_tf ?_ | refine gd_ft ?_ | refine gd_u ?_ | refine pk_t ?_ | refine pk_f ?_ | refine iff_t ?_ | refine iff_f ?_ | refine not_t ?_ | refine not_f ?_ | refine beq_s ?_ | refine bne_s ?_ | refine ncP_p ?_ | refine nc_p ?_ | refine fld_at ?_ | refine xt_02 ?_ | refine xt_12 ?_ | refine xt_03 ?_ | refine xt_13 ?_ | refine xt_23 ?_ | refine eq_t (by omega) ?_ | refine eq_f (by omega) ?_ | refine ne_t (by omega) ?_ | refine ne_f (by omega) ?_ | refine lt_t (by omega) ?_ | refine lt_f (by omega) ?_ | refine gt_t (by omega) ?_ | refine gt_f (by omega) ?_ | refine ge_t (by omega) ?_ | refine ge_f (by omega) ?_ | refine le_t (by omega) ?_ | refine le_f (by omega) ?_)
  exact hk

theorem ref16_Begin_s {g n : Nat} {c : CutS} (h1n : 1 ≤ n) (hn8 : n ≤ 8) (hS : Sat e w (IsRC g n c :: R))
    (hk : ∀ w', Sat e w' (IsRC g n (if c.over < c.begun then c else { c with begun := c.begun + 1, least := Inf }) :: R) → K (.int .i64 (if c.over < c.begun then 130 else 0)) w') : Cl prog 18 #[.pointer (some ⟨g, 0, none⟩)] w K := by
  obtain ⟨x, hx, h1⟩ := rc_of hS
  refine pacelineref16_Cut_Begin_calls ?_
  unfold pacelineref16_Cut_Begin
  refine ncP_p (fld_at ?_)
  refine ld1_at h1 0 rfl (v := .bool (decide (c.over < c.begun))) rfl ?_
  by_cases hu : c.over < c.begun
  · rw [if_pos hu, if_pos hu] at hk
    rw [decide_eq_true hu]
    exact iff_t (hk _ hS)
  · rw [if_neg hu, if_neg hu] at hk
    rw [decide_eq_false hu]
    refine iff_f (ncP_p (fld_at ?_))
    refine stN_at h1 0 rfl (vs := [.bool true]) rfl rfl (by rw [rcs_len]; decide) (by simp [flat]) rfl fun w2 h2 => ?_
    refine ncP_p (fld_at (ld1_at h2 0 rfl (v := x.vc) rfl ?_))
    refine ixS_rd (j := 0) h2 1 rfl (fun g hg => own_rd hg) (fun _ => rfl) (hx.hc 0 (by omega)) fun a ha => ?_
    refine ld1_of h2 1 rfl ha rfl ?_
    refine ncP_p (fld_at ?_)
    refine stN_at h2 0 rfl (vs := [.int .i64 (c.T 0 % 2)]) rfl rfl (Nat.le_of_ble_eq_true rfl) (by simp [flat]) rfl fun w3 h3 => ?_
    refine ncP_p (fld_at ?_)
    refine stN_at h3 0 rfl (vs := [.int .i64 Inf]) rfl rfl (Nat.le_of_ble_eq_true rfl) (by simp [flat]) rfl fun w4 h4 => ?_
    refine ncP_p (fld_at (ld1_at h4 0 rfl (v := x.vc) rfl ?_))
    refine lnS_rd h4 1 rfl (fun g hg => own_rd hg) ?_
    rw [hx.lc]
    refine mkS_own te_39 (by omega) h4 bl (fun _ => rfl) false (by rw [zero_4]; rfl) fun v1 w5 h5 => ?_
    refine ncP_p (fld_at ?_)
    refine st1_at h5 1 rfl (h5.own_cells 0 rfl) (Nat.le_of_ble_eq_true rfl) rfl fun w6 h6 => ?_
    refine ncP_p (fld_at (ld1_at h6 1 rfl (v := x.vc) rfl ?_))
    refine lnS_rd h6 2 rfl (fun g hg => own_rd hg) ?_
    rw [hx.lc]
    refine mkS_own te_39 (by omega) h6 bl (fun _ => rfl) false (by rw [zero_4]; rfl) fun v2 w7 h7 => ?_
    refine ncP_p (fld_at ?_)
    refine st1_at h7 2 rfl (h7.own_cells 0 rfl) (Nat.le_of_ble_eq_true rfl) rfl fun w8 h8 => ?_
    have h9 := h8.selR [_, _, _, _, _, _] [_, _, _, _] [2, 3, 1, 0] (by decide) rfl
    obtain ⟨hn, inv, lc, lt, lr, hc, ht, hr, ho⟩ := hx
    obtain ⟨i0, i1, i2, i3, i4⟩ := inv
    have hb : c.begun = c.over := by omega
    refine hk _ (mk_rc (x := ⟨x.vc, v1, v2, c.T 0 % 2, x.cl, List.replicate n false, List.replicate n false⟩) ?_ ?_)
    · refine ⟨hn, ⟨i0, by show c.over ≤ c.begun + 1; omega, by show c.begun + 1 ≤ c.over + 1; omega, fun i hi => ⟨(i3 i hi).1, by have := (i3 i hi).2; show c.T i ≤ c.begun + 1; omega⟩, fun i hi => ⟨(i4 i hi).1, by have := (i4 i hi).2; show c.Rp i ≤ c.begun + 1; omega⟩⟩, lc, List.length_replicate, List.length_replicate, hc, fun _ i hi => ?_, fun _ i hi => ?_, fun _ => ?_⟩
      · show (List.replicate n false)[i]? = _
        rw [List.getElem?_replicate, if_pos hi]
        have := (i3 i hi).2
        congr 1
        exact (decide_eq_false (show ¬ c.T i = c.begun + 1 by omega)).symm
      · show (List.replicate n false)[i]? = _
        rw [List.getElem?_replicate, if_pos hi]
        have := (i4 i hi).2
        congr 1
        exact (decide_eq_false (show ¬ c.Rp i = c.begun + 1 by omega)).symm
      · have := i3 0 (by omega)
        show c.T 0 % 2 = c.over % 2
        rw [show c.T 0 = c.over by omega]
    · have e1 : rcs ⟨x.vc, v1, v2, c.T 0 % 2, x.cl, List.replicate n false, List.replicate n false⟩ { c with begun := c.begun + 1, least := Inf } = [x.vc, v1, v2, .int .i64 c.on0, .int .i64 c.on1, .bool true, .int .i64 (c.T 0 % 2), .int .i64 Inf, .int .i64 c.value, .int .i64 c.over] := by
        unfold rcs
        rw [decide_eq_true (show c.over < c.begun + 1 by omega)]
      rw [e1]
      exact h9

theorem rcs_setOn (x : RX) (c : CutS) (a y : Int) : ∃ j : Nat, j < 2 ∧ a % 2 = (j : Int) ∧ (rcs x c)[3 + j * 1]? = some (.int .i64 (c.on (a % 2))) ∧ wrL (rcs x c) (3 + j * 1) [.int .i64 y] = rcs x (c.setOn (a % 2) y) := by
  rcases Int.emod_two_eq a with h | h
  · exact ⟨0, by omega, h, by rw [h]; rfl, by rw [h]; rfl⟩
  · exact ⟨1, by omega, h, by rw [h]; rfl, by rw [h]; rfl⟩

theorem ref16_Sent_bad {g n : Nat} {c : CutS} {i t : Int} (hi : ¬ (0 ≤ i ∧ i < n) ∨ validT t = false) (hS : Sat e w (IsRC g n c :: R)) (hk : K (.tuple #[.int .i64 0, .int .i64 1]) w) : Cl prog 20 #[.pointer (some ⟨g, 0, none⟩), .int .i64 i, .int .i64 t] w K := by
  refine pacelineref16_Cut_Sent_calls ?_
  unfold pacelineref16_Cut_Sent
  refine ref16_is_s hS ?_
  by_cases hin : 0 ≤ i ∧ i < n
  · rw [decide_eq_true hin]
    repeat (first | refine gd_tt ?_ | refine gd_ff ?_ | refine gd_tf ?_ | refine gd_ft ?_ | refine gd_u ?_ | refine pk_t ?_ | refine pk_f ?_ | refine iff_t ?_ | refine iff_f ?_ | refine not_t ?_ | refine not_f ?_ | refine beq_s ?_ | refine bne_s ?_ | refine ncP_p ?_ | refine nc_p ?_ | refine fld_at ?_ | refine xt_02 ?_ | refine xt_12 ?_ | refine xt_03 ?_ | refine xt_13 ?_ | refine xt_23 ?_ | refine eq_t (by omega) ?_ | refine eq_f (by omega) ?_ | refine ne_t (by omega) ?_ | refine ne_f (by omega) ?_ | refine lt_t (by omega) ?_ | refine lt_f (by omega) ?_ | refine gt_t (by omega) ?_ | refine gt_f (by omega) ?_ | refine ge_t (by omega) ?_ | refine ge_f (by omega) ?_ | refine le_t (by omega) ?_ | refine le_f (by omega) ?_)
    refine ref01_Valid_s ?_
    rw [show validT t = false from hi.resolve_left (fun h => h hin)]
    repeat (first | refine gd_tt ?_ | refine gd_ff ?_ | refine gd_tf ?_ | refine gd_ft ?_ | refine gd_u ?_ | refine pk_t ?_ | refine pk_f ?_ | refine iff_t ?_ | refine iff_f ?_ | refine not_t ?_ | refine not_f ?_ | refine beq_s ?_ | refine bne_s ?_ | refine ncP_p ?_ | refine nc_p ?_ | refine fld_at ?_ | refine xt_02 ?_ | refine xt_12 ?_ | refine xt_03 ?_ | refine xt_13 ?_ | refine xt_23 ?_ | refine eq_t (by omega) ?_ | refine eq_f (by omega) ?_ | refine ne_t (by omega) ?_ | refine ne_f (by omega) ?_ | refine lt_t (by omega) ?_ | refine lt_f (by omega) ?_ | refine gt_t (by omega) ?_ | refine gt_f (by omega) ?_ | refine ge_t (by omega) ?_ | refine ge_f (by omega) ?_ | refine le_t (by omega) ?_ | refine le_f (by omega) ?_)
    exact hk
  · rw [decide_eq_false hin]
    repeat (first | refine gd_tt ?_ | refine gd_ff ?_ | refine gd_tf ?_ | refine gd_ft ?_ | refine gd_u ?_ | refine pk_t ?_ | refine pk_f ?_ | refine iff_t ?_ | refine iff_f ?_ | refine not_t ?_ | refine not_f ?_ | refine beq_s ?_ | refine bne_s ?_ | refine ncP_p ?_ | refine nc_p ?_ | refine fld_at ?_ | refine xt_02 ?_ | refine xt_12 ?_ | refine xt_03 ?_ | refine xt_13 ?_ | refine xt_23 ?_ | refine eq_t (by omega) ?_ | refine eq_f (by omega) ?_ | refine ne_t (by omega) ?_ | refine ne_f (by omega) ?_ | refine lt_t (by omega) ?_ | refine lt_f (by omega) ?_ | refine gt_t (by omega) ?_ | refine gt_f (by omega) ?_ | refine ge_t (by omega) ?_ | refine ge_f (by omega) ?_ | refine le_t (by omega) ?_ | refine le_f (by omega) ?_)
    exact hk
theorem ref16_Sent_s {g n i : Nat} {c : CutS} {t : Int} (hi : i < n) (hv : validT t = true) (hb : ∀ k, -1000000 ≤ c.on k ∧ c.on k ≤ 1000000) (hS : Sat e w (IsRC g n c :: R))
    (hk : ∀ w', Sat e w' (IsRC g n (c.sent i t) :: R) → K (.tuple #[.int .i64 (c.T i % 2), .int .i64 0]) w') : Cl prog 20 #[.pointer (some ⟨g, 0, none⟩), .int .i64 i, .int .i64 t] w K := by
  refine pacelineref16_Cut_Sent_calls ?_
  unfold pacelineref16_Cut_Sent
  refine ref16_is_s hS ?_
  obtain ⟨x, hx, h0⟩ := rc_of hS
  rw [decide_eq_true (show 0 ≤ (i : Int) ∧ (i : Int) < n from ⟨by omega, by omega⟩)]
  repeat (first | refine gd_tt ?_ | refine gd_ff ?_ | refine gd_tf ?_ | refine gd_ft ?_ | refine gd_u ?_ | refine pk_t ?_ | refine pk_f ?_ | refine iff_t ?_ | refine iff_f ?_ | refine not_t ?_ | refine not_f ?_ | refine beq_s ?_ | refine bne_s ?_ | refine ncP_p ?_ | refine nc_p ?_ | refine fld_at ?_ | refine xt_02 ?_ | refine xt_12 ?_ | refine xt_03 ?_ | refine xt_13 ?_ | refine xt_23 ?_ | refine eq_t (by omega) ?_ | refine eq_f (by omega) ?_ | refine ne_t (by omega) ?_ | refine ne_f (by omega) ?_ | refine lt_t (by omega) ?_ | refine lt_f (by omega) ?_ | refine gt_t (by omega) ?_ | refine gt_f (by omega) ?_ | refine ge_t (by omega) ?_ | refine ge_f (by omega) ?_ | refine le_t (by omega) ?_ | refine le_f (by omega) ?_)
  refine ref01_Valid_s ?_
  rw [hv]
  repeat (first | refine gd_tt ?_ | refine gd_ff ?_ | refine gd_tf ?_ | refine gd_ft ?_ | refine gd_u ?_ | refine pk_t ?_ | refine pk_f ?_ | refine iff_t ?_ | refine iff_f ?_ | refine not_t ?_ | refine not_f ?_ | refine beq_s ?_ | refine bne_s ?_ | refine ncP_p ?_ | refine nc_p ?_ | refine fld_at ?_ | refine xt_02 ?_ | refine xt_12 ?_ | refine xt_03 ?_ | refine xt_13 ?_ | refine xt_23 ?_ | refine eq_t (by omega) ?_ | refine eq_f (by omega) ?_ | refine ne_t (by omega) ?_ | refine ne_f (by omega) ?_ | refine lt_t (by omega) ?_ | refine lt_f (by omega) ?_ | refine gt_t (by omega) ?_ | refine gt_f (by omega) ?_ | refine ge_t (by omega) ?_ | refine ge_f (by omega) ?_ | refine le_t (by omega) ?_ | refine le_f (by omega) ?_)
  have h1 := h0.drew
  obtain ⟨j, hj, hj2, hj3, hj4⟩ := rcs_setOn x c (c.T i) (c.on (c.T i % 2) + 1)
  have hbk := hb (c.T i % 2)
  refine ld1_at h1 0 rfl (v := x.vc) rfl ?_
  refine ixS_rd h1 1 rfl (fun g hg => own_rd hg) (fun _ => rfl) (hx.hc i hi) fun a ha => ?_
  refine ld1_of h1 1 rfl ha rfl ?_
  refine ncP_p (fld_at (ld1_at h1 0 rfl (v := x.vc) rfl ?_))
  refine ixS_rd h1 1 rfl (fun g hg => own_rd hg) (fun _ => rfl) (hx.hc i hi) fun a ha => ?_
  refine ld1_of h1 1 rfl ha rfl ?_
  refine ncP_p (fld_at ?_)
  rw [hj2]
  refine ixA_at hj (ld1_at h1 0 rfl hj3 ?_)
  rw [hj2] at hbk hj4 ⊢
  refine add_s (by omega) (by omega) ?_
  refine ncP_p (fld_at (ixA_at hj ?_))
  refine stN_at h1 0 rfl (vs := [.int .i64 (c.on j + 1)]) rfl rfl (by rw [rcs_len]; omega) (by simp [flat]) hj4 fun w2 h2 => ?_
  replace h2 : Sat e w2 (blk g 42 (rcs x (c.setOn j (c.on j + 1))) :: ownS 3 1 (intsK .i64) x.vc x.cl :: ownS 4 1 bl x.vt x.tl :: ownS 4 1 bl x.vr x.rl :: R) := h2
  have hx2 : RelC n (c.setOn j (c.on j + 1)) x := hx.congr (CutS.setOn_n _ _ _) (CutS.setOn_over _ _ _) (CutS.setOn_begun _ _ _) (CutS.setOn_T _ _ _) (CutS.setOn_Rp _ _ _)
  refine ncP_p (fld_at (ld1_at h2 0 rfl (v := .bool (decide ((c.setOn j (c.on j + 1)).over < (c.setOn j (c.on j + 1)).begun))) rfl ?_))
  rw [CutS.setOn_begun, CutS.setOn_over]
  have tail : ∀ w, Sat e w (IsRC g n (c.sent i t) :: R) → ncP (Value.pointer (some ⟨g, 0, none⟩)) (fld 0 (Value.pointer (some ⟨g, 0, none⟩)) w fun t65 w => ld1 t65 w fun t66 w =>
      ixS 1 t66 (Value.int IntKind.i64 i) w fun t68 w => ld1 t68 w fun t69 w => K (Value.tuple #[t69, Value.int IntKind.i64 0]) w) := by
    intro w h
    obtain ⟨y, hy, h3⟩ := rc_of h
    refine ncP_p (fld_at (ld1_at h3 0 rfl (v := y.vc) rfl ?_))
    have hT : (c.sent i t).T = c.T := by
      unfold CutS.sent
      split
      · exact CutS.setOn_T _ _ _
      · exact CutS.setOn_T _ _ _
    have hyc := hy.hc i hi
    rw [hT] at hyc
    refine ixS_rd h3 1 rfl (fun g hg => own_rd hg) (fun _ => rfl) hyc fun a ha => ?_
    exact ld1_of h3 1 rfl ha rfl (hk _ h)
  by_cases hu : c.over < c.begun
  · rw [decide_eq_true hu]
    repeat (first | refine gd_tt ?_ | refine gd_ff ?_ | refine gd_tf ?_ | refine gd_ft ?_ | refine gd_u ?_ | refine pk_t ?_ | refine pk_f ?_ | refine iff_t ?_ | refine iff_f ?_ | refine not_t ?_ | refine not_f ?_ | refine beq_s ?_ | refine bne_s ?_ | refine ncP_p ?_ | refine nc_p ?_ | refine fld_at ?_ | refine xt_02 ?_ | refine xt_12 ?_ | refine xt_03 ?_ | refine xt_13 ?_ | refine xt_23 ?_ | refine eq_t (by omega) ?_ | refine eq_f (by omega) ?_ | refine ne_t (by omega) ?_ | refine ne_f (by omega) ?_ | refine lt_t (by omega) ?_ | refine lt_f (by omega) ?_ | refine gt_t (by omega) ?_ | refine gt_f (by omega) ?_ | refine ge_t (by omega) ?_ | refine ge_f (by omega) ?_ | refine le_t (by omega) ?_ | refine le_f (by omega) ?_)
    refine ld1_at h2 0 rfl (v := x.vt) rfl ?_
    repeat (first | refine gd_tt ?_ | refine gd_ff ?_ | refine gd_tf ?_ | refine gd_ft ?_ | refine gd_u ?_ | refine pk_t ?_ | refine pk_f ?_ | refine iff_t ?_ | refine iff_f ?_ | refine not_t ?_ | refine not_f ?_ | refine beq_s ?_ | refine bne_s ?_ | refine ncP_p ?_ | refine nc_p ?_ | refine fld_at ?_ | refine xt_02 ?_ | refine xt_12 ?_ | refine xt_03 ?_ | refine xt_13 ?_ | refine xt_23 ?_ | refine eq_t (by omega) ?_ | refine eq_f (by omega) ?_ | refine ne_t (by omega) ?_ | refine ne_f (by omega) ?_ | refine lt_t (by omega) ?_ | refine lt_f (by omega) ?_ | refine gt_t (by omega) ?_ | refine gt_f (by omega) ?_ | refine ge_t (by omega) ?_ | refine ge_f (by omega) ?_ | refine le_t (by omega) ?_ | refine le_f (by omega) ?_)
    refine ixS_rd h2 2 rfl (fun g hg => own_rd hg) (fun _ => rfl) (hx.ht hu i hi) fun a ha => ?_
    refine gd_tt (ld1_of h2 2 rfl ha rfl ?_)
    by_cases ht : c.T i = c.begun
    · rw [decide_eq_true ht]
      repeat (first | refine gd_tt ?_ | refine gd_ff ?_ | refine gd_tf ?_ | refine gd_ft ?_ | refine gd_u ?_ | refine pk_t ?_ | refine pk_f ?_ | refine iff_t ?_ | refine iff_f ?_ | refine not_t ?_ | refine not_f ?_ | refine beq_s ?_ | refine bne_s ?_ | refine ncP_p ?_ | refine nc_p ?_ | refine fld_at ?_ | refine xt_02 ?_ | refine xt_12 ?_ | refine xt_03 ?_ | refine xt_13 ?_ | refine xt_23 ?_ | refine eq_t (by omega) ?_ | refine eq_f (by omega) ?_ | refine ne_t (by omega) ?_ | refine ne_f (by omega) ?_ | refine lt_t (by omega) ?_ | refine lt_f (by omega) ?_ | refine gt_t (by omega) ?_ | refine gt_f (by omega) ?_ | refine ge_t (by omega) ?_ | refine ge_f (by omega) ?_ | refine le_t (by omega) ?_ | refine le_f (by omega) ?_)
      refine ld1_at h2 0 rfl (v := .int .i64 (c.setOn j (c.on j + 1)).least) rfl ?_
      refine min_s ?_
      refine ncP_p (fld_at ?_)
      refine stN_at h2 0 rfl (vs := [.int .i64 (min (c.setOn j (c.on j + 1)).least t)]) rfl rfl (by rw [rcs_len]; decide) (by simp [flat]) (cs' := rcs x { c.setOn j (c.on j + 1) with least := min (c.setOn j (c.on j + 1)).least t }) rfl fun w6 h6 => ?_
      refine tail _ ?_
      have e1 : c.sent i t = { c.setOn j (c.on j + 1) with least := min (c.setOn j (c.on j + 1)).least t } := by
        unfold CutS.sent
        rw [if_pos ⟨hu, ht⟩, hj2, CutS.setOn_least]
      rw [e1]
      exact mk_rc (hx2.congr rfl rfl rfl rfl rfl) h6
    · rw [decide_eq_false ht]
      refine pk_t (iff_f (tail _ ?_))
      have e1 : c.sent i t = c.setOn j (c.on j + 1) := by
        unfold CutS.sent
        rw [if_neg (fun h => ht h.2), hj2]
      rw [e1]
      exact mk_rc hx2 h2
  · rw [decide_eq_false hu]
    refine gd_ft (gd_ft (gd_ft (gd_ft (gd_ft (gd_ft (gd_ft (pk_f (iff_f (tail _ ?_)))))))))
    have e1 : c.sent i t = c.setOn j (c.on j + 1) := by
      unfold CutS.sent
      rw [if_neg (fun h => hu h.1), hj2]
    rw [e1]
    exact mk_rc hx2 h2

theorem ref16_Got_bad {g n : Nat} {c : CutS} {i k : Int} (hi : ¬ (0 ≤ i ∧ i < n)) (hS : Sat e w (IsRC g n c :: R)) (hk : K (.int .i64 1) w) : Cl prog 22 #[.pointer (some ⟨g, 0, none⟩), .int .i64 i, .int .i64 k] w K := by
  refine pacelineref16_Cut_Got_calls ?_
  unfold pacelineref16_Cut_Got
  refine ref16_is_s hS ?_
  rw [decide_eq_false hi]
  repeat (first | refine gd_tt ?_ | refine gd_ff ?_ | refine gd_tf ?_ | refine gd_ft ?_ | refine gd_u ?_ | refine pk_t ?_ | refine pk_f ?_ | refine iff_t ?_ | refine iff_f ?_ | refine not_t ?_ | refine not_f ?_ | refine beq_s ?_ | refine bne_s ?_ | refine ncP_p ?_ | refine nc_p ?_ | refine fld_at ?_ | refine xt_02 ?_ | refine xt_12 ?_ | refine xt_03 ?_ | refine xt_13 ?_ | refine xt_23 ?_ | refine eq_t (by omega) ?_ | refine eq_f (by omega) ?_ | refine ne_t (by omega) ?_ | refine ne_f (by omega) ?_ | refine lt_t (by omega) ?_ | refine lt_f (by omega) ?_ | refine gt_t (by omega) ?_ | refine gt_f (by omega) ?_ | refine ge_t (by omega) ?_ | refine ge_f (by omega) ?_ | refine le_t (by omega) ?_ | refine le_f (by omega) ?_)
  exact hk
theorem ref16_Got_s {g n i : Nat} {c : CutS} {k : Int} (hi : i < n) (hb : ∀ k, -1000000 ≤ c.on k ∧ c.on k ≤ 1000000) (hS : Sat e w (IsRC g n c :: R))
    (hk : ∀ w', Sat e w' (IsRC g n (c.got k) :: R) → K (.int .i64 (c.gotE k)) w') : Cl prog 22 #[.pointer (some ⟨g, 0, none⟩), .int .i64 i, .int .i64 k] w K := by
  refine pacelineref16_Cut_Got_calls ?_
  unfold pacelineref16_Cut_Got
  refine ref16_is_s hS ?_
  obtain ⟨x, hx, h0⟩ := rc_of hS
  rw [decide_eq_true (show 0 ≤ (i : Int) ∧ (i : Int) < n from ⟨by omega, by omega⟩)]
  repeat (first | refine gd_tt ?_ | refine gd_ff ?_ | refine gd_tf ?_ | refine gd_ft ?_ | refine gd_u ?_ | refine pk_t ?_ | refine pk_f ?_ | refine iff_t ?_ | refine iff_f ?_ | refine not_t ?_ | refine not_f ?_ | refine beq_s ?_ | refine bne_s ?_ | refine ncP_p ?_ | refine nc_p ?_ | refine fld_at ?_ | refine xt_02 ?_ | refine xt_12 ?_ | refine xt_03 ?_ | refine xt_13 ?_ | refine xt_23 ?_ | refine eq_t (by omega) ?_ | refine eq_f (by omega) ?_ | refine ne_t (by omega) ?_ | refine ne_f (by omega) ?_ | refine lt_t (by omega) ?_ | refine lt_f (by omega) ?_ | refine gt_t (by omega) ?_ | refine gt_f (by omega) ?_ | refine ge_t (by omega) ?_ | refine ge_f (by omega) ?_ | refine le_t (by omega) ?_ | refine le_f (by omega) ?_)
  refine lt_c (fun c1 => ?_) (fun c1 => ?_)
  · repeat (first | refine gd_tt ?_ | refine gd_ff ?_ | refine gd_tf ?_ | refine gd_ft ?_ | refine gd_u ?_ | refine pk_t ?_ | refine pk_f ?_ | refine iff_t ?_ | refine iff_f ?_ | refine not_t ?_ | refine not_f ?_ | refine beq_s ?_ | refine bne_s ?_ | refine ncP_p ?_ | refine nc_p ?_ | refine fld_at ?_ | refine xt_02 ?_ | refine xt_12 ?_ | refine xt_03 ?_ | refine xt_13 ?_ | refine xt_23 ?_ | refine eq_t (by omega) ?_ | refine eq_f (by omega) ?_ | refine ne_t (by omega) ?_ | refine ne_f (by omega) ?_ | refine lt_t (by omega) ?_ | refine lt_f (by omega) ?_ | refine gt_t (by omega) ?_ | refine gt_f (by omega) ?_ | refine ge_t (by omega) ?_ | refine ge_f (by omega) ?_ | refine le_t (by omega) ?_ | refine le_f (by omega) ?_)
    have hn : ¬ (0 ≤ k ∧ k ≤ 1) := by omega
    have e1 : c.gotE k = 1 := if_pos (.inl hn)
    have e2 : c.got k = c := if_pos (.inl hn)
    rw [e1, e2] at hk
    exact hk _ hS
  repeat (first | refine gd_tt ?_ | refine gd_ff ?_ | refine gd_tf ?_ | refine gd_ft ?_ | refine gd_u ?_ | refine pk_t ?_ | refine pk_f ?_ | refine iff_t ?_ | refine iff_f ?_ | refine not_t ?_ | refine not_f ?_ | refine beq_s ?_ | refine bne_s ?_ | refine ncP_p ?_ | refine nc_p ?_ | refine fld_at ?_ | refine xt_02 ?_ | refine xt_12 ?_ | refine xt_03 ?_ | refine xt_13 ?_ | refine xt_23 ?_ | refine eq_t (by omega) ?_ | refine eq_f (by omega) ?_ | refine ne_t (by omega) ?_ | refine ne_f (by omega) ?_ | refine lt_t (by omega) ?_ | refine lt_f (by omega) ?_ | refine gt_t (by omega) ?_ | refine gt_f (by omega) ?_ | refine ge_t (by omega) ?_ | refine ge_f (by omega) ?_ | refine le_t (by omega) ?_ | refine le_f (by omega) ?_)
  refine gt_c (fun c2 => ?_) (fun c2 => ?_)
  · repeat (first | refine gd_tt ?_ | refine gd_ff ?_ | refine gd_tf ?_ | refine gd_ft ?_ | refine gd_u ?_ | refine pk_t ?_ | refine pk_f ?_ | refine iff_t ?_ | refine iff_f ?_ | refine not_t ?_ | refine not_f ?_ | refine beq_s ?_ | refine bne_s ?_ | refine ncP_p ?_ | refine nc_p ?_ | refine fld_at ?_ | refine xt_02 ?_ | refine xt_12 ?_ | refine xt_03 ?_ | refine xt_13 ?_ | refine xt_23 ?_ | refine eq_t (by omega) ?_ | refine eq_f (by omega) ?_ | refine ne_t (by omega) ?_ | refine ne_f (by omega) ?_ | refine lt_t (by omega) ?_ | refine lt_f (by omega) ?_ | refine gt_t (by omega) ?_ | refine gt_f (by omega) ?_ | refine ge_t (by omega) ?_ | refine ge_f (by omega) ?_ | refine le_t (by omega) ?_ | refine le_f (by omega) ?_)
    have hn : ¬ (0 ≤ k ∧ k ≤ 1) := by omega
    have e1 : c.gotE k = 1 := if_pos (.inl hn)
    have e2 : c.got k = c := if_pos (.inl hn)
    rw [e1, e2] at hk
    exact hk _ hS
  obtain ⟨j, hj, hj2, hj3, hj4⟩ := rcs_setOn x c k (c.on (k % 2) - 1)
  have hkm : k % 2 = k := by omega
  rw [hkm] at hj2 hj3 hj4
  have hbk := hb k
  repeat (first | refine gd_tt ?_ | refine gd_ff ?_ | refine gd_tf ?_ | refine gd_ft ?_ | refine gd_u ?_ | refine pk_t ?_ | refine pk_f ?_ | refine iff_t ?_ | refine iff_f ?_ | refine not_t ?_ | refine not_f ?_ | refine beq_s ?_ | refine bne_s ?_ | refine ncP_p ?_ | refine nc_p ?_ | refine fld_at ?_ | refine xt_02 ?_ | refine xt_12 ?_ | refine xt_03 ?_ | refine xt_13 ?_ | refine xt_23 ?_ | refine eq_t (by omega) ?_ | refine eq_f (by omega) ?_ | refine ne_t (by omega) ?_ | refine ne_f (by omega) ?_ | refine lt_t (by omega) ?_ | refine lt_f (by omega) ?_ | refine gt_t (by omega) ?_ | refine gt_f (by omega) ?_ | refine ge_t (by omega) ?_ | refine ge_f (by omega) ?_ | refine le_t (by omega) ?_ | refine le_f (by omega) ?_)
  rw [hj2] at hj3 hj4 hbk ⊢
  refine ixA_at hj (gd_ff (ld1_at h0 0 rfl hj3 ?_))
  by_cases h00 : c.on k = 0
  · have e1 : c.gotE k = 1 := if_pos (.inr h00)
    have e2 : c.got k = c := if_pos (.inr h00)
    rw [e1, e2] at hk
    rw [hj2] at h00
    repeat (first | refine gd_tt ?_ | refine gd_ff ?_ | refine gd_tf ?_ | refine gd_ft ?_ | refine gd_u ?_ | refine pk_t ?_ | refine pk_f ?_ | refine iff_t ?_ | refine iff_f ?_ | refine not_t ?_ | refine not_f ?_ | refine beq_s ?_ | refine bne_s ?_ | refine ncP_p ?_ | refine nc_p ?_ | refine fld_at ?_ | refine xt_02 ?_ | refine xt_12 ?_ | refine xt_03 ?_ | refine xt_13 ?_ | refine xt_23 ?_ | refine eq_t (by omega) ?_ | refine eq_f (by omega) ?_ | refine ne_t (by omega) ?_ | refine ne_f (by omega) ?_ | refine lt_t (by omega) ?_ | refine lt_f (by omega) ?_ | refine gt_t (by omega) ?_ | refine gt_f (by omega) ?_ | refine ge_t (by omega) ?_ | refine ge_f (by omega) ?_ | refine le_t (by omega) ?_ | refine le_f (by omega) ?_)
    exact hk _ hS
  · have hn : ¬ (¬ (0 ≤ k ∧ k ≤ 1) ∨ c.on k = 0) := fun h => h.elim (fun h => by omega) h00
    have e1 : c.gotE k = 0 := if_neg hn
    have e2 : c.got k = c.setOn k (c.on k - 1) := if_neg hn
    rw [e1, e2, hj2] at hk
    rw [hj2] at h00
    repeat (first | refine gd_tt ?_ | refine gd_ff ?_ | refine gd_tf ?_ | refine gd_ft ?_ | refine gd_u ?_ | refine pk_t ?_ | refine pk_f ?_ | refine iff_t ?_ | refine iff_f ?_ | refine not_t ?_ | refine not_f ?_ | refine beq_s ?_ | refine bne_s ?_ | refine ncP_p ?_ | refine nc_p ?_ | refine fld_at ?_ | refine xt_02 ?_ | refine xt_12 ?_ | refine xt_03 ?_ | refine xt_13 ?_ | refine xt_23 ?_ | refine eq_t (by omega) ?_ | refine eq_f (by omega) ?_ | refine ne_t (by omega) ?_ | refine ne_f (by omega) ?_ | refine lt_t (by omega) ?_ | refine lt_f (by omega) ?_ | refine gt_t (by omega) ?_ | refine gt_f (by omega) ?_ | refine ge_t (by omega) ?_ | refine ge_f (by omega) ?_ | refine le_t (by omega) ?_ | refine le_f (by omega) ?_)
    have h1 := h0.drew
    refine ixA_at hj (ld1_at h1 0 rfl hj3 ?_)
    refine sub_s (by omega) (by omega) ?_
    refine ncP_p (fld_at (ixA_at hj ?_))
    refine stN_at h1 0 rfl (vs := [.int .i64 (c.on j - 1)]) rfl rfl (by rw [rcs_len]; omega) (by simp [flat]) hj4 fun w2 h2 => ?_
    exact hk _ (mk_rc (hx.congr (CutS.setOn_n _ _ _) (CutS.setOn_over _ _ _) (CutS.setOn_begun _ _ _) (CutS.setOn_T _ _ _) (CutS.setOn_Rp _ _ _)) h2)

theorem ref16_Turn_bad {g n : Nat} {c : CutS} {i : Int} (hi : ¬ (0 ≤ i ∧ i < n)) (hS : Sat e w (IsRC g n c :: R)) (hk : K (.int .i64 1) w) : Cl prog 24 #[.pointer (some ⟨g, 0, none⟩), .int .i64 i] w K := by
  refine pacelineref16_Cut_Turn_calls ?_
  unfold pacelineref16_Cut_Turn
  refine ref16_is_s hS ?_
  rw [decide_eq_false hi]
  repeat (first | refine gd_tt ?_ | refine gd_ff ?_ | refine gd_tf ?_ | refine gd_ft ?_ | refine gd_u ?_ | refine pk_t ?_ | refine pk_f ?_ | refine iff_t ?_ | refine iff_f ?_ | refine not_t ?_ | refine not_f ?_ | refine beq_s ?_ | refine bne_s ?_ | refine ncP_p ?_ | refine nc_p ?_ | refine fld_at ?_ | refine xt_02 ?_ | refine xt_12 ?_ | refine xt_03 ?_ | refine xt_13 ?_ | refine xt_23 ?_ | refine eq_t (by omega) ?_ | refine eq_f (by omega) ?_ | refine ne_t (by omega) ?_ | refine ne_f (by omega) ?_ | refine lt_t (by omega) ?_ | refine lt_f (by omega) ?_ | refine gt_t (by omega) ?_ | refine gt_f (by omega) ?_ | refine ge_t (by omega) ?_ | refine ge_f (by omega) ?_ | refine le_t (by omega) ?_ | refine le_f (by omega) ?_)
  exact hk
theorem set_get {α : Type} {l : List α} {i k : Nat} {a : α} (hi : i < l.length) : (l.set i a)[k]? = if k = i then some a else l[k]? := by
  rw [List.getElem?_set]
  by_cases h : i = k
  · subst h; simp [hi]
  · have : ¬ k = i := fun e => h e.symm
    simp [h, this]
theorem ref16_Turn_s {g n i : Nat} {c : CutS} (hi : i < n) (hS : Sat e w (IsRC g n c :: R)) (hk : ∀ w', Sat e w' (IsRC g n (c.turn i) :: R) → K (.int .i64 (c.turnE i)) w') : Cl prog 24 #[.pointer (some ⟨g, 0, none⟩), .int .i64 i] w K := by
  refine pacelineref16_Cut_Turn_calls ?_
  unfold pacelineref16_Cut_Turn
  refine ref16_is_s hS ?_
  obtain ⟨x, hx, h0⟩ := rc_of hS
  rw [decide_eq_true (show 0 ≤ (i : Int) ∧ (i : Int) < n from ⟨by omega, by omega⟩)]
  repeat (first | refine gd_tt ?_ | refine gd_ff ?_ | refine gd_tf ?_ | refine gd_ft ?_ | refine gd_u ?_ | refine pk_t ?_ | refine pk_f ?_ | refine iff_t ?_ | refine iff_f ?_ | refine not_t ?_ | refine not_f ?_ | refine beq_s ?_ | refine bne_s ?_ | refine ncP_p ?_ | refine nc_p ?_ | refine fld_at ?_ | refine xt_02 ?_ | refine xt_12 ?_ | refine xt_03 ?_ | refine xt_13 ?_ | refine xt_23 ?_ | refine eq_t (by omega) ?_ | refine eq_f (by omega) ?_ | refine ne_t (by omega) ?_ | refine ne_f (by omega) ?_ | refine lt_t (by omega) ?_ | refine lt_f (by omega) ?_ | refine gt_t (by omega) ?_ | refine gt_f (by omega) ?_ | refine ge_t (by omega) ?_ | refine ge_f (by omega) ?_ | refine le_t (by omega) ?_ | refine le_f (by omega) ?_)
  refine ld1_at h0 0 rfl (v := .bool (decide (c.over < c.begun))) rfl ?_
  by_cases hu : c.over < c.begun
  · rw [decide_eq_true hu]
    repeat (first | refine gd_tt ?_ | refine gd_ff ?_ | refine gd_tf ?_ | refine gd_ft ?_ | refine gd_u ?_ | refine pk_t ?_ | refine pk_f ?_ | refine iff_t ?_ | refine iff_f ?_ | refine not_t ?_ | refine not_f ?_ | refine beq_s ?_ | refine bne_s ?_ | refine ncP_p ?_ | refine nc_p ?_ | refine fld_at ?_ | refine xt_02 ?_ | refine xt_12 ?_ | refine xt_03 ?_ | refine xt_13 ?_ | refine xt_23 ?_ | refine eq_t (by omega) ?_ | refine eq_f (by omega) ?_ | refine ne_t (by omega) ?_ | refine ne_f (by omega) ?_ | refine lt_t (by omega) ?_ | refine lt_f (by omega) ?_ | refine gt_t (by omega) ?_ | refine gt_f (by omega) ?_ | refine ge_t (by omega) ?_ | refine ge_f (by omega) ?_ | refine le_t (by omega) ?_ | refine le_f (by omega) ?_)
    refine ld1_at h0 0 rfl (v := x.vt) rfl ?_
    repeat (first | refine gd_tt ?_ | refine gd_ff ?_ | refine gd_tf ?_ | refine gd_ft ?_ | refine gd_u ?_ | refine pk_t ?_ | refine pk_f ?_ | refine iff_t ?_ | refine iff_f ?_ | refine not_t ?_ | refine not_f ?_ | refine beq_s ?_ | refine bne_s ?_ | refine ncP_p ?_ | refine nc_p ?_ | refine fld_at ?_ | refine xt_02 ?_ | refine xt_12 ?_ | refine xt_03 ?_ | refine xt_13 ?_ | refine xt_23 ?_ | refine eq_t (by omega) ?_ | refine eq_f (by omega) ?_ | refine ne_t (by omega) ?_ | refine ne_f (by omega) ?_ | refine lt_t (by omega) ?_ | refine lt_f (by omega) ?_ | refine gt_t (by omega) ?_ | refine gt_f (by omega) ?_ | refine ge_t (by omega) ?_ | refine ge_f (by omega) ?_ | refine le_t (by omega) ?_ | refine le_f (by omega) ?_)
    refine ixS_rd h0 2 rfl (fun g hg => own_rd hg) (fun _ => rfl) (hx.ht hu i hi) fun a ha => ?_
    refine gd_ff (ld1_of h0 2 rfl ha rfl ?_)
    by_cases ht : c.T i = c.begun
    · rw [decide_eq_true ht]
      obtain ⟨e1, e2⟩ := CutS.turn_no ht
      rw [e1, e2] at hk
      repeat (first | refine gd_tt ?_ | refine gd_ff ?_ | refine gd_tf ?_ | refine gd_ft ?_ | refine gd_u ?_ | refine pk_t ?_ | refine pk_f ?_ | refine iff_t ?_ | refine iff_f ?_ | refine not_t ?_ | refine not_f ?_ | refine beq_s ?_ | refine bne_s ?_ | refine ncP_p ?_ | refine nc_p ?_ | refine fld_at ?_ | refine xt_02 ?_ | refine xt_12 ?_ | refine xt_03 ?_ | refine xt_13 ?_ | refine xt_23 ?_ | refine eq_t (by omega) ?_ | refine eq_f (by omega) ?_ | refine ne_t (by omega) ?_ | refine ne_f (by omega) ?_ | refine lt_t (by omega) ?_ | refine lt_f (by omega) ?_ | refine gt_t (by omega) ?_ | refine gt_f (by omega) ?_ | refine ge_t (by omega) ?_ | refine ge_f (by omega) ?_ | refine le_t (by omega) ?_ | refine le_f (by omega) ?_)
      exact hk _ hS
    · rw [decide_eq_false ht]
      obtain ⟨e1, e2⟩ := CutS.turn_ok hu ht
      rw [e1, e2] at hk
      repeat (first | refine gd_tt ?_ | refine gd_ff ?_ | refine gd_tf ?_ | refine gd_ft ?_ | refine gd_u ?_ | refine pk_t ?_ | refine pk_f ?_ | refine iff_t ?_ | refine iff_f ?_ | refine not_t ?_ | refine not_f ?_ | refine beq_s ?_ | refine bne_s ?_ | refine ncP_p ?_ | refine nc_p ?_ | refine fld_at ?_ | refine xt_02 ?_ | refine xt_12 ?_ | refine xt_03 ?_ | refine xt_13 ?_ | refine xt_23 ?_ | refine eq_t (by omega) ?_ | refine eq_f (by omega) ?_ | refine ne_t (by omega) ?_ | refine ne_f (by omega) ?_ | refine lt_t (by omega) ?_ | refine lt_f (by omega) ?_ | refine gt_t (by omega) ?_ | refine gt_f (by omega) ?_ | refine ge_t (by omega) ?_ | refine ge_f (by omega) ?_ | refine le_t (by omega) ?_ | refine le_f (by omega) ?_)
      refine ld1_at h0 0 rfl (v := x.vt) rfl ?_
      refine st_own h0 2 rfl (fun _ => rfl) (by rw [hx.lt]; exact hi) (x := true) rfl (bl_flat true) fun w2 h2 => ?_
      have h3 := h2.drew
      refine ncP_p (fld_at (ld1_at h3 0 rfl (v := x.vc) rfl ?_))
      refine ncP_p (fld_at (ld1_at h3 0 rfl (v := .int .i64 x.old) rfl ?_))
      have hold := hx.ho hu
      refine sub_s (by omega) (by omega) ?_
      refine st_own' h3 1 rfl (fun _ => rfl) (by rw [hx.lc]; exact hi) (x := 1 - x.old) rfl (intsK_flat _) fun w4 h4 => ?_
      obtain ⟨hn, inv, lc, lt, lr, hc, ht', hr, ho⟩ := hx
      obtain ⟨i0, i1, i2, i3, i4⟩ := inv
      refine hk _ (mk_rc (x := { x with tl := x.tl.set i true, cl := x.cl.set i (1 - x.old) }) ?_ h4)
      refine ⟨hn, ⟨i0, i1, i2, fun k hk => ?_, i4⟩, by simpa using lc, by simpa using lt, lr, fun k hk => ?_, fun hu k hk => ?_, hr, ho⟩
      · show _ ≤ updF c.T i c.begun k ∧ updF c.T i c.begun k ≤ _
        by_cases hki : k = i
        · subst hki; rw [updF_eq]; exact ⟨by show c.over ≤ _; omega, Int.le_refl _⟩
        · rw [updF_ne _ _ hki]; exact i3 k hk
      · show (x.cl.set i (1 - x.old))[k]? = some (updF c.T i c.begun k % 2)
        rw [set_get (by omega)]
        by_cases hki : k = i
        · subst hki; rw [updF_eq, if_pos rfl, hold]; congr 1; omega
        · rw [updF_ne _ _ hki, if_neg hki]; exact hc k hk
      · show (x.tl.set i true)[k]? = some (decide (updF c.T i c.begun k = c.begun))
        rw [set_get (by omega)]
        by_cases hki : k = i
        · subst hki; rw [updF_eq, if_pos rfl]; simp
        · rw [updF_ne _ _ hki, if_neg hki]; exact ht' hu k hk
  · rw [decide_eq_false hu]
    have e1 : c.turnE i = 130 := if_pos (.inl hu)
    have e2 : c.turn i = c := if_pos (.inl hu)
    rw [e1, e2] at hk
    repeat (first | refine gd_tt ?_ | refine gd_ff ?_ | refine gd_tf ?_ | refine gd_ft ?_ | refine gd_u ?_ | refine pk_t ?_ | refine pk_f ?_ | refine iff_t ?_ | refine iff_f ?_ | refine not_t ?_ | refine not_f ?_ | refine beq_s ?_ | refine bne_s ?_ | refine ncP_p ?_ | refine nc_p ?_ | refine fld_at ?_ | refine xt_02 ?_ | refine xt_12 ?_ | refine xt_03 ?_ | refine xt_13 ?_ | refine xt_23 ?_ | refine eq_t (by omega) ?_ | refine eq_f (by omega) ?_ | refine ne_t (by omega) ?_ | refine ne_f (by omega) ?_ | refine lt_t (by omega) ?_ | refine lt_f (by omega) ?_ | refine gt_t (by omega) ?_ | refine gt_f (by omega) ?_ | refine ge_t (by omega) ?_ | refine ge_f (by omega) ?_ | refine le_t (by omega) ?_ | refine le_f (by omega) ?_)
    exact hk _ hS

theorem ref16_all_s {v : Value} {l : List Bool} {S : HP} (hS : Sat e w (S :: R)) (hr : ∀ g, S g → rdS 1 bl v l g) (hl : l.length ≤ 1000000) (hk : K (.bool (l.all id)) w) : Cl prog 82 #[v] w K := by
  refine pacelineref16_all_calls ?_
  unfold pacelineref16_all
  refine lpi1 (fun m t3 w' => ∃ j : Nat, j ≤ l.length ∧ t3 = .int .i64 j ∧ m = l.length - j ∧ w' = w ∧ (l.take j).all id = true) l.length ⟨0, Nat.zero_le _, rfl, rfl, rfl, rfl⟩ ?_
  rintro m _ w' g ⟨j, hj, rfl, rfl, rfl, hall⟩ hg
  refine lnS_rd hS 0 rfl hr ?_
  refine lt_c (fun c => iff_t ?_) (fun c => iff_f ?_)
  · obtain ⟨x, hx⟩ := get_of_lt (l := l) (j := j) (by omega)
    refine ixS_rd hS 0 rfl hr (fun _ => rfl) hx fun a ha => ?_
    refine ld1_of hS 0 rfl ha rfl ?_
    cases x with
    | true =>
      repeat (first | refine gd_tt ?_ | refine gd_ff ?_ | refine gd_tf ?_ | refine gd_ft ?_ | refine gd_u ?_ | refine pk_t ?_ | refine pk_f ?_ | refine iff_t ?_ | refine iff_f ?_ | refine not_t ?_ | refine not_f ?_ | refine beq_s ?_ | refine bne_s ?_ | refine ncP_p ?_ | refine nc_p ?_ | refine fld_at ?_ | refine xt_02 ?_ | refine xt_12 ?_ | refine xt_03 ?_ | refine xt_13 ?_ | refine xt_23 ?_ | refine eq_t (by omega) ?_ | refine eq_f (by omega) ?_ | refine ne_t (by omega) ?_ | refine ne_f (by omega) ?_ | refine lt_t (by omega) ?_ | refine lt_f (by omega) ?_ | refine gt_t (by omega) ?_ | refine gt_f (by omega) ?_ | refine ge_t (by omega) ?_ | refine ge_f (by omega) ?_ | refine le_t (by omega) ?_ | refine le_f (by omega) ?_)
      refine inc_s (by omega) ?_
      refine hg _ _ _ (by omega) ⟨j + 1, by omega, rfl, rfl, rfl, ?_⟩
      rw [take_snoc hx, List.all_append, hall]
      rfl
    | false =>
      repeat (first | refine gd_tt ?_ | refine gd_ff ?_ | refine gd_tf ?_ | refine gd_ft ?_ | refine gd_u ?_ | refine pk_t ?_ | refine pk_f ?_ | refine iff_t ?_ | refine iff_f ?_ | refine not_t ?_ | refine not_f ?_ | refine beq_s ?_ | refine bne_s ?_ | refine ncP_p ?_ | refine nc_p ?_ | refine fld_at ?_ | refine xt_02 ?_ | refine xt_12 ?_ | refine xt_03 ?_ | refine xt_13 ?_ | refine xt_23 ?_ | refine eq_t (by omega) ?_ | refine eq_f (by omega) ?_ | refine ne_t (by omega) ?_ | refine ne_f (by omega) ?_ | refine lt_t (by omega) ?_ | refine lt_f (by omega) ?_ | refine gt_t (by omega) ?_ | refine gt_f (by omega) ?_ | refine ge_t (by omega) ?_ | refine ge_f (by omega) ?_ | refine le_t (by omega) ?_ | refine le_f (by omega) ?_)
      have : l.all id = false := by
        rw [List.all_eq_false]
        exact ⟨false, List.mem_of_getElem? hx, by simp⟩
      rw [this] at hk
      exact hk
  · have : j = l.length := by omega
    rw [this, List.take_length] at hall
    rw [hall] at hk
    exact hk

theorem all_rel {n : Nat} {c : CutS} {l : List Bool} (p : Int → Int → Bool) (hn : c.n = n) (hl : l.length = n) (h : ∀ i, i < n → l[i]? = some (p (c.T i) (c.Rp i))) : l.all id = c.all p := by
  cases hb : c.all p with
  | true =>
    rw [CutS.all_iff hn] at hb
    rw [List.all_eq_true]
    intro x hx
    obtain ⟨i, hi⟩ := List.mem_iff_getElem?.1 hx
    have hil : i < n := by rw [← hl]; exact (List.getElem?_eq_some_iff.1 hi).1
    rw [h i hil] at hi
    cases hi
    exact hb i hil
  | false =>
    cases ha : l.all id with
    | false => rfl
    | true =>
      have : c.all p = true := by
        rw [CutS.all_iff hn]
        intro j hj
        have := List.all_eq_true.1 ha _ (List.mem_of_getElem? (h j hj))
        exact this
      rw [this] at hb
      cases hb

theorem ref16_Report_bad {g n : Nat} {c : CutS} {i : Int} {x : Int} (hi : ¬ (0 ≤ i ∧ i < n) ∨ validT x = false) (hS : Sat e w (IsRC g n c :: R)) (hk : K (.int .i64 1) w) : Cl prog 26 #[.pointer (some ⟨g, 0, none⟩), .int .i64 i, .int .i64 x] w K := by
  refine pacelineref16_Cut_Report_calls ?_
  unfold pacelineref16_Cut_Report
  refine ref16_is_s hS ?_
  by_cases hin : 0 ≤ i ∧ i < n
  · rw [decide_eq_true hin]
    repeat (first | refine gd_tt ?_ | refine gd_ff ?_ | refine gd_tf ?_ | refine gd_ft ?_ | refine gd_u ?_ | refine pk_t ?_ | refine pk_f ?_ | refine iff_t ?_ | refine iff_f ?_ | refine not_t ?_ | refine not_f ?_ | refine beq_s ?_ | refine bne_s ?_ | refine ncP_p ?_ | refine nc_p ?_ | refine fld_at ?_ | refine xt_02 ?_ | refine xt_12 ?_ | refine xt_03 ?_ | refine xt_13 ?_ | refine xt_23 ?_ | refine eq_t (by omega) ?_ | refine eq_f (by omega) ?_ | refine ne_t (by omega) ?_ | refine ne_f (by omega) ?_ | refine lt_t (by omega) ?_ | refine lt_f (by omega) ?_ | refine gt_t (by omega) ?_ | refine gt_f (by omega) ?_ | refine ge_t (by omega) ?_ | refine ge_f (by omega) ?_ | refine le_t (by omega) ?_ | refine le_f (by omega) ?_)
    refine ref01_Valid_s ?_
    rw [show validT x = false from hi.resolve_left (fun h => h hin)]
    repeat (first | refine gd_tt ?_ | refine gd_ff ?_ | refine gd_tf ?_ | refine gd_ft ?_ | refine gd_u ?_ | refine pk_t ?_ | refine pk_f ?_ | refine iff_t ?_ | refine iff_f ?_ | refine not_t ?_ | refine not_f ?_ | refine beq_s ?_ | refine bne_s ?_ | refine ncP_p ?_ | refine nc_p ?_ | refine fld_at ?_ | refine xt_02 ?_ | refine xt_12 ?_ | refine xt_03 ?_ | refine xt_13 ?_ | refine xt_23 ?_ | refine eq_t (by omega) ?_ | refine eq_f (by omega) ?_ | refine ne_t (by omega) ?_ | refine ne_f (by omega) ?_ | refine lt_t (by omega) ?_ | refine lt_f (by omega) ?_ | refine gt_t (by omega) ?_ | refine gt_f (by omega) ?_ | refine ge_t (by omega) ?_ | refine ge_f (by omega) ?_ | refine le_t (by omega) ?_ | refine le_f (by omega) ?_)
    exact hk
  · rw [decide_eq_false hin]
    repeat (first | refine gd_tt ?_ | refine gd_ff ?_ | refine gd_tf ?_ | refine gd_ft ?_ | refine gd_u ?_ | refine pk_t ?_ | refine pk_f ?_ | refine iff_t ?_ | refine iff_f ?_ | refine not_t ?_ | refine not_f ?_ | refine beq_s ?_ | refine bne_s ?_ | refine ncP_p ?_ | refine nc_p ?_ | refine fld_at ?_ | refine xt_02 ?_ | refine xt_12 ?_ | refine xt_03 ?_ | refine xt_13 ?_ | refine xt_23 ?_ | refine eq_t (by omega) ?_ | refine eq_f (by omega) ?_ | refine ne_t (by omega) ?_ | refine ne_f (by omega) ?_ | refine lt_t (by omega) ?_ | refine lt_f (by omega) ?_ | refine gt_t (by omega) ?_ | refine gt_f (by omega) ?_ | refine ge_t (by omega) ?_ | refine ge_f (by omega) ?_ | refine le_t (by omega) ?_ | refine le_f (by omega) ?_)
    exact hk
theorem ref16_Report_s {g n i : Nat} {c : CutS} {t : Int} (hn8 : n ≤ 8) (hi : i < n) (hv : validT t = true) (hbd : c.over ≤ 1000000) (hS : Sat e w (IsRC g n c :: R))
    (h130 : c.early i → ∀ w', Sat e w' (IsRC g n c :: R) → K (.int .i64 130) w')
    (h150 : ¬ c.early i → 0 < c.on (c.over % 2) → ∀ w', Sat e w' (IsRC g n c :: R) → K (.int .i64 150) w')
    (h0 : ¬ c.early i → ¬ 0 < c.on (c.over % 2) → ∀ w', Sat e w' (IsRC g n (c.rep1 i t).rep2 :: R) → K (.int .i64 0) w') : Cl prog 26 #[.pointer (some ⟨g, 0, none⟩), .int .i64 i, .int .i64 t] w K := by
  refine pacelineref16_Cut_Report_calls ?_
  unfold pacelineref16_Cut_Report
  refine ref16_is_s hS ?_
  obtain ⟨x, hx, h1⟩ := rc_of hS
  rw [decide_eq_true (show 0 ≤ (i : Int) ∧ (i : Int) < n from ⟨by omega, by omega⟩)]
  repeat (first | refine gd_tt ?_ | refine gd_ff ?_ | refine gd_tf ?_ | refine gd_ft ?_ | refine gd_u ?_ | refine pk_t ?_ | refine pk_f ?_ | refine iff_t ?_ | refine iff_f ?_ | refine not_t ?_ | refine not_f ?_ | refine beq_s ?_ | refine bne_s ?_ | refine ncP_p ?_ | refine nc_p ?_ | refine fld_at ?_ | refine xt_02 ?_ | refine xt_12 ?_ | refine xt_03 ?_ | refine xt_13 ?_ | refine xt_23 ?_ | refine eq_t (by omega) ?_ | refine eq_f (by omega) ?_ | refine ne_t (by omega) ?_ | refine ne_f (by omega) ?_ | refine lt_t (by omega) ?_ | refine lt_f (by omega) ?_ | refine gt_t (by omega) ?_ | refine gt_f (by omega) ?_ | refine ge_t (by omega) ?_ | refine ge_f (by omega) ?_ | refine le_t (by omega) ?_ | refine le_f (by omega) ?_)
  refine ref01_Valid_s ?_
  rw [hv]
  repeat (first | refine gd_tt ?_ | refine gd_ff ?_ | refine gd_tf ?_ | refine gd_ft ?_ | refine gd_u ?_ | refine pk_t ?_ | refine pk_f ?_ | refine iff_t ?_ | refine iff_f ?_ | refine not_t ?_ | refine not_f ?_ | refine beq_s ?_ | refine bne_s ?_ | refine ncP_p ?_ | refine nc_p ?_ | refine fld_at ?_ | refine xt_02 ?_ | refine xt_12 ?_ | refine xt_03 ?_ | refine xt_13 ?_ | refine xt_23 ?_ | refine eq_t (by omega) ?_ | refine eq_f (by omega) ?_ | refine ne_t (by omega) ?_ | refine ne_f (by omega) ?_ | refine lt_t (by omega) ?_ | refine lt_f (by omega) ?_ | refine gt_t (by omega) ?_ | refine gt_f (by omega) ?_ | refine ge_t (by omega) ?_ | refine ge_f (by omega) ?_ | refine le_t (by omega) ?_ | refine le_f (by omega) ?_)
  refine ld1_at h1 0 rfl (v := .bool (decide (c.over < c.begun))) rfl ?_
  by_cases hu : c.over < c.begun
  · rw [decide_eq_true hu]
    repeat (first | refine gd_tt ?_ | refine gd_ff ?_ | refine gd_tf ?_ | refine gd_ft ?_ | refine gd_u ?_ | refine pk_t ?_ | refine pk_f ?_ | refine iff_t ?_ | refine iff_f ?_ | refine not_t ?_ | refine not_f ?_ | refine beq_s ?_ | refine bne_s ?_ | refine ncP_p ?_ | refine nc_p ?_ | refine fld_at ?_ | refine xt_02 ?_ | refine xt_12 ?_ | refine xt_03 ?_ | refine xt_13 ?_ | refine xt_23 ?_ | refine eq_t (by omega) ?_ | refine eq_f (by omega) ?_ | refine ne_t (by omega) ?_ | refine ne_f (by omega) ?_ | refine lt_t (by omega) ?_ | refine lt_f (by omega) ?_ | refine gt_t (by omega) ?_ | refine gt_f (by omega) ?_ | refine ge_t (by omega) ?_ | refine ge_f (by omega) ?_ | refine le_t (by omega) ?_ | refine le_f (by omega) ?_)
    refine ld1_at h1 0 rfl (v := x.vt) rfl ?_
    refine gd_ff (ref16_all_s (h1.pick 2 rfl) (fun g hg => own_rd hg) (by rw [hx.lt]; omega) ?_)
    rw [all_rel (fun t _ => decide (t = c.begun)) hx.hn hx.lt (hx.ht hu)]
    cases ha : c.all (fun t _ => decide (t = c.begun)) with
    | false =>
      repeat (first | refine gd_tt ?_ | refine gd_ff ?_ | refine gd_tf ?_ | refine gd_ft ?_ | refine gd_u ?_ | refine pk_t ?_ | refine pk_f ?_ | refine iff_t ?_ | refine iff_f ?_ | refine not_t ?_ | refine not_f ?_ | refine beq_s ?_ | refine bne_s ?_ | refine ncP_p ?_ | refine nc_p ?_ | refine fld_at ?_ | refine xt_02 ?_ | refine xt_12 ?_ | refine xt_03 ?_ | refine xt_13 ?_ | refine xt_23 ?_ | refine eq_t (by omega) ?_ | refine eq_f (by omega) ?_ | refine ne_t (by omega) ?_ | refine ne_f (by omega) ?_ | refine lt_t (by omega) ?_ | refine lt_f (by omega) ?_ | refine gt_t (by omega) ?_ | refine gt_f (by omega) ?_ | refine ge_t (by omega) ?_ | refine ge_f (by omega) ?_ | refine le_t (by omega) ?_ | refine le_f (by omega) ?_)
      exact h130 (.inr (.inl ha)) _ hS
    | true =>
      repeat (first | refine gd_tt ?_ | refine gd_ff ?_ | refine gd_tf ?_ | refine gd_ft ?_ | refine gd_u ?_ | refine pk_t ?_ | refine pk_f ?_ | refine iff_t ?_ | refine iff_f ?_ | refine not_t ?_ | refine not_f ?_ | refine beq_s ?_ | refine bne_s ?_ | refine ncP_p ?_ | refine nc_p ?_ | refine fld_at ?_ | refine xt_02 ?_ | refine xt_12 ?_ | refine xt_03 ?_ | refine xt_13 ?_ | refine xt_23 ?_ | refine eq_t (by omega) ?_ | refine eq_f (by omega) ?_ | refine ne_t (by omega) ?_ | refine ne_f (by omega) ?_ | refine lt_t (by omega) ?_ | refine lt_f (by omega) ?_ | refine gt_t (by omega) ?_ | refine gt_f (by omega) ?_ | refine ge_t (by omega) ?_ | refine ge_f (by omega) ?_ | refine le_t (by omega) ?_ | refine le_f (by omega) ?_)
      refine ld1_at h1 0 rfl (v := x.vr) rfl ?_
      repeat (first | refine gd_tt ?_ | refine gd_ff ?_ | refine gd_tf ?_ | refine gd_ft ?_ | refine gd_u ?_ | refine pk_t ?_ | refine pk_f ?_ | refine iff_t ?_ | refine iff_f ?_ | refine not_t ?_ | refine not_f ?_ | refine beq_s ?_ | refine bne_s ?_ | refine ncP_p ?_ | refine nc_p ?_ | refine fld_at ?_ | refine xt_02 ?_ | refine xt_12 ?_ | refine xt_03 ?_ | refine xt_13 ?_ | refine xt_23 ?_ | refine eq_t (by omega) ?_ | refine eq_f (by omega) ?_ | refine ne_t (by omega) ?_ | refine ne_f (by omega) ?_ | refine lt_t (by omega) ?_ | refine lt_f (by omega) ?_ | refine gt_t (by omega) ?_ | refine gt_f (by omega) ?_ | refine ge_t (by omega) ?_ | refine ge_f (by omega) ?_ | refine le_t (by omega) ?_ | refine le_f (by omega) ?_)
      refine ixS_rd h1 3 rfl (fun g hg => own_rd hg) (fun _ => rfl) (hx.hr hu i hi) fun a hpa => ?_
      refine gd_ff (ld1_of h1 3 rfl hpa rfl ?_)
      by_cases ht : c.Rp i = c.begun
      · rw [decide_eq_true ht]
        repeat (first | refine gd_tt ?_ | refine gd_ff ?_ | refine gd_tf ?_ | refine gd_ft ?_ | refine gd_u ?_ | refine pk_t ?_ | refine pk_f ?_ | refine iff_t ?_ | refine iff_f ?_ | refine not_t ?_ | refine not_f ?_ | refine beq_s ?_ | refine bne_s ?_ | refine ncP_p ?_ | refine nc_p ?_ | refine fld_at ?_ | refine xt_02 ?_ | refine xt_12 ?_ | refine xt_03 ?_ | refine xt_13 ?_ | refine xt_23 ?_ | refine eq_t (by omega) ?_ | refine eq_f (by omega) ?_ | refine ne_t (by omega) ?_ | refine ne_f (by omega) ?_ | refine lt_t (by omega) ?_ | refine lt_f (by omega) ?_ | refine gt_t (by omega) ?_ | refine gt_f (by omega) ?_ | refine ge_t (by omega) ?_ | refine ge_f (by omega) ?_ | refine le_t (by omega) ?_ | refine le_f (by omega) ?_)
        exact h130 (.inr (.inr ht)) _ hS
      · rw [decide_eq_false ht]
        have hne : ¬ c.early i := by unfold CutS.early; rw [ha]; simp [hu, ht]
        repeat (first | refine gd_tt ?_ | refine gd_ff ?_ | refine gd_tf ?_ | refine gd_ft ?_ | refine gd_u ?_ | refine pk_t ?_ | refine pk_f ?_ | refine iff_t ?_ | refine iff_f ?_ | refine not_t ?_ | refine not_f ?_ | refine beq_s ?_ | refine bne_s ?_ | refine ncP_p ?_ | refine nc_p ?_ | refine fld_at ?_ | refine xt_02 ?_ | refine xt_12 ?_ | refine xt_03 ?_ | refine xt_13 ?_ | refine xt_23 ?_ | refine eq_t (by omega) ?_ | refine eq_f (by omega) ?_ | refine ne_t (by omega) ?_ | refine ne_f (by omega) ?_ | refine lt_t (by omega) ?_ | refine lt_f (by omega) ?_ | refine gt_t (by omega) ?_ | refine gt_f (by omega) ?_ | refine ge_t (by omega) ?_ | refine ge_f (by omega) ?_ | refine le_t (by omega) ?_ | refine le_f (by omega) ?_)
        have h5 := h1.drew
        refine ld1_at h5 0 rfl (v := .int .i64 x.old) rfl ?_
        rw [hx.ho hu]
        repeat (first | refine gd_tt ?_ | refine gd_ff ?_ | refine gd_tf ?_ | refine gd_ft ?_ | refine gd_u ?_ | refine pk_t ?_ | refine pk_f ?_ | refine iff_t ?_ | refine iff_f ?_ | refine not_t ?_ | refine not_f ?_ | refine beq_s ?_ | refine bne_s ?_ | refine ncP_p ?_ | refine nc_p ?_ | refine fld_at ?_ | refine xt_02 ?_ | refine xt_12 ?_ | refine xt_03 ?_ | refine xt_13 ?_ | refine xt_23 ?_ | refine eq_t (by omega) ?_ | refine eq_f (by omega) ?_ | refine ne_t (by omega) ?_ | refine ne_f (by omega) ?_ | refine lt_t (by omega) ?_ | refine lt_f (by omega) ?_ | refine gt_t (by omega) ?_ | refine gt_f (by omega) ?_ | refine ge_t (by omega) ?_ | refine ge_f (by omega) ?_ | refine le_t (by omega) ?_ | refine le_f (by omega) ?_)
        obtain ⟨j, hj, hj2, hj3, _⟩ := rcs_setOn x c c.over 0
        rw [hj2]
        refine ixA_at hj ?_
        refine ld1_at h5 0 rfl hj3 ?_
        refine gt_c (fun c5 => iff_t (h150 hne c5 _ hS.drew)) (fun c5 => iff_f ?_)
        replace h0 := h0 hne c5
        refine ncP_p (fld_at (ld1_at h5 0 rfl (v := x.vr) rfl ?_))
        refine st_own h5 3 rfl (fun _ => rfl) (by rw [hx.lr]; exact hi) (x := true) rfl (bl_flat true) fun w6 h6 => ?_
        refine ncP_p (fld_at (ld1_at h6 0 rfl (v := .int .i64 c.least) rfl ?_))
        refine min_s ?_
        refine ncP_p (fld_at ?_)
        refine stN_at h6 0 rfl (vs := [.int .i64 (min c.least t)]) rfl rfl (by rw [rcs_len]; decide) (by simp [flat]) (cs' := rcs { x with rl := x.rl.set i true } (c.rep1 i t)) rfl fun w7 h7 => ?_
        obtain ⟨hn, inv, lc, lt, lr, hc, ht', hr, ho⟩ := hx
        obtain ⟨i0, i1, i2, i3, i4⟩ := inv
        have hx1 : RelC n (c.rep1 i t) { x with rl := x.rl.set i true } := by
          refine ⟨hn, ⟨i0, i1, i2, i3, fun k hk => ?_⟩, lc, lt, by simpa using lr, hc, ht', fun hu k hk => ?_, ho⟩
          · show 0 ≤ updF c.Rp i c.begun k ∧ updF c.Rp i c.begun k ≤ _
            by_cases hki : k = i
            · subst hki; rw [updF_eq]; exact ⟨by omega, Int.le_refl _⟩
            · rw [updF_ne _ _ hki]; exact i4 k hk
          · show (x.rl.set i true)[k]? = some (decide (updF c.Rp i c.begun k = c.begun))
            rw [set_get (by omega)]
            by_cases hki : k = i
            · subst hki; rw [updF_eq, if_pos rfl]; simp
            · rw [updF_ne _ _ hki, if_neg hki]; exact hr hu k hk
        replace h7 : Sat e w7 (blk g 42 (rcs { x with rl := x.rl.set i true } (c.rep1 i t)) :: ownS 3 1 (intsK .i64) x.vc x.cl :: ownS 4 1 bl x.vt x.tl :: ownS 4 1 bl x.vr (x.rl.set i true) :: R) := h7
        refine ncP_p (fld_at (ld1_at h7 0 rfl (v := x.vr) rfl ?_))
        refine ref16_all_s (h7.pick 3 rfl) (fun g hg => own_rd hg) (by rw [List.length_set, lr]; omega) ?_
        rw [all_rel (c := c.rep1 i t) (fun _ r => decide (r = c.begun)) hn (by simpa using lr) (hx1.hr hu)]
        refine J0.cut (fun w => Sat e w (IsRC g n (c.rep1 i t).rep2 :: R)) (fun k1 hcut => ?_) (fun w h => h0 _ h)
        cases hb : (c.rep1 i t).all (fun _ r => decide (r = c.begun)) with
        | false =>
          refine iff_f (hcut _ ?_)
          have : (c.rep1 i t).rep2 = c.rep1 i t := if_neg (by show ¬ (c.rep1 i t).all (fun _ r => decide (r = c.begun)) = true; rw [hb]; decide)
          rw [this]
          exact mk_rc hx1 h7
        | true =>
          have : (c.rep1 i t).rep2 = { c.rep1 i t with over := c.begun, value := max c.value (min c.least t) } := if_pos hb
          rw [this] at hcut
          refine iff_t (ncP_p (fld_at ?_))
          refine stN_at h7 0 rfl (vs := [.bool false]) rfl rfl (by rw [rcs_len]; decide) (by simp [flat]) rfl fun w8 h8 => ?_
          have h9 := h8.drew
          refine ncP_p (fld_at (ld1_at h9 0 rfl (v := .int .i64 c.value) rfl ?_))
          refine ncP_p (fld_at (ld1_at h9 0 rfl (v := .int .i64 (min c.least t)) rfl ?_))
          refine max_s ?_
          refine ncP_p (fld_at ?_)
          refine stN_at h9 0 rfl (vs := [.int .i64 (max c.value (min c.least t))]) rfl rfl (Nat.le_of_ble_eq_true rfl) (by simp [flat]) rfl fun w10 h10 => ?_
          refine ncP_p (fld_at (ld1_at h10 0 rfl (v := .int .i64 c.over) rfl ?_))
          refine add_s (by omega) (by omega) ?_
          refine ncP_p (fld_at ?_)
          refine stN_at h10 0 rfl (vs := [.int .i64 (c.over + 1)]) rfl rfl (Nat.le_of_ble_eq_true rfl) (by simp [flat]) rfl fun w11 h11 => ?_
          have hbo : c.begun = c.over + 1 := by omega
          have hno : ¬ (CutS.over { c.rep1 i t with over := c.begun, value := max c.value (min c.least t) }) < CutS.begun { c.rep1 i t with over := c.begun, value := max c.value (min c.least t) } := Int.lt_irrefl _
          refine hcut _ (mk_rc (x := { x with rl := x.rl.set i true }) ?_ ?_)
          · refine ⟨hn, ⟨by show 0 ≤ c.begun; omega, Int.le_refl _, by show c.begun ≤ c.begun + 1; omega, fun k hk => ?_, hx1.inv.hR⟩, lc, lt, hx1.lr, hc, fun h => absurd h hno, fun h => absurd h hno, fun h => absurd h hno⟩
            have := (CutS.all_iff hn _).1 ha k hk
            have := of_decide_eq_true this
            exact ⟨Int.le_of_eq this.symm, Int.le_of_eq this⟩
          · have e1 : rcs { x with rl := x.rl.set i true } { c.rep1 i t with over := c.begun, value := max c.value (min c.least t) } = [x.vc, x.vt, x.vr, .int .i64 c.on0, .int .i64 c.on1, .bool false, .int .i64 x.old, .int .i64 (min c.least t), .int .i64 (max c.value (min c.least t)), .int .i64 (c.over + 1)] := by
              unfold rcs
              rw [decide_eq_false hno]
              show [x.vc, x.vt, x.vr, .int .i64 c.on0, .int .i64 c.on1, .bool false, .int .i64 x.old, .int .i64 (min c.least t), .int .i64 (max c.value (min c.least t)), .int .i64 c.begun] = _
              rw [hbo]
            rw [e1]
            exact h11
  · rw [decide_eq_false hu]
    repeat (first | refine gd_tt ?_ | refine gd_ff ?_ | refine gd_tf ?_ | refine gd_ft ?_ | refine gd_u ?_ | refine pk_t ?_ | refine pk_f ?_ | refine iff_t ?_ | refine iff_f ?_ | refine not_t ?_ | refine not_f ?_ | refine beq_s ?_ | refine bne_s ?_ | refine ncP_p ?_ | refine nc_p ?_ | refine fld_at ?_ | refine xt_02 ?_ | refine xt_12 ?_ | refine xt_03 ?_ | refine xt_13 ?_ | refine xt_23 ?_ | refine eq_t (by omega) ?_ | refine eq_f (by omega) ?_ | refine ne_t (by omega) ?_ | refine ne_f (by omega) ?_ | refine lt_t (by omega) ?_ | refine lt_f (by omega) ?_ | refine gt_t (by omega) ?_ | refine gt_f (by omega) ?_ | refine ge_t (by omega) ?_ | refine ge_f (by omega) ?_ | refine le_t (by omega) ?_ | refine le_f (by omega) ?_)
    exact h130 (.inl hu) _ hS
end Go.Proofs.Ytdiglafiimnfoaa
