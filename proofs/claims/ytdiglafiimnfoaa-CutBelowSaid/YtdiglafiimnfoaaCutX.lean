/- The law CutBelow. Conditions: none. -/
import Derived.Test.YtdiglafiimnfoaaCutV
import Derived.Test.YtdiglafiimnfoaaEngQ
namespace Go.Proofs.Ytdiglafiimnfoaa
open Go Go.E
set_option maxRecDepth 100000
variable {e w : World} {R : List HP} {K : KV}

structure CutAct where
  Kind : Int
  A : Int
  B : Int
  Later : Int
def CutAct.cs (s : CutAct) : List Value := [.int .i64 s.Kind, .int .i64 s.A, .int .i64 s.B, .int .u8 s.Later]
def CutAct.wf (s : CutAct) : Prop := In64 s.A ∧ In64 s.B ∧ 0 ≤ s.Later ∧ s.Later ≤ 255
def CutAct.of (l : List Value) : CutAct := ⟨iOf (l.getD 0 undef), iOf (l.getD 1 undef), iOf (l.getD 2 undef), iOf (l.getD 3 undef)⟩
theorem CutAct.of_cs {l : List Value} (h : Fits [.i64, .i64, .i64, .u8] l) : (CutAct.of l).cs = l ∧ (CutAct.of l).wf := by
  obtain ⟨a, b, c, d, rfl⟩ : ∃ a b c d, l = [a, b, c, d] := by
    have hl := h.len
    match l, hl with
    | [a, b, c, d], _ => exact ⟨a, b, c, d, rfl⟩
  obtain ⟨h1, h2, h3, h4, _⟩ := h
  obtain ⟨a, rfl, ha⟩ := h1
  obtain ⟨b, rfl, hb⟩ := h2
  obtain ⟨c, rfl, hc⟩ := h3
  obtain ⟨d, rfl, hd⟩ := h4
  exact ⟨rfl, In64.of_wf hb, In64.of_wf hc, (wfU8 hd).1, (wfU8 hd).2⟩
theorem act_flat (s : CutAct) : ∀ v ∈ s.cs, flat v = true := by
  intro v hv
  simp only [CutAct.cs, List.mem_cons, List.not_mem_nil, or_false] at hv
  rcases hv with rfl | rfl | rfl | rfl <;> rfl
theorem tmod_in {A : Int} {k : Nat} (hk : 0 < k) : -(k : Int) < A.tmod k ∧ A.tmod k < k :=
  ⟨Int.lt_tmod_of_pos A (by omega), Int.tmod_lt_of_pos A (by omega)⟩
theorem part_in {A : Int} {k : Nat} (hk : 0 < k) : ∃ a : Nat, (A.tmod k + k).tmod k = a ∧ a < k := by
  have h := tmod_in (A := A) hk
  have h1 : 0 ≤ (A.tmod k + k).tmod k := Int.tmod_nonneg _ (by omega)
  have h2 : (A.tmod k + k).tmod k < k := Int.tmod_lt_of_pos _ (by omega)
  exact ⟨((A.tmod k + k).tmod k).toNat, by omega, by omega⟩
theorem low_on {k j : Nat} {c : CutS} (h : CutLow k j c) (hj : j ≤ 300) : ∀ q, -1000000 ≤ c.on q ∧ c.on q ≤ 1000000 := fun q => by have := h.ho q; omega
theorem validT_low {x : Int} {j : Nat} (h : 0 ≤ x ∧ x ≤ 255 * j) (hj : j ≤ 1000) : validT x = true := by
  simp only [validT, decide_eq_true_eq]
  unfold MaxT
  omega

theorem cutBelow_s {n : Int} {v : Value} {l : List CutAct} {S : HP} (hS : Sat e w (S :: R)) (hnw : (Lit.int .u8 n).wf = true) (hr : ∀ g, S g → rdS 4 CutAct.cs v l g) (hw : ∀ x ∈ l, x.wf)
    (hk : ∀ w', Sat e w' (S :: R) → K (.bool true) w') : Cl prog 4 #[.int .u8 n, v] w K := by
  have bn := wfU8 hnw
  refine pacelinelaw16_CutBelow_calls ?_
  unfold pacelinelaw16_CutBelow
  refine lnS_rd hS 0 rfl hr ?_
  refine gt_c (fun c1 => iff_t (hk _ hS)) (fun c1 => iff_f ?_)
  refine cv_s ?_
  rw [wrap_i64 (by omega) (by omega)]
  refine rem_s (by decide) ?_
  rw [Int.tmod_eq_emod_of_nonneg (by omega)]
  refine add_s (by omega) (by omega) ?_
  obtain ⟨k, hkk⟩ : ∃ k : Nat, 1 + n % 8 = (k : Int) := ⟨(1 + n % 8).toNat, by omega⟩
  have hk1 : 1 ≤ k := by omega
  have hk8 : k ≤ 8 := by omega
  rw [hkk]
  refine cut_New_s (by omega) (by omega) hS fun g v1 h1 => ?_
  refine xt_02 (xt_12 (ne_f rfl (gd_ff (gd_ff (bnp_s _ (pk_f (iff_f ?_)))))))
  refine mkS_own te_38 (by omega) h1 (intsK .i64) (fun _ => rfl) 0 (by rw [zero_3]; rfl) fun va v2 h2 => ?_
  refine bsl0 h2 Heldm.cs fun vo v3 h3 => ?_
  have b0 : BInv k 0 (CutS.zero k) (List.replicate k 0) [] := by
    refine ⟨⟨rfl, ⟨Int.le_refl _, Int.le_refl _⟩, fun q => by unfold CutS.on; split <;> exact ⟨Int.le_refl _, Int.le_refl _⟩⟩, ⟨Int.le_refl _, Int.le_refl _, (by decide : (0 : Int) ≤ 0 + 1), fun _ _ => ⟨Int.le_refl _, Int.le_refl _⟩, fun _ _ => ⟨Int.le_refl _, Int.le_refl _⟩⟩, List.length_replicate, ?_, (fun _ h => by cases h), (fun _ h => by cases h), fun i x hx => ?_, (fun _ _ h => by cases h), (fun h => absurd h (Int.lt_irrefl _)), (fun h => absurd h (Int.lt_irrefl _)), (fun h => absurd h (Int.lt_irrefl _))⟩
    · intro q _
      unfold CutS.on
      split <;> rfl
    · rw [List.getElem?_replicate] at hx
      split at hx
      · cases hx; exact ⟨Int.le_refl _, Int.le_refl _, Int.le_refl _⟩
      · cases hx
  refine lpi3 (fun m t9 t10 t11 w => ∃ (j : Nat) (c : CutS) (a : List Int) (on : List Heldm), j ≤ l.length ∧ t10 = .int .i64 c.value ∧ t11 = .int .i64 j ∧ m = l.length - j ∧ BInv k j c a on ∧ on.length ≤ j ∧
      Sat e w (IsCut g c :: ownS 3 1 (intsK .i64) va a :: ownS 51 3 Heldm.cs t9 on :: S :: R)) l.length
    ⟨0, CutS.zero k, List.replicate k 0, [], Nat.zero_le _, rfl, rfl, rfl, b0, Nat.le_refl _, h3.selR [_, _, _] [_, _, _] [2, 1, 0] (by decide) rfl⟩ ?_
  rintro m vo _ _ w g1 ⟨j, c, a, on, hj, rfl, rfl, rfl, hB, hol, h4⟩ hg
  refine lnS_rd h4 3 rfl hr ?_
  refine lt_c (fun c2 => iff_t ?_) (fun c2 => iff_f ?_)
  · obtain ⟨s, hs⟩ := get_of_lt (l := l) (j := j) (by omega)
    obtain ⟨hAw, hBw, hL1, hL2⟩ := hw s (List.mem_of_getElem? hs)
    have hkn := hB.low.hn
    refine ixS_rd h4 3 rfl hr (fun _ => rfl) hs fun p hp => ?_
    refine ldN_of h4 3 rfl hp rfl ?_
    rw [zero_49]
    refine al_s (cs := CutAct.cs ⟨0, 0, 0, 0⟩) h4 rfl fun b w4 h5 => ?_
    refine stN_at h5 0 rfl (vs := s.cs) rfl rfl (Nat.le_of_ble_eq_true rfl) (act_flat s) (cs' := s.cs) (by kernel_rfl) fun w5 h6 => ?_
    replace h6 : Sat e w5 (IsCut g c :: ownS 3 1 (intsK .i64) va a :: ownS 51 3 Heldm.cs vo on :: blk b 49 s.cs :: S :: R) := h6.selR [_, _, _, _] [_, _, _, _] [1, 2, 3, 0] (by decide) rfl
    have tA := tmod_in (A := s.A) (k := k) (by omega)
    have tB := tmod_in (A := s.B) (k := k) (by omega)
    obtain ⟨pa, ea, hpa⟩ := part_in (A := s.A) (k := k) (by omega)
    obtain ⟨pb, eb, hpb⟩ := part_in (A := s.B) (k := k) (by omega)
    refine fld_at (ld1_at h6 3 rfl (v := .int .i64 s.A) rfl ?_)
    refine rem_s (by omega) (add_s (by omega) (by omega) (rem_s (by omega) ?_))
    rw [ea]
    refine fld_at (ld1_at h6 3 rfl (v := .int .i64 s.B) rfl ?_)
    refine rem_s (by omega) (add_s (by omega) (by omega) (rem_s (by omega) ?_))
    rw [eb]
    refine cut_Rounds_s h6 ?_
    refine fld_at (ld1_at h6 3 rfl (v := .int .i64 s.Kind) rfl ?_)
    obtain ⟨xa, hxa⟩ := get_of_lt (l := a) (j := pa) (by rw [hB.al]; exact hpa)
    obtain ⟨xb, hxb⟩ := get_of_lt (l := a) (j := pb) (by rw [hB.al]; exact hpb)
    have hxa2 := hB.hat pa xa hxa
    have hxb2 := hB.hat pb xb hxb
    refine J1.cut (fun t9 w => ∃ (c' : CutS) (a : List Int) (on : List Heldm), BInv k (j + 1) c' a on ∧ Up c c' ∧ on.length ≤ j + 1 ∧
      Sat e w (IsCut g c' :: ownS 3 1 (intsK .i64) va a :: ownS 51 3 Heldm.cs t9 on :: blk b 49 s.cs :: S :: R)) (fun k2 hcut => ?_) ?_
    · refine eq_c (fun c3 => iff_t ?_) (fun c3 => iff_f ?_)
      · refine dr_s h6 fun w6 h7 => ?_
        refine ixS_rd h7 1 rfl (fun g hg => own_rd hg) (fun _ => rfl) hxa fun p hp => ?_
        refine ld1_of h7 1 rfl hp rfl ?_
        refine fld_at (ld1_at h7 3 rfl (v := .int .u8 s.Later) rfl ?_)
        refine cv_s ?_
        rw [wrap_i64 (by omega) (by omega)]
        refine add_s (by omega) (by omega) ?_
        refine cut_Sent_s (by omega) (by omega) (by unfold In64; omega) (validT_low (j := j + 1) (by omega) (by omega)) (low_on hB.low (by omega)) h7 fun w7 h8 => ?_
        refine xt_02 (xt_12 (ne_f rfl (gd_ff (gd_ff (gd_ff ?_)))))
        have hS' := hB.sent (i := pa) (b := (pb : Int)) hpa hxa ⟨hL1, hL2⟩
        have hcol : (c.sent pa (xa + s.Later)).T = c.T := by
          unfold CutS.sent
          split
          · exact CutS.setOn_T _ _ _
          · exact CutS.setOn_T _ _ _
        refine gd_ff (cut_Colour_s (by omega) (by rw [hS'.low.hn]; omega) h8 ?_)
        rw [hcol]
        refine gd_ff (ne_f rfl (pk_f (iff_f ?_)))
        refine bld_s (Heldm.cs ⟨pb, xa + s.Later, c.T pa % 2⟩) (by kernel_rfl) ?_
        refine push1 te_47 (f := Heldm.cs) (fun _ => rfl) (fun _ => ints_flat _) (h8.pick 2 rfl) (x := ⟨pb, xa + s.Later, c.T pa % 2⟩) rfl (by omega) fun v' w8 h9 => ?_
        exact hcut _ _ ⟨_, _, _, hS', Up.sent _ _ _, by rw [List.length_append]; simp; omega, h9.selR [_, _, _, _] [_, _, _, _] [1, 2, 0, 3] (by decide) rfl⟩
      refine eq_c (fun c4 => iff_t ?_) (fun c4 => iff_f ?_)
      · refine lpi1 (fun m t19 w' => ∃ i : Nat, i ≤ on.length ∧ t19 = .int .i64 i ∧ m = on.length - i ∧ w' = w5) on.length ⟨0, Nat.zero_le _, rfl, rfl, rfl⟩ ?_
        rintro m _ _ g5 ⟨i, hi, rfl, rfl, rfl⟩ hg5
        refine lnS_rd h6 2 rfl (fun g hg => own_rd hg) ?_
        refine lt_c (fun q1 => ?_) (fun q1 => ?_)
        · obtain ⟨y, hy⟩ := get_of_lt (l := on) (j := i) (by omega)
          refine gd_tt (gd_tt (gd_tt ?_))
          refine ixS_rd h6 2 rfl (fun g hg => own_rd hg) (fun _ => rfl) hy fun p hp => ?_
          refine gd_tt (fld_of hp fun p1 hp1 => ?_)
          refine gd_tt (ld1_of h6 2 rfl hp1 rfl (gd_tt (gd_tt ?_)))
          refine ne_c (fun q2 => pk_t (iff_t ?_)) (fun q2 => pk_t (iff_f ?_))
          · refine inc_s (by omega) ?_
            exact hg5 _ _ _ (by omega) ⟨i + 1, by omega, rfl, rfl, rfl⟩
          · refine lnS_rd h6 2 rfl (fun g hg => own_rd hg) ?_
            refine lt_t q1 (iff_t ?_)
            refine ixS_rd h6 2 rfl (fun g hg => own_rd hg) (fun _ => rfl) hy fun p hp => ?_
            refine fld_of hp fun p1 hp1 => ?_
            refine ld1_of (v := .int .i64 y.colour) h6 2 rfl hp1 rfl ?_
            have hsplit : on = on.take i ++ y :: on.drop (i + 1) := by
              obtain ⟨hil, he⟩ := List.getElem?_eq_some_iff.1 hy
              rw [← he, ← List.drop_eq_getElem_cons, List.take_append_drop]
            have hB1 : BInv k j c a (on.take i ++ y :: on.drop (i + 1)) := by rw [← hsplit]; exact hB
            obtain ⟨e1, hB2⟩ := hB1.got (b := pb) hxb
            refine cut_Got_s (by omega) (low_on hB.low (by omega)) h6 fun w6 h7 => ?_
            rw [e1]
            refine ne_f rfl (iff_f ?_)
            refine dr_s h7 fun w7 h8 => ?_
            refine ixS_rd h8 1 rfl (fun g hg => own_rd hg) (fun _ => rfl) hxb fun p hp => ?_
            refine ld1_of h8 1 rfl hp rfl ?_
            refine ixS_rd h8 2 rfl (fun g hg => own_rd hg) (fun _ => rfl) hy fun p hp => ?_
            refine fld_of hp fun p1 hp1 => ?_
            refine ld1_of (v := .int .i64 y.t) h8 2 rfl hp1 rfl ?_
            refine min_s ?_
            refine st_own' h8 1 rfl (fun _ => rfl) (by rw [hB.al]; exact hpb) (x := min xb y.t) rfl (intsK_flat _) fun w8 h9 => ?_
            refine bsl0 h9 Heldm.cs fun v1 w9 h10 => ?_
            replace h10 : Sat e w9 (ownS 51 3 Heldm.cs v1 [] :: ownS 51 3 Heldm.cs vo on :: IsCut g (c.got y.colour) :: ownS 3 1 (intsK .i64) va (a.set pb (min xb y.t)) :: blk b 49 s.cs :: S :: R) :=
              h10.selR [_, _, _, _] [_, _, _, _] [0, 3, 1, 2] (by decide) rfl
            refine slc_to h10 1 rfl (fun g hg => own_rd hg) (fun _ => rfl) hi fun v2 hv2 => ?_
            refine apS_own te_47 und_47 (f := Heldm.cs) (fun _ => rfl) (fun _ => ints_flat _) h10 hv2 (by rw [List.length_take]; simp; omega) fun v3 w10 h11 => ?_
            refine inc_s (by omega) ?_
            refine slc_from h11 1 rfl (fun g hg => own_rd hg) (fun _ => rfl) (lo := i + 1) (by omega) fun v4 hv4 => ?_
            refine apS_own te_47 und_47 (f := Heldm.cs) (fun _ => rfl) (fun _ => ints_flat _) h11 hv4 (by rw [List.length_append, List.length_take, List.length_drop]; simp; omega) fun v5 w11 h12 => ?_
            rw [List.nil_append] at h12
            exact hcut _ _ ⟨_, _, _, hB2, Up.got _ _, by rw [List.length_append, List.length_take, List.length_drop]; omega, h12.selR [_, _, _, _, _] [_, _, _, _] [2, 3, 0, 4] (by decide) rfl⟩
        · refine gd_ft (gd_ft (gd_ft (gd_ft (gd_ft (gd_ft (gd_ft (pk_f (iff_f ?_))))))))
          refine lnS_rd h6 2 rfl (fun g hg => own_rd hg) ?_
          refine lt_f q1 (iff_f ?_)
          exact hcut _ _ ⟨_, _, _, hB.next, Up.rfl' _, by omega, h6⟩
      refine eq_c (fun c5 => iff_t ?_) (fun c5 => iff_f ?_)
      · refine dr_s h6 fun w6 h7 => ?_
        refine ixS_rd h7 1 rfl (fun g hg => own_rd hg) (fun _ => rfl) hxa fun p hp => ?_
        refine ld1_of h7 1 rfl hp rfl ?_
        refine fld_at (ld1_at h7 3 rfl (v := .int .u8 s.Later) rfl ?_)
        refine cv_s ?_
        rw [wrap_i64 (by omega) (by omega)]
        refine add_s (by omega) (by omega) ?_
        refine st_own' h7 1 rfl (fun _ => rfl) (by rw [hB.al]; exact hpa) (x := xa + s.Later) rfl (intsK_flat _) fun w8 h8 => ?_
        exact hcut _ _ ⟨_, _, _, hB.go hxa ⟨hL1, hL2⟩, Up.rfl' _, by omega, h8⟩
      refine eq_c (fun c6 => iff_t ?_) (fun c6 => iff_f ?_)
      · have := hB.low.hb
        refine cut_Begin_s (by omega) h6 fun w6 h7 => ?_
        exact hcut _ _ ⟨_, _, _, hB.begin', Up.begin' _, by omega, h7⟩
      refine eq_c (fun c7 => iff_t ?_) (fun c7 => iff_f ?_)
      · refine cut_Turn_s (by omega) (by omega) h6 fun w6 h7 => ?_
        exact hcut _ _ ⟨_, _, _, hB.turn hpa, Up.turn _ _, by omega, h7⟩
      refine eq_c (fun c8 => iff_t ?_) (fun c8 => iff_f ?_)
      · refine ixS_rd h6 1 rfl (fun g hg => own_rd hg) (fun _ => rfl) hxa fun p hp => ?_
        refine ld1_of h6 1 rfl hp rfl ?_
        refine cut_Report_s (by omega) (by omega) (by omega) (by unfold In64; omega) (validT_low (j := j) ⟨hxa2.2.1, hxa2.2.2⟩ (by omega)) h6 (fun _ w7 h7 => ?_) (fun _ _ w7 h7 => ?_) (fun he ho w7 h7 => ?_)
        · exact hcut _ _ ⟨_, _, _, hB.next, Up.rfl' _, by omega, h7⟩
        · exact hcut _ _ ⟨_, _, _, hB.next, Up.rfl' _, by omega, h7⟩
        · exact hcut _ _ ⟨_, _, _, hB.report hpa hxa he ho, Up.rep he, by omega, h7⟩
      · exact hcut _ _ ⟨_, _, _, hB.next, Up.rfl' _, by omega, h6⟩
    · rintro vo' w6 ⟨c', a', on', hB', hup, hol', h7⟩
      have hrest : lp [.int .i64 0] w6 (b1 fun t22 w g3 =>
          bi .lss .i64 t22 (.int .i64 k) w fun t211 w =>
          iff' t211
          (ixS 1 va t22 w fun t216 w =>
          ld1 t216 w fun t217 w =>
          bi .lss .i64 t217 (.int .i64 c'.value) w fun t219 w =>
          iff' t219
          (K (Value.bool false) w)
          (bi .add .i64 t22 (Value.int IntKind.i64 1) w fun t213 w =>
          g3 [t213] w))
          (lp [(Value.int IntKind.i64 0)] w (b1 fun t23 w g4 =>
          lnS vo' w fun t222 w =>
          bi .lss .i64 t23 t222 w fun t223 w =>
          iff' t223
          (ixS 3 vo' t23 w fun t228 w =>
          fld 1 t228 w fun t229 w =>
          ld1 t229 w fun t230 w =>
          bi .lss .i64 t230 (.int .i64 c'.value) w fun t232 w =>
          iff' t232
          (K (Value.bool false) w)
          (bi .add .i64 t23 (Value.int IntKind.i64 1) w fun t225 w =>
          g4 [t225] w))
          (bi .add .i64 (.int .i64 j) (Value.int IntKind.i64 1) w fun t50 w =>
          g1 [vo', .int .i64 c'.value, t50] w)))) := by
        refine lpi1 (fun m t22 w' => ∃ i : Nat, i ≤ k ∧ t22 = .int .i64 i ∧ m = k - i ∧ w' = w6) k ⟨0, Nat.zero_le _, rfl, rfl, rfl⟩ ?_
        rintro m _ w6 g3 ⟨i, hi, rfl, rfl, rfl⟩ hg3
        refine lt_c (fun q1 => iff_t ?_) (fun q1 => iff_f ?_)
        · obtain ⟨x, hx⟩ := get_of_lt (l := a') (j := i) (by rw [hB'.al]; omega)
          have := hB'.hat i x hx
          refine ixS_rd h7 1 rfl (fun g hg => own_rd hg) (fun _ => rfl) hx fun p hp => ?_
          refine ld1_of h7 1 rfl hp rfl ?_
          refine lt_f (by omega) (iff_f (inc_s (by omega) ?_))
          exact hg3 _ _ _ (by omega) ⟨i + 1, by omega, rfl, rfl, rfl⟩
        · refine lpi1 (fun m t23 w' => ∃ i : Nat, i ≤ on'.length ∧ t23 = .int .i64 i ∧ m = on'.length - i ∧ w' = w6) on'.length ⟨0, Nat.zero_le _, rfl, rfl, rfl⟩ ?_
          rintro m _ w6 g4 ⟨z, hz, rfl, rfl, rfl⟩ hg4
          refine lnS_rd h7 2 rfl (fun g hg => own_rd hg) ?_
          refine lt_c (fun q2 => iff_t ?_) (fun q2 => iff_f ?_)
          · obtain ⟨y, hy⟩ := get_of_lt (l := on') (j := z) (by omega)
            have := hB'.hon y (List.mem_of_getElem? hy)
            refine ixS_rd h7 2 rfl (fun g hg => own_rd hg) (fun _ => rfl) hy fun p hp => ?_
            refine fld_of hp fun p1 hp1 => ?_
            refine ld1_of (v := .int .i64 y.t) h7 2 rfl hp1 rfl ?_
            refine lt_f (by omega) (iff_f (inc_s (by omega) ?_))
            exact hg4 _ _ _ (by omega) ⟨z + 1, by omega, rfl, rfl, rfl⟩
          · refine inc_s (by omega) ?_
            exact hg _ _ _ _ _ (by omega) ⟨j + 1, c', a', on', by omega, rfl, rfl, rfl, hB', hol', h7.selR [_, _, _, _] [_, _, _] [0, 1, 2] (by decide) rfl⟩
      obtain ⟨u1, u2⟩ := hup
      refine cut_Value_s h7 ?_
      refine lt_f (by omega) (gd_ff (gd_ff (gd_ff ?_)))
      refine gt_c (fun q1 => ?_) (fun q1 => ?_)
      · refine gd_ff (gd_tt (gd_tt (cut_Rounds_s h7 ?_)))
        refine gd_tt (gd_tt (eq_f (fun e => u2 q1 e.symm) (gd_ff (pk_t (pk_f (iff_f ?_))))))
        exact hrest
      · refine gd_ff (gd_ft (gd_ft (gd_ft (gd_ft (gd_ff (pk_f (pk_f (iff_f ?_))))))))
        exact hrest
  · have hkn := hB.low.hn
    refine cut_Turn_bad (by omega) h4 (eq_t rfl (hk _ (h4.drop.drop.drop)))
end Go.Proofs.Ytdiglafiimnfoaa
