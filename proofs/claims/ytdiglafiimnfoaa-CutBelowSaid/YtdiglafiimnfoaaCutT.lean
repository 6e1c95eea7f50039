/- The law CutScript. Conditions: none. -/
import Derived.Test.YtdiglafiimnfoaaCutR
namespace Go.Proofs.Ytdiglafiimnfoaa
open Go Go.E
set_option maxRecDepth 100000
variable {e w : World} {R : List HP} {K : KV}

structure CutSt where
  Kind : Int
  A : Int
  B : Int
def CutSt.ns (s : CutSt) : List Int := [s.Kind, s.A, s.B]
abbrev CutSt.cs (s : CutSt) : List Value := ints s.ns
def CutSt.of (l : List Int) : CutSt := ⟨l.getD 0 0, l.getD 1 0, l.getD 2 0⟩
theorem CutSt.of_ns {l : List Int} (h : l.length = 3) : (CutSt.of l).ns = l := by
  match l, h with
  | [_, _, _], _ => rfl
theorem CutSt.of_cs {l : List Int} (h : l.length = 3) : (CutSt.of l).cs = ints l := congrArg ints (CutSt.of_ns h)

/-- The numbers of a cut behind j steps are small. -/
structure CutLow (n j : Nat) (c : CutS) : Prop where
  hn : c.n = n
  hb : 0 ≤ c.begun ∧ c.begun ≤ j
  ho : ∀ k, -(j : Int) ≤ c.on k ∧ c.on k ≤ j
theorem CutLow.next {n j : Nat} {c : CutS} (h : CutLow n j c) : CutLow n (j + 1) c :=
  ⟨h.hn, by have := h.hb; omega, fun k => by have := h.ho k; omega⟩
theorem CutS.on_setOn (c : CutS) (k x : Int) (m : Int) : (c.setOn k x).on m = x ∨ (c.setOn k x).on m = c.on m := by
  unfold CutS.setOn CutS.on
  by_cases h1 : k = 0 <;> by_cases h2 : m = 0 <;> simp [h1, h2]
theorem CutLow.setOn {n j : Nat} {c : CutS} {k x : Int} (h : CutLow n j c) (hx : -((j : Int) + 1) ≤ x ∧ x ≤ (j : Int) + 1) : CutLow n (j + 1) (c.setOn k x) := by
  refine ⟨by rw [CutS.setOn_n]; exact h.hn, by rw [CutS.setOn_begun]; have := h.hb; omega, fun m => ?_⟩
  have := h.ho m
  rcases CutS.on_setOn c k x m with e | e <;> rw [e] <;> omega
theorem CutLow.sent {n j : Nat} {c : CutS} (h : CutLow n j c) (i : Nat) (t : Int) : CutLow n (j + 1) (c.sent i t) := by
  have h1 := h.ho (c.T i % 2)
  have h2 := h.setOn (k := c.T i % 2) (x := c.on (c.T i % 2) + 1) (by omega)
  unfold CutS.sent
  split
  · exact ⟨h2.hn, h2.hb, h2.ho⟩
  · exact h2
theorem CutLow.got {n j : Nat} {c : CutS} (h : CutLow n j c) (k : Int) : CutLow n (j + 1) (c.got k) := by
  have h1 := h.ho k
  have h2 := h.setOn (k := k) (x := c.on k - 1) (by omega)
  unfold CutS.got
  split
  · exact h.next
  · exact h2
theorem CutLow.turn {n j : Nat} {c : CutS} (h : CutLow n j c) (i : Nat) : CutLow n (j + 1) (c.turn i) := by
  have h1 := h.next
  unfold CutS.turn
  split
  · exact h1
  · exact ⟨h1.hn, h1.hb, h1.ho⟩
theorem CutLow.rep {n j : Nat} {c : CutS} (h : CutLow n j c) (i : Nat) (t : Int) : CutLow n (j + 1) (c.rep1 i t).rep2 := by
  have h1 := h.next
  unfold CutS.rep2
  split
  · exact ⟨h1.hn, h1.hb, h1.ho⟩
  · exact ⟨h1.hn, h1.hb, h1.ho⟩
theorem CutLow.begin' {n j : Nat} {c : CutS} (h : CutLow n j c) : CutLow n (j + 1) (if c.over < c.begun then c else { c with begun := c.begun + 1, least := Inf }) := by
  have h1 := h.next
  split
  · exact h1
  · exact ⟨h1.hn, by have := h.hb; show 0 ≤ c.begun + 1 ∧ c.begun + 1 ≤ ((j + 1 : Nat) : Int); omega, h1.ho⟩

theorem cutScript_s {n : Int} {v : Value} {l : List CutSt} {S : HP} (hS : Sat e w (S :: R)) (_hnw : (Lit.int .i64 n).wf = true) (hr : ∀ g, S g → rdS 3 CutSt.cs v l g) (hw : ∀ x ∈ l, ∀ m ∈ x.ns, (Lit.int .i64 m).wf = true)
    (hk : ∀ w', Sat e w' (S :: R) → K (.bool true) w') : Cl prog 3 #[.int .i64 n, v] w K := by
  refine pacelinelaw16_CutScript_calls ?_
  unfold pacelinelaw16_CutScript
  refine lnS_rd hS 0 rfl hr ?_
  refine gt_c (fun c1 => iff_t (hk _ hS)) (fun c1 => iff_f ?_)
  by_cases hn : n < 1 ∨ 8 < n
  · refine cut_New_bad hn ?_
    refine xt_02 (xt_12 ?_)
    refine ref16_New_bad hn ?_
    refine xt_02 (xt_12 ?_)
    refine ne_f rfl (gd_ff (gd_ff (bnp_n (gd_ff (gd_ff (bnp_n (gd_ff (bne_s (pk_f (iff_f ?_))))))))))
    refine bnp_n (iff_t (eq_t rfl (hk _ hS)))
  obtain ⟨n, rfl⟩ : ∃ m : Nat, n = m := ⟨n.toNat, by omega⟩
  have hn1 : 1 ≤ n := by omega
  have hn8 : n ≤ 8 := by omega
  refine cut_New_s (by omega) (by omega) hS fun g w1 h1 => ?_
  refine xt_02 (xt_12 ?_)
  refine ref16_New_s hn1 hn8 h1 fun g' w2 h2 => ?_
  refine xt_02 (xt_12 ?_)
  refine ne_f rfl (gd_ff (gd_ff (bnp_s _ (gd_ff (gd_ff (bnp_s _ (gd_ff (bne_s (pk_f (iff_f ?_))))))))))
  refine bnp_s _ (iff_f ?_)
  refine lpi1 (fun m t9 w => ∃ (j : Nat) (c : CutS), j ≤ l.length ∧ t9 = .int .i64 j ∧ m = l.length - j ∧ CutLow n j c ∧ Sat e w (IsCut g c :: IsRC g' n c :: S :: R)) l.length
    ⟨0, CutS.zero n, Nat.zero_le _, rfl, rfl, ⟨rfl, ⟨Int.le_refl _, Int.le_refl _⟩, fun k => by unfold CutS.on; split <;> exact ⟨Int.le_refl _, Int.le_refl _⟩⟩, h2.swap⟩ ?_
  rintro m _ w g1 ⟨j, c, hj, rfl, rfl, hc, h3⟩ hg
  refine lnS_rd h3 2 rfl hr ?_
  refine lt_c (fun c2 => iff_t ?_) (fun c2 => iff_f ?_)
  · obtain ⟨s, hs⟩ := get_of_lt (l := l) (j := j) (by omega)
    have hsw := hw s (List.mem_of_getElem? hs)
    have hAw : In64 s.A := In64.of_wf (hsw _ (by simp [CutSt.ns]))
    have hBw : In64 s.B := In64.of_wf (hsw _ (by simp [CutSt.ns]))
    have hcn := hc.hn
    have hcb := hc.hb
    have hon : ∀ k, -1000000 ≤ c.on k ∧ c.on k ≤ 1000000 := fun k => by have := hc.ho k; omega
    refine ixS_rd h3 2 rfl hr (fun _ => rfl) hs fun a ha => ?_
    refine ldN_of h3 2 rfl ha rfl ?_
    rw [zero_31]
    refine al_s (cs := ints [0, 0, 0]) h3 rfl fun b w4 h4 => ?_
    refine stN_at h4 0 rfl (vs := s.cs) rfl rfl (by decide) (ints_flat _) (cs' := s.cs) (by kernel_rfl) fun w5 h5 => ?_
    replace h5 : Sat e w5 (IsCut g c :: IsRC g' n c :: blk b 31 s.cs :: S :: R) := h5.selR [_, _, _] [_, _, _] [1, 2, 0] (by decide) rfl
    refine fld_at (ld1_at h5 2 rfl (v := .int .i64 s.Kind) rfl ?_)
    refine J4.cut (fun t11 t12 t13 t14 w => ∃ (x y : Int) (c : CutS), t11 = .int .i64 x ∧ t12 = .int .i64 x ∧ t13 = .int .i64 y ∧ t14 = .int .i64 y ∧ CutLow n (j + 1) c ∧ Sat e w (IsCut g c :: IsRC g' n c :: blk b 31 s.cs :: S :: R)) (fun k2 hcut => ?_) ?_
    · refine eq_c (fun c3 => iff_t ?_) (fun c3 => iff_f ?_)
      · refine cut_Begin_s (by omega) h5 fun w6 h6 => ?_
        refine ref16_Begin_s hn1 hn8 h6.swap fun w7 h7 => ?_
        exact hcut _ _ _ _ _ ⟨_, _, _, rfl, rfl, rfl, rfl, hc.begin', h7.swap⟩
      refine eq_c (fun c4 => iff_t ?_) (fun c4 => iff_f ?_)
      · refine fld_at (ld1_at h5 2 rfl (v := .int .i64 s.A) rfl ?_)
        refine fld_at (ld1_at h5 2 rfl (v := .int .i64 s.B) rfl ?_)
        by_cases hok : (0 ≤ s.A ∧ s.A < n) ∧ validT s.B = true
        · obtain ⟨⟨hA1, hA2⟩, hv⟩ := hok
          obtain ⟨a, haa⟩ : ∃ a : Nat, s.A = a := ⟨s.A.toNat, by omega⟩
          rw [haa]
          refine cut_Sent_s (by omega) (by omega) hBw hv hon h5 fun w6 h6 => ?_
          refine xt_02 (xt_12 ?_)
          refine fld_at (ld1_at h6 2 rfl (v := .int .i64 a) (by rw [← haa]; rfl) ?_)
          refine fld_at (ld1_at h6 2 rfl (v := .int .i64 s.B) rfl ?_)
          refine ref16_Sent_s (by omega) hv hon h6.swap fun w7 h7 => ?_
          refine xt_02 (xt_12 ?_)
          exact hcut _ _ _ _ _ ⟨_, _, _, rfl, rfl, rfl, rfl, hc.sent _ _, h7.swap⟩
        · have hbad1 : ¬ (0 ≤ s.A ∧ s.A < c.n) ∨ validT s.B = false := by
            rw [hcn]
            by_cases h : 0 ≤ s.A ∧ s.A < n
            · right
              cases hv : validT s.B with
              | true => exact absurd ⟨h, hv⟩ hok
              | false => rfl
            · exact .inl h
          refine cut_Sent_bad hBw hbad1 h5 ?_
          refine xt_02 (xt_12 ?_)
          refine fld_at (ld1_at h5 2 rfl (v := .int .i64 s.A) rfl ?_)
          refine fld_at (ld1_at h5 2 rfl (v := .int .i64 s.B) rfl ?_)
          rw [hcn] at hbad1
          refine ref16_Sent_bad hbad1 h5.swap ?_
          refine xt_02 (xt_12 ?_)
          exact hcut _ _ _ _ _ ⟨_, _, _, rfl, rfl, rfl, rfl, hc.next, h5⟩
      refine eq_c (fun c5 => iff_t ?_) (fun c5 => iff_f ?_)
      · refine fld_at (ld1_at h5 2 rfl (v := .int .i64 s.A) rfl ?_)
        refine fld_at (ld1_at h5 2 rfl (v := .int .i64 s.B) rfl ?_)
        by_cases hok : 0 ≤ s.A ∧ s.A < n
        · obtain ⟨hA1, hA2⟩ := hok
          obtain ⟨a, haa⟩ : ∃ a : Nat, s.A = a := ⟨s.A.toNat, by omega⟩
          rw [haa]
          refine cut_Got_s (by omega) hon h5 fun w6 h6 => ?_
          refine fld_at (ld1_at h6 2 rfl (v := .int .i64 a) (by rw [← haa]; rfl) ?_)
          refine fld_at (ld1_at h6 2 rfl (v := .int .i64 s.B) rfl ?_)
          refine ref16_Got_s (by omega) hon h6.swap fun w7 h7 => ?_
          exact hcut _ _ _ _ _ ⟨_, _, _, rfl, rfl, rfl, rfl, hc.got _, h7.swap⟩
        · refine cut_Got_bad (by rw [hcn]; exact hok) h5 ?_
          refine fld_at (ld1_at h5 2 rfl (v := .int .i64 s.A) rfl ?_)
          refine fld_at (ld1_at h5 2 rfl (v := .int .i64 s.B) rfl ?_)
          refine ref16_Got_bad hok h5.swap ?_
          exact hcut _ _ _ _ _ ⟨_, _, _, rfl, rfl, rfl, rfl, hc.next, h5⟩
      refine eq_c (fun c6 => iff_t ?_) (fun c6 => iff_f ?_)
      · refine fld_at (ld1_at h5 2 rfl (v := .int .i64 s.A) rfl ?_)
        by_cases hok : 0 ≤ s.A ∧ s.A < n
        · obtain ⟨hA1, hA2⟩ := hok
          obtain ⟨a, haa⟩ : ∃ a : Nat, s.A = a := ⟨s.A.toNat, by omega⟩
          rw [haa]
          refine cut_Turn_s (by omega) (by omega) h5 fun w6 h6 => ?_
          refine fld_at (ld1_at h6 2 rfl (v := .int .i64 a) (by rw [← haa]; rfl) ?_)
          refine ref16_Turn_s (by omega) h6.swap fun w7 h7 => ?_
          exact hcut _ _ _ _ _ ⟨_, _, _, rfl, rfl, rfl, rfl, hc.turn _, h7.swap⟩
        · refine cut_Turn_bad (by rw [hcn]; exact hok) h5 ?_
          refine fld_at (ld1_at h5 2 rfl (v := .int .i64 s.A) rfl ?_)
          refine ref16_Turn_bad hok h5.swap ?_
          exact hcut _ _ _ _ _ ⟨_, _, _, rfl, rfl, rfl, rfl, hc.next, h5⟩
      refine eq_c (fun c7 => iff_t ?_) (fun c7 => iff_f ?_)
      · refine fld_at (ld1_at h5 2 rfl (v := .int .i64 s.A) rfl ?_)
        refine fld_at (ld1_at h5 2 rfl (v := .int .i64 s.B) rfl ?_)
        by_cases hok : (0 ≤ s.A ∧ s.A < n) ∧ validT s.B = true
        · obtain ⟨⟨hA1, hA2⟩, hv⟩ := hok
          obtain ⟨a, haa⟩ : ∃ a : Nat, s.A = a := ⟨s.A.toNat, by omega⟩
          rw [haa]
          have hov : c.over ≤ 1000000 := by
            obtain ⟨x, hx, _⟩ := rc_of h5.swap
            have := hx.inv.h1
            omega
          refine cut_Report_s (by omega) (by omega) (by omega) hBw hv h5 (fun he w6 h6 => ?_) (fun he h7 w6 h6 => ?_) (fun he h7 w6 h6 => ?_)
          · refine fld_at (ld1_at h6 2 rfl (v := .int .i64 a) (by rw [← haa]; rfl) ?_)
            refine fld_at (ld1_at h6 2 rfl (v := .int .i64 s.B) rfl ?_)
            refine ref16_Report_s hn8 (by omega) hv hov h6.swap (fun _ w8 h8 => ?_) (fun h => absurd he h) (fun h => absurd he h)
            exact hcut _ _ _ _ _ ⟨_, _, _, rfl, rfl, rfl, rfl, hc.next, h8.swap⟩
          · refine fld_at (ld1_at h6 2 rfl (v := .int .i64 a) (by rw [← haa]; rfl) ?_)
            refine fld_at (ld1_at h6 2 rfl (v := .int .i64 s.B) rfl ?_)
            refine ref16_Report_s hn8 (by omega) hv hov h6.swap (fun h => absurd h he) (fun _ _ w8 h8 => ?_) (fun _ h => absurd h7 h)
            exact hcut _ _ _ _ _ ⟨_, _, _, rfl, rfl, rfl, rfl, hc.next, h8.swap⟩
          · refine fld_at (ld1_at h6 2 rfl (v := .int .i64 a) (by rw [← haa]; rfl) ?_)
            refine fld_at (ld1_at h6 2 rfl (v := .int .i64 s.B) rfl ?_)
            refine ref16_Report_s hn8 (by omega) hv hov h6.swap (fun h => absurd h he) (fun _ h => absurd h h7) (fun _ _ w8 h8 => ?_)
            exact hcut _ _ _ _ _ ⟨_, _, _, rfl, rfl, rfl, rfl, hc.rep _ _, h8.swap⟩
        · have hbad1 : ¬ (0 ≤ s.A ∧ s.A < c.n) ∨ validT s.B = false := by
            rw [hcn]
            by_cases h : 0 ≤ s.A ∧ s.A < n
            · right
              cases hv : validT s.B with
              | true => exact absurd ⟨h, hv⟩ hok
              | false => rfl
            · exact .inl h
          refine cut_Report_bad hBw hbad1 h5 ?_
          refine fld_at (ld1_at h5 2 rfl (v := .int .i64 s.A) rfl ?_)
          refine fld_at (ld1_at h5 2 rfl (v := .int .i64 s.B) rfl ?_)
          rw [hcn] at hbad1
          refine ref16_Report_bad hbad1 h5.swap ?_
          exact hcut _ _ _ _ _ ⟨_, _, _, rfl, rfl, rfl, rfl, hc.next, h5⟩
      · exact hcut _ _ _ _ _ ⟨_, _, _, rfl, rfl, rfl, rfl, hc.next, h5⟩
    · rintro _ _ _ _ w ⟨x, y, c', rfl, rfl, rfl, rfl, hc', h6⟩
      refine dr_s h6 fun w7 h7 => ?_
      obtain ⟨x1, hx1, k1⟩ := rc_of h7.swap
      refine ne_f rfl (gd_ff (gd_ff (gd_ff (ne_f rfl (pk_f ?_)))))
      refine gd_ff (gd_ff (gd_ff (nc_p (gd_ff (fld_at (gd_ff (ld1_at k1 0 rfl (v := .int .i64 c'.value) rfl (gd_ff ?_))))))))
      refine cut_Value_s h7 ⟨gd_ff (ld1_at k1 0 rfl (v := .int .i64 c'.value) rfl ⟨rfl, rfl⟩), gd_ff (ne_f rfl (pk_f ?_))⟩
      refine gd_ff (gd_ff (gd_ff (nc_p (gd_ff (fld_at (gd_ff (ld1_at k1 0 rfl (v := .int .i64 c'.over) rfl (gd_ff ?_))))))))
      refine cut_Rounds_s h7 ⟨gd_ff (ld1_at k1 0 rfl (v := .int .i64 c'.over) rfl ⟨rfl, rfl⟩), gd_ff (ne_f rfl (pk_f ?_))⟩
      refine gd_ff (gd_ff (gd_ff (nc_p (gd_ff (fld_at (gd_ff (ld1_at k1 0 rfl (v := .bool (decide (c'.over < c'.begun))) rfl (gd_ff ?_))))))))
      refine cut_Under_s h7 fun w8 h8 => ?_
      obtain ⟨x2, hx2, k2⟩ := rc_of h8.swap
      refine ⟨gd_ff (ld1_at k2 0 rfl (v := .bool (decide (c'.over < c'.begun))) rfl ⟨rfl, rfl⟩), gd_ff (bne_s ?_)⟩
      rw [bne_self_eq_false]
      refine pk_f (gd_ff (gd_ff (fld_at (gd_ff (ld1_at h8 2 rfl (v := .int .i64 s.A) rfl ?_)))))
      refine gd_ff (gd_ff (fld_at (gd_ff (ld1_at h8 2 rfl (v := .int .i64 s.A) rfl (gd_ff ?_)))))
      have hcn' := hc'.hn
      by_cases hok : 0 ≤ s.A ∧ s.A < n
      · obtain ⟨hA1, hA2⟩ := hok
        obtain ⟨a, haa⟩ : ∃ a : Nat, s.A = a := ⟨s.A.toNat, by omega⟩
        rw [haa]
        refine cut_Colour_s (by omega) (by omega) h8 ⟨gd_ff (ld1_at h8 2 rfl (v := .int .i64 a) (by rw [← haa]; rfl) ⟨rfl, rfl⟩), gd_ff ?_⟩
        refine ref16_Colour_s (by omega) h8.swap (gd_ff (ne_f rfl ?_))
        refine pk_f (iff_f (inc_s (by omega) ?_))
        exact hg _ _ _ (by omega) ⟨j + 1, c', by omega, rfl, rfl, hc', h8.selR [_, _, _] [_, _] [0, 1] (by decide) rfl⟩
      · refine cut_Colour_bad (by rw [hcn']; exact hok) h8 ⟨gd_ff (ld1_at h8 2 rfl (v := .int .i64 s.A) rfl ⟨rfl, rfl⟩), gd_ff ?_⟩
        refine ref16_Colour_bad hok h8.swap (gd_ff (ne_f rfl ?_))
        refine pk_f (iff_f (inc_s (by omega) ?_))
        exact hg _ _ _ (by omega) ⟨j + 1, c', by omega, rfl, rfl, hc', h8.selR [_, _, _] [_, _] [0, 1] (by decide) rfl⟩
  · have hcn := hc.hn
    refine cut_Turn_bad (by omega) h3 ?_
    refine eq_t rfl (gd_tt (gd_tt (gd_tt ?_)))
    refine cut_Colour_bad (by omega) h3 (gd_tt (eq_t rfl (pk_t (hk _ h3.drop.drop))))
end Go.Proofs.Ytdiglafiimnfoaa
