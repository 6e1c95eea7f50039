/- The law ClockRises. Conditions: none. -/
import Derived.Test.YtiiekfcfledkhaaClockS
namespace Go.Proofs.Ytiiekfcfledkhaa
open Go Go.E
set_option maxRecDepth 100000
variable {e w : World} {R : List HP} {K : KV}

theorem Clk.get_set {c : Clk} {j t : Int} (hj : c.okJ j) (told : Int) (i : Int) (hi : 0 ≤ i) : Clk.get ⟨c.L.set j.toNat t, c.self, told⟩ i = if i = j then t else c.get i := by
  have hlt : j.toNat < c.L.length := by have := hj.2.1; have := hj.1; omega
  unfold Clk.get
  by_cases hij : i = j
  · subst hij
    simp [List.getD_eq_getElem?_getD, hlt]
  · have hne : j.toNat ≠ i.toNat := by have := hj.1; omega
    simp [List.getD_eq_getElem?_getD, hij, hne]
theorem Clk.hear_ok_iff (c : Clk) (j t i : Int) : (c.hear j t).okJ i ↔ c.okJ i := by
  unfold Clk.okJ
  rw [Clk.hear_len, Clk.hear_self]
theorem Clk.hear_up (c : Clk) (j t i : Int) (hi : c.okJ i) : c.get i ≤ (c.hear j t).get i := by
  rcases c.hear_cases j t with ⟨_, h1⟩ | ⟨ho, _, hl, _, h1⟩
  · rw [h1]; exact Int.le_refl _
  · rw [h1, Clk.get_set ho _ _ hi.1]
    split
    · rename_i h; subst h; omega
    · exact Int.le_refl _
theorem Clk.hear_bound (c : Clk) (j t : Int) : c.bound ≤ (c.hear j t).bound := by
  obtain ⟨h1, h2, _⟩ := c.bound_is
  obtain ⟨_, _, k3⟩ := (c.hear j t).bound_is
  rcases k3 with k3 | ⟨i, hi, k3⟩
  · rw [k3]; exact h1
  · rw [k3]
    have hi' := (c.hear_ok_iff j t i).1 hi
    exact Int.le_trans (h2 i hi') (c.hear_up j t i hi')
theorem Clk.bound_eq {c d : Clk} (h1 : c.L = d.L) (h2 : c.self = d.self) : c.bound = d.bound := by
  obtain ⟨L, s, t⟩ := c
  obtain ⟨L', s', t'⟩ := d
  simp only at h1 h2
  subst h1
  subst h2
  rfl
theorem Clk.tell_bound (c : Clk) (a b : Int) : (c.tell a b).bound = c.bound := Clk.bound_eq (c.tell_len a b) (c.tell_self a b)
theorem Clk.tell_told (c : Clk) (a b : Int) : (c.tell a b).told = if c.told < c.tellT a b then c.tellT a b else c.told := by
  unfold Clk.tell
  by_cases h : c.tellT a b ≤ c.told
  · rw [if_pos h, if_neg (by omega)]
  · rw [if_neg h, if_pos (by omega)]
theorem Clk.tellB_eq (c : Clk) (a b : Int) : c.tellB a b = decide (c.told < (c.tell a b).told) := by
  rw [c.tell_told]
  unfold Clk.tellB
  split
  · rfl
  · rename_i h
    rw [decide_eq_false h, decide_eq_false (by omega)]

theorem clockRises_s {v : Value} {l : List CStep} {S : HP} (hS : Sat e w (S :: R)) (hr : ∀ g, S g → rdS 3 CStep.cs v l g) (hw : ∀ x ∈ l, ∀ m ∈ x.ns, (Lit.int .i64 m).wf = true)
    (hk : ∀ w', Sat e w' (S :: R) → K (.bool true) w') : Cl prog 12 #[v] w K := by
  refine pacelinelaw11_ClockRises_calls ?_
  unfold pacelinelaw11_ClockRises
  refine lnS_rd hS 0 rfl hr ?_
  refine gt_c (fun c1 => iff_t (hk _ hS)) (fun c1 => iff_f ?_)
  refine clock_New_s (n := 4) (self := 1) (by omega) (by omega) (by omega) (by omega) hS fun g w1 h1 => ?_
  repeat (first | refine gd_tt ?_ | refine gd_ff ?_ | refine gd_tf ?_ | refine gd_ft ?_ | refine gd_u ?_ | refine pk_t ?_ | refine pk_f ?_ | refine iff_t ?_ | refine iff_f ?_ | refine not_t ?_ | refine not_f ?_ | refine beq_s ?_ | refine bne_s ?_ | refine ncP_p ?_ | refine nc_p ?_ | refine fld_at ?_ | refine xt_02 ?_ | refine xt_12 ?_ | refine xt_03 ?_ | refine xt_13 ?_ | refine xt_23 ?_ | refine eq_t (by omega) ?_ | refine eq_f (by omega) ?_ | refine ne_t (by omega) ?_ | refine ne_f (by omega) ?_ | refine lt_t (by omega) ?_ | refine lt_f (by omega) ?_ | refine gt_t (by omega) ?_ | refine gt_f (by omega) ?_ | refine ge_t (by omega) ?_ | refine ge_f (by omega) ?_ | refine le_t (by omega) ?_ | refine le_f (by omega) ?_)
  refine bnp_s _ ?_
  repeat (first | refine gd_tt ?_ | refine gd_ff ?_ | refine gd_tf ?_ | refine gd_ft ?_ | refine gd_u ?_ | refine pk_t ?_ | refine pk_f ?_ | refine iff_t ?_ | refine iff_f ?_ | refine not_t ?_ | refine not_f ?_ | refine beq_s ?_ | refine bne_s ?_ | refine ncP_p ?_ | refine nc_p ?_ | refine fld_at ?_ | refine xt_02 ?_ | refine xt_12 ?_ | refine xt_03 ?_ | refine xt_13 ?_ | refine xt_23 ?_ | refine eq_t (by omega) ?_ | refine eq_f (by omega) ?_ | refine ne_t (by omega) ?_ | refine ne_f (by omega) ?_ | refine lt_t (by omega) ?_ | refine lt_f (by omega) ?_ | refine gt_t (by omega) ?_ | refine gt_f (by omega) ?_ | refine ge_t (by omega) ?_ | refine ge_f (by omega) ?_ | refine le_t (by omega) ?_ | refine le_f (by omega) ?_)
  refine clock_Bound_s h1 fun w2 h2 => ?_
  rw [show Clk.bound ⟨List.replicate 4 0, 1, 0⟩ = 0 from by decide]
  repeat (first | refine gd_tt ?_ | refine gd_ff ?_ | refine gd_tf ?_ | refine gd_ft ?_ | refine gd_u ?_ | refine pk_t ?_ | refine pk_f ?_ | refine iff_t ?_ | refine iff_f ?_ | refine not_t ?_ | refine not_f ?_ | refine beq_s ?_ | refine bne_s ?_ | refine ncP_p ?_ | refine nc_p ?_ | refine fld_at ?_ | refine xt_02 ?_ | refine xt_12 ?_ | refine xt_03 ?_ | refine xt_13 ?_ | refine xt_23 ?_ | refine eq_t (by omega) ?_ | refine eq_f (by omega) ?_ | refine ne_t (by omega) ?_ | refine ne_f (by omega) ?_ | refine lt_t (by omega) ?_ | refine lt_f (by omega) ?_ | refine gt_t (by omega) ?_ | refine gt_f (by omega) ?_ | refine ge_t (by omega) ?_ | refine ge_f (by omega) ?_ | refine le_t (by omega) ?_ | refine le_f (by omega) ?_)
  refine clock_Told_s h2 ?_
  dsimp only
  repeat (first | refine gd_tt ?_ | refine gd_ff ?_ | refine gd_tf ?_ | refine gd_ft ?_ | refine gd_u ?_ | refine pk_t ?_ | refine pk_f ?_ | refine iff_t ?_ | refine iff_f ?_ | refine not_t ?_ | refine not_f ?_ | refine beq_s ?_ | refine bne_s ?_ | refine ncP_p ?_ | refine nc_p ?_ | refine fld_at ?_ | refine xt_02 ?_ | refine xt_12 ?_ | refine xt_03 ?_ | refine xt_13 ?_ | refine xt_23 ?_ | refine eq_t (by omega) ?_ | refine eq_f (by omega) ?_ | refine ne_t (by omega) ?_ | refine ne_f (by omega) ?_ | refine lt_t (by omega) ?_ | refine lt_f (by omega) ?_ | refine gt_t (by omega) ?_ | refine gt_f (by omega) ?_ | refine ge_t (by omega) ?_ | refine ge_f (by omega) ?_ | refine le_t (by omega) ?_ | refine le_f (by omega) ?_)
  refine lpi1 (fun n t11 w => ∃ (j : Nat) (c : Clk), j ≤ l.length ∧ t11 = .int .i64 j ∧ (c.L.length = 4 ∧ c.self = 1) ∧ Sat e w (IsClk g c :: S :: R) ∧ n = l.length - j) l.length
    ⟨0, ⟨List.replicate 4 0, 1, 0⟩, Nat.zero_le _, rfl, ⟨by simp, rfl⟩, h2, rfl⟩ ?_
  rintro n _ w g1 ⟨j, c, hj, rfl, hI, h3, rfl⟩ hg
  refine lnS_rd h3 1 rfl hr ?_
  refine lt_c (fun c2 => iff_t ?_) (fun c2 => iff_f (hk _ h3.drop))
  obtain ⟨x, hx⟩ := get_of_lt (l := l) (j := j) (by omega)
  have hxB : In64 x.B := In64.of_wf (hw x (List.mem_of_getElem? hx) _ (by simp [CStep.ns]))
  refine clock_Bound_s h3 fun w4 h4 => ?_
  refine clock_Told_s h4 ?_
  refine ixS_rd h4 1 rfl hr (fun _ => rfl) hx fun a ha => ?_
  refine fld_of ha fun a1 ha1 => ?_
  refine ld1_of h4 1 rfl ha1 rfl ?_
  refine eq_d ?_
  refine J0.cut (fun w => ∃ c' : Clk, (c'.L.length = 4 ∧ c'.self = 1) ∧ c.bound ≤ c'.bound ∧ c.told ≤ c'.told ∧ Sat e w (IsClk g c' :: S :: R)) (fun k2 hcut => ?_) (fun w hA => ?_)
  · refine iff_d (fun c3 => ?_) (fun c3 => ?_)
    · refine ixS_rd h4 1 rfl hr (fun _ => rfl) hx fun a ha => ?_
      refine fld_of ha fun a1 ha1 => ?_
      refine ld1_of h4 1 rfl ha1 rfl ?_
      refine clock_At_s h4 ?_
      refine dr_s h4 fun w5 h5 => ?_
      refine ixS_rd h5 1 rfl hr (fun _ => rfl) hx fun a ha => ?_
      refine fld_of ha fun a1 ha1 => ?_
      refine ld1_of h5 1 rfl ha1 rfl ?_
      refine ixS_rd h5 1 rfl hr (fun _ => rfl) hx fun a ha => ?_
      refine fld_of ha fun a1 ha1 => ?_
      refine ld1_of h5 1 rfl ha1 rfl ?_
      refine clock_Hear_s hxB h5 fun w6 h6 => ?_
      refine dr_s h6 fun w7 h7 => ?_
      have hfin : ∀ w', Sat e w' (IsClk g (c.hear x.A x.B) :: S :: R) → k2 w' := fun w' h' =>
        hcut _ ⟨_, ⟨(Clk.hear_len _ _ _).trans hI.1, (Clk.hear_self _ _ _).trans hI.2⟩, c.hear_bound _ _, by rw [Clk.hear_told]; exact Int.le_refl _, h'⟩
      rcases c.hear_cases x.A x.B with ⟨hE, hH⟩ | ⟨ho, hv, hl, hE, hH⟩
      · rw [hH] at h7 hfin
        refine eq_f hE ?_
        repeat (first | refine gd_tt ?_ | refine gd_ff ?_ | refine gd_tf ?_ | refine gd_ft ?_ | refine gd_u ?_ | refine pk_t ?_ | refine pk_f ?_ | refine iff_t ?_ | refine iff_f ?_ | refine not_t ?_ | refine not_f ?_ | refine beq_s ?_ | refine bne_s ?_ | refine ncP_p ?_ | refine nc_p ?_ | refine fld_at ?_ | refine xt_02 ?_ | refine xt_12 ?_ | refine xt_03 ?_ | refine xt_13 ?_ | refine xt_23 ?_ | refine eq_t (by omega) ?_ | refine eq_f (by omega) ?_ | refine ne_t (by omega) ?_ | refine ne_f (by omega) ?_ | refine lt_t (by omega) ?_ | refine lt_f (by omega) ?_ | refine gt_t (by omega) ?_ | refine gt_f (by omega) ?_ | refine ge_t (by omega) ?_ | refine ge_f (by omega) ?_ | refine le_t (by omega) ?_ | refine le_f (by omega) ?_)
        refine ⟨gd_ft ⟨rfl, rfl⟩, ?_⟩
        repeat (first | refine gd_tt ?_ | refine gd_ff ?_ | refine gd_tf ?_ | refine gd_ft ?_ | refine gd_u ?_ | refine pk_t ?_ | refine pk_f ?_ | refine iff_t ?_ | refine iff_f ?_ | refine not_t ?_ | refine not_f ?_ | refine beq_s ?_ | refine bne_s ?_ | refine ncP_p ?_ | refine nc_p ?_ | refine fld_at ?_ | refine xt_02 ?_ | refine xt_12 ?_ | refine xt_03 ?_ | refine xt_13 ?_ | refine xt_23 ?_ | refine eq_t (by omega) ?_ | refine eq_f (by omega) ?_ | refine ne_t (by omega) ?_ | refine ne_f (by omega) ?_ | refine lt_t (by omega) ?_ | refine lt_f (by omega) ?_ | refine gt_t (by omega) ?_ | refine gt_f (by omega) ?_ | refine ge_t (by omega) ?_ | refine ge_f (by omega) ?_ | refine le_t (by omega) ?_ | refine le_f (by omega) ?_)
        refine (ixS_rd h7 1 rfl hr (fun _ => rfl) hx fun a ha => ?_)
        refine gd_tt (fld_of ha fun a1 ha1 => ?_)
        refine gd_tt (ld1_of h7 1 rfl ha1 rfl ?_)
        repeat (first | refine gd_tt ?_ | refine gd_ff ?_ | refine gd_tf ?_ | refine gd_ft ?_ | refine gd_u ?_ | refine pk_t ?_ | refine pk_f ?_ | refine iff_t ?_ | refine iff_f ?_ | refine not_t ?_ | refine not_f ?_ | refine beq_s ?_ | refine bne_s ?_ | refine ncP_p ?_ | refine nc_p ?_ | refine fld_at ?_ | refine xt_02 ?_ | refine xt_12 ?_ | refine xt_03 ?_ | refine xt_13 ?_ | refine xt_23 ?_ | refine eq_t (by omega) ?_ | refine eq_f (by omega) ?_ | refine ne_t (by omega) ?_ | refine ne_f (by omega) ?_ | refine lt_t (by omega) ?_ | refine lt_f (by omega) ?_ | refine gt_t (by omega) ?_ | refine gt_f (by omega) ?_ | refine ge_t (by omega) ?_ | refine ge_f (by omega) ?_ | refine le_t (by omega) ?_ | refine le_f (by omega) ?_)
        refine clock_At_s h7 ?_
        repeat (first | refine gd_tt ?_ | refine gd_ff ?_ | refine gd_tf ?_ | refine gd_ft ?_ | refine gd_u ?_ | refine pk_t ?_ | refine pk_f ?_ | refine iff_t ?_ | refine iff_f ?_ | refine not_t ?_ | refine not_f ?_ | refine beq_s ?_ | refine bne_s ?_ | refine ncP_p ?_ | refine nc_p ?_ | refine fld_at ?_ | refine xt_02 ?_ | refine xt_12 ?_ | refine xt_03 ?_ | refine xt_13 ?_ | refine xt_23 ?_ | refine eq_t (by omega) ?_ | refine eq_f (by omega) ?_ | refine ne_t (by omega) ?_ | refine ne_f (by omega) ?_ | refine lt_t (by omega) ?_ | refine lt_f (by omega) ?_ | refine gt_t (by omega) ?_ | refine gt_f (by omega) ?_ | refine ge_t (by omega) ?_ | refine ge_f (by omega) ?_ | refine le_t (by omega) ?_ | refine le_f (by omega) ?_)
        exact hfin _ h7
      · rw [hE]
        refine eq_t rfl ?_
        repeat (first | refine gd_tt ?_ | refine gd_ff ?_ | refine gd_tf ?_ | refine gd_ft ?_ | refine gd_u ?_ | refine pk_t ?_ | refine pk_f ?_ | refine iff_t ?_ | refine iff_f ?_ | refine not_t ?_ | refine not_f ?_ | refine beq_s ?_ | refine bne_s ?_ | refine ncP_p ?_ | refine nc_p ?_ | refine fld_at ?_ | refine xt_02 ?_ | refine xt_12 ?_ | refine xt_03 ?_ | refine xt_13 ?_ | refine xt_23 ?_ | refine eq_t (by omega) ?_ | refine eq_f (by omega) ?_ | refine ne_t (by omega) ?_ | refine ne_f (by omega) ?_ | refine lt_t (by omega) ?_ | refine lt_f (by omega) ?_ | refine gt_t (by omega) ?_ | refine gt_f (by omega) ?_ | refine ge_t (by omega) ?_ | refine ge_f (by omega) ?_ | refine le_t (by omega) ?_ | refine le_f (by omega) ?_)
        refine (ixS_rd h7 1 rfl hr (fun _ => rfl) hx fun a ha => ?_)
        refine gd_tt (fld_of ha fun a1 ha1 => ?_)
        refine gd_tt (ld1_of h7 1 rfl ha1 rfl ?_)
        repeat (first | refine gd_tt ?_ | refine gd_ff ?_ | refine gd_tf ?_ | refine gd_ft ?_ | refine gd_u ?_ | refine pk_t ?_ | refine pk_f ?_ | refine iff_t ?_ | refine iff_f ?_ | refine not_t ?_ | refine not_f ?_ | refine beq_s ?_ | refine bne_s ?_ | refine ncP_p ?_ | refine nc_p ?_ | refine fld_at ?_ | refine xt_02 ?_ | refine xt_12 ?_ | refine xt_03 ?_ | refine xt_13 ?_ | refine xt_23 ?_ | refine eq_t (by omega) ?_ | refine eq_f (by omega) ?_ | refine ne_t (by omega) ?_ | refine ne_f (by omega) ?_ | refine lt_t (by omega) ?_ | refine lt_f (by omega) ?_ | refine gt_t (by omega) ?_ | refine gt_f (by omega) ?_ | refine ge_t (by omega) ?_ | refine ge_f (by omega) ?_ | refine le_t (by omega) ?_ | refine le_f (by omega) ?_)
        refine (ixS_rd h7 1 rfl hr (fun _ => rfl) hx fun a ha => ?_)
        refine gd_tt (fld_of ha fun a2 ha2 => ?_)
        refine gd_tt (ld1_of h7 1 rfl ha2 rfl ?_)
        repeat (first | refine gd_tt ?_ | refine gd_ff ?_ | refine gd_tf ?_ | refine gd_ft ?_ | refine gd_u ?_ | refine pk_t ?_ | refine pk_f ?_ | refine iff_t ?_ | refine iff_f ?_ | refine not_t ?_ | refine not_f ?_ | refine beq_s ?_ | refine bne_s ?_ | refine ncP_p ?_ | refine nc_p ?_ | refine fld_at ?_ | refine xt_02 ?_ | refine xt_12 ?_ | refine xt_03 ?_ | refine xt_13 ?_ | refine xt_23 ?_ | refine eq_t (by omega) ?_ | refine eq_f (by omega) ?_ | refine ne_t (by omega) ?_ | refine ne_f (by omega) ?_ | refine lt_t (by omega) ?_ | refine lt_f (by omega) ?_ | refine gt_t (by omega) ?_ | refine gt_f (by omega) ?_ | refine ge_t (by omega) ?_ | refine ge_f (by omega) ?_ | refine le_t (by omega) ?_ | refine le_f (by omega) ?_)
        refine clock_At_s h7 ?_
        refine ⟨gd_tt (ld1_of h7 1 rfl ha2 rfl ⟨rfl, rfl⟩), ?_⟩
        have hat : (c.hear x.A x.B).at' x.A = x.B := by
          unfold Clk.at'
          rw [if_pos ((c.hear_ok_iff _ _ _).2 ho), hH, Clk.get_set ho _ _ ho.1, if_pos rfl]
        rw [hat]
        repeat (first | refine gd_tt ?_ | refine gd_ff ?_ | refine gd_tf ?_ | refine gd_ft ?_ | refine gd_u ?_ | refine pk_t ?_ | refine pk_f ?_ | refine iff_t ?_ | refine iff_f ?_ | refine not_t ?_ | refine not_f ?_ | refine beq_s ?_ | refine bne_s ?_ | refine ncP_p ?_ | refine nc_p ?_ | refine fld_at ?_ | refine xt_02 ?_ | refine xt_12 ?_ | refine xt_03 ?_ | refine xt_13 ?_ | refine xt_23 ?_ | refine eq_t (by omega) ?_ | refine eq_f (by omega) ?_ | refine ne_t (by omega) ?_ | refine ne_f (by omega) ?_ | refine lt_t (by omega) ?_ | refine lt_f (by omega) ?_ | refine gt_t (by omega) ?_ | refine gt_f (by omega) ?_ | refine ge_t (by omega) ?_ | refine ge_f (by omega) ?_ | refine le_t (by omega) ?_ | refine le_f (by omega) ?_)
        exact hfin _ h7
    · refine dr_s h4 fun w5 h5 => ?_
      refine ixS_rd h5 1 rfl hr (fun _ => rfl) hx fun a ha => ?_
      refine fld_of ha fun a1 ha1 => ?_
      refine ld1_of h5 1 rfl ha1 rfl ?_
      refine ixS_rd h5 1 rfl hr (fun _ => rfl) hx fun a ha => ?_
      refine fld_of ha fun a1 ha1 => ?_
      refine ld1_of h5 1 rfl ha1 rfl ?_
      refine clock_Tell_s h5 fun w6 h6 => ?_
      repeat (first | refine gd_tt ?_ | refine gd_ff ?_ | refine gd_tf ?_ | refine gd_ft ?_ | refine gd_u ?_ | refine pk_t ?_ | refine pk_f ?_ | refine iff_t ?_ | refine iff_f ?_ | refine not_t ?_ | refine not_f ?_ | refine beq_s ?_ | refine bne_s ?_ | refine ncP_p ?_ | refine nc_p ?_ | refine fld_at ?_ | refine xt_02 ?_ | refine xt_12 ?_ | refine xt_03 ?_ | refine xt_13 ?_ | refine xt_23 ?_ | refine eq_t (by omega) ?_ | refine eq_f (by omega) ?_ | refine ne_t (by omega) ?_ | refine ne_f (by omega) ?_ | refine lt_t (by omega) ?_ | refine lt_f (by omega) ?_ | refine gt_t (by omega) ?_ | refine gt_f (by omega) ?_ | refine ge_t (by omega) ?_ | refine ge_f (by omega) ?_ | refine le_t (by omega) ?_ | refine le_f (by omega) ?_)
      refine gt_d (bne_s ?_)
      rw [Clk.tellB_eq, bne_self_eq_false]
      repeat (first | refine gd_tt ?_ | refine gd_ff ?_ | refine gd_tf ?_ | refine gd_ft ?_ | refine gd_u ?_ | refine pk_t ?_ | refine pk_f ?_ | refine iff_t ?_ | refine iff_f ?_ | refine not_t ?_ | refine not_f ?_ | refine beq_s ?_ | refine bne_s ?_ | refine ncP_p ?_ | refine nc_p ?_ | refine fld_at ?_ | refine xt_02 ?_ | refine xt_12 ?_ | refine xt_03 ?_ | refine xt_13 ?_ | refine xt_23 ?_ | refine eq_t (by omega) ?_ | refine eq_f (by omega) ?_ | refine ne_t (by omega) ?_ | refine ne_f (by omega) ?_ | refine lt_t (by omega) ?_ | refine lt_f (by omega) ?_ | refine gt_t (by omega) ?_ | refine gt_f (by omega) ?_ | refine ge_t (by omega) ?_ | refine ge_f (by omega) ?_ | refine le_t (by omega) ?_ | refine le_f (by omega) ?_)
      refine clock_Told_s h6 ?_
      repeat (first | refine gd_tt ?_ | refine gd_ff ?_ | refine gd_tf ?_ | refine gd_ft ?_ | refine gd_u ?_ | refine pk_t ?_ | refine pk_f ?_ | refine iff_t ?_ | refine iff_f ?_ | refine not_t ?_ | refine not_f ?_ | refine beq_s ?_ | refine bne_s ?_ | refine ncP_p ?_ | refine nc_p ?_ | refine fld_at ?_ | refine xt_02 ?_ | refine xt_12 ?_ | refine xt_03 ?_ | refine xt_13 ?_ | refine xt_23 ?_ | refine eq_t (by omega) ?_ | refine eq_f (by omega) ?_ | refine ne_t (by omega) ?_ | refine ne_f (by omega) ?_ | refine lt_t (by omega) ?_ | refine lt_f (by omega) ?_ | refine gt_t (by omega) ?_ | refine gt_f (by omega) ?_ | refine ge_t (by omega) ?_ | refine ge_f (by omega) ?_ | refine le_t (by omega) ?_ | refine le_f (by omega) ?_)
      refine hcut _ ⟨_, ⟨by rw [Clk.tell_len]; exact hI.1, (Clk.tell_self _ _ _).trans hI.2⟩, by rw [Clk.tell_bound]; exact Int.le_refl _, ?_, h6⟩
      rw [Clk.tell_told]
      split <;> omega
  · obtain ⟨c', hc', hb, ht, h5⟩ := hA
    refine clock_Bound_s h5 fun w6 h6 => ?_
    repeat (first | refine gd_tt ?_ | refine gd_ff ?_ | refine gd_tf ?_ | refine gd_ft ?_ | refine gd_u ?_ | refine pk_t ?_ | refine pk_f ?_ | refine iff_t ?_ | refine iff_f ?_ | refine not_t ?_ | refine not_f ?_ | refine beq_s ?_ | refine bne_s ?_ | refine ncP_p ?_ | refine nc_p ?_ | refine fld_at ?_ | refine xt_02 ?_ | refine xt_12 ?_ | refine xt_03 ?_ | refine xt_13 ?_ | refine xt_23 ?_ | refine eq_t (by omega) ?_ | refine eq_f (by omega) ?_ | refine ne_t (by omega) ?_ | refine ne_f (by omega) ?_ | refine lt_t (by omega) ?_ | refine lt_f (by omega) ?_ | refine gt_t (by omega) ?_ | refine gt_f (by omega) ?_ | refine ge_t (by omega) ?_ | refine ge_f (by omega) ?_ | refine le_t (by omega) ?_ | refine le_f (by omega) ?_)
    refine clock_Told_s h6 ?_
    repeat (first | refine gd_tt ?_ | refine gd_ff ?_ | refine gd_tf ?_ | refine gd_ft ?_ | refine gd_u ?_ | refine pk_t ?_ | refine pk_f ?_ | refine iff_t ?_ | refine iff_f ?_ | refine not_t ?_ | refine not_f ?_ | refine beq_s ?_ | refine bne_s ?_ | refine ncP_p ?_ | refine nc_p ?_ | refine fld_at ?_ | refine xt_02 ?_ | refine xt_12 ?_ | refine xt_03 ?_ | refine xt_13 ?_ | refine xt_23 ?_ | refine eq_t (by omega) ?_ | refine eq_f (by omega) ?_ | refine ne_t (by omega) ?_ | refine ne_f (by omega) ?_ | refine lt_t (by omega) ?_ | refine lt_f (by omega) ?_ | refine gt_t (by omega) ?_ | refine gt_f (by omega) ?_ | refine ge_t (by omega) ?_ | refine ge_f (by omega) ?_ | refine le_t (by omega) ?_ | refine le_f (by omega) ?_)
    refine inc_s (by omega) ?_
    exact hg _ _ _ (by omega) ⟨j + 1, c', by omega, rfl, hc', h6, rfl⟩
end Go.Proofs.Ytiiekfcfledkhaa
