/- The law ClockGoes. Conditions: none. -/
import Derived.Test.YtiiekfcfledkhaaClockT
namespace Go.Proofs.Ytiiekfcfledkhaa
open Go Go.E
set_option maxRecDepth 100000
variable {e w : World} {R : List HP} {K : KV}

/-- The clocks of i among n, who has heard F. -/
def mkC (n i : Nat) (F : Nat → Int) (t : Int) : Clk := ⟨(List.range n).map fun j => if j = i then 0 else F j, i, t⟩
theorem mkC_ok {n i : Nat} {F : Nat → Int} {t : Int} (j : Int) : (mkC n i F t).okJ j ↔ 0 ≤ j ∧ j < n ∧ j ≠ i := by simp [Clk.okJ, mkC]
theorem mkC_get {n i : Nat} {F : Nat → Int} {t : Int} {j : Nat} (hj : j < n) (hi : j ≠ i) : (mkC n i F t).get j = F j := by
  simp [Clk.get, mkC, List.getD_eq_getElem?_getD, hj, hi]
theorem mkC_congr {n i : Nat} {F G : Nat → Int} {t : Int} (h : ∀ j, j < n → j ≠ i → F j = G j) : mkC n i F t = mkC n i G t := by
  unfold mkC
  congr 1
  apply List.map_congr_left
  intro j hj
  have := List.mem_range.1 hj
  by_cases hji : j = i
  · simp [hji]
  · simp [hji, h j this hji]
theorem mkC_set {n i : Nat} {F : Nat → Int} {t : Int} {j : Nat} (hi : j ≠ i) (x : Int) : Clk.mk ((mkC n i F t).L.set j x) i t = mkC n i (fun k => if k = j then x else F k) t := by
  unfold mkC
  congr 1
  apply List.ext_getElem
  · simp
  · intro k h1 h2
    simp only [List.length_map, List.length_range] at h2
    simp only [List.getElem_set, List.getElem_map, List.getElem_range]
    by_cases hk : j = k
    · subst hk; simp [hi]
    · have : ¬ k = j := fun e => hk e.symm
      simp [hk, this]
/-- The bound of i, who has heard F. -/
def bndC (n i : Nat) (F : Nat → Int) : Int := (mkC n i F 0).bound
theorem mkC_bound (n i : Nat) (F : Nat → Int) (t : Int) : (mkC n i F t).bound = bndC n i F := Clk.bound_eq rfl rfl
theorem bndC_le {n i : Nat} {F : Nat → Int} {j : Nat} (hj : j < n) (hi : j ≠ i) : bndC n i F ≤ F j := by
  have h := (mkC n i F 0).bound_is.2.1 j ((mkC_ok _).2 ⟨by omega, by omega, by omega⟩)
  rw [mkC_get hj hi] at h
  exact h
theorem bndC_at {n i : Nat} {F : Nat → Int} (h2 : 2 ≤ n) (hF : ∀ j, j < n → F j ≤ Inf) : ∃ j, j < n ∧ j ≠ i ∧ bndC n i F = F j := by
  obtain ⟨j0, hj0, hj1⟩ : ∃ j0, j0 < n ∧ j0 ≠ i := by
    by_cases h0 : i = 0
    · exact ⟨1, by omega, by omega⟩
    · exact ⟨0, by omega, by omega⟩
  rcases (mkC n i F 0).bound_is.2.2 with h | ⟨j, hj, h⟩
  · have h1 := bndC_le (F := F) hj0 hj1
    have h3 := hF j0 hj0
    exact ⟨j0, hj0, hj1, by unfold bndC at h1 ⊢; omega⟩
  · rw [mkC_ok] at hj
    obtain ⟨m, rfl⟩ : ∃ m : Nat, j = m := ⟨j.toNat, by omega⟩
    rw [mkC_get (by omega) (by omega)] at h
    exact ⟨m, by omega, by omega, h⟩

/-- All clocks. -/
def allC (gs : List Nat) (c : Nat → Clk) : List HP := (List.range gs.length).map fun i => IsClk (gs.getD i 0) (c i)
theorem allC_get {gs : List Nat} {c : Nat → Clk} {i g : Nat} (h : gs[i]? = some g) : (allC gs c)[i]? = some (IsClk g (c i)) := by
  obtain ⟨hi, hg⟩ := List.getElem?_eq_some_iff.1 h
  simp [allC, hi, List.getD_eq_getElem?_getD, hg]
theorem allC_set {gs : List Nat} {c : Nat → Clk} {i g : Nat} (h : gs[i]? = some g) (d : Clk) : (allC gs c).set i (IsClk g d) = allC gs (fun k => if k = i then d else c k) := by
  unfold allC
  apply List.ext_getElem
  · simp
  · intro k h1 h2
    simp only [List.length_map, List.length_range] at h2
    simp only [List.getElem_set, List.getElem_map, List.getElem_range]
    by_cases hk : i = k
    · subst hk; simp [List.getD_eq_getElem?_getD, h]
    · have : ¬ k = i := fun e => hk e.symm
      simp [hk, this]
theorem allC_congr {gs : List Nat} {c d : Nat → Clk} (h : ∀ i, i < gs.length → c i = d i) : allC gs c = allC gs d := by
  unfold allC
  apply List.map_congr_left
  intro i hi
  rw [h i (List.mem_range.1 hi)]
theorem allC_snoc (gs : List Nat) (g : Nat) (c : Nat → Clk) : allC (gs ++ [g]) c = allC gs c ++ [IsClk g (c gs.length)] := by
  unfold allC
  rw [List.length_append, List.length_singleton, List.range_succ, List.map_append]
  congr 1
  · apply List.map_congr_left
    intro i hi
    have := List.mem_range.1 hi
    rw [List.getD_eq_getElem?_getD, List.getD_eq_getElem?_getD, List.getElem?_append_left this]
  · simp [List.getD_eq_getElem?_getD]
theorem sat_snoc {P : HP} {l : List HP} (h : Sat e w (P :: sepL l :: R)) : Sat e w (sepL (l ++ [P]) :: R) := by
  have h1 := h.swap.split
  refine Sat.join (l' := l ++ [P]) (l := R) ?_
  rw [List.append_assoc]
  exact h1
def pt (g : Nat) : List Value := [.pointer (some ⟨g, 0, none⟩)]

theorem goes_tell {n i : Nat} {F : Nat → Int} {t k : Int} (hb : 0 ≤ bndC n i F ∧ bndC n i F ≤ 10000) (hk : 1 ≤ k ∧ k ≤ 256) (ht : t < bndC n i F + k) :
    (mkC n i F t).tell Inf k = mkC n i F (bndC n i F + k) ∧ (mkC n i F t).tellB Inf k = true := by
  have hT : (mkC n i F t).tellT Inf k = bndC n i F + k := by
    unfold Clk.tellT
    rw [mkC_bound]
    unfold addT leastT
    simp only [List.foldl_cons, List.foldl_nil]
    unfold clampT Inf MaxT
    omega
  constructor
  · unfold Clk.tell
    rw [hT, if_neg (show ¬ bndC n i F + k ≤ (mkC n i F t).told from by show ¬ _ ≤ t; omega)]
    rfl
  · unfold Clk.tellB
    rw [hT]
    exact decide_eq_true ht
theorem goes_hear {n i j : Nat} {F : Nat → Int} {t x : Int} (hj : j < n) (hi : j ≠ i) (hx : 0 ≤ x ∧ x ≤ 10000) (hF : F j ≤ x) :
    (mkC n i F t).hearE j x = 0 ∧ (mkC n i F t).hear j x = mkC n i (fun k => if k = j then x else F k) t := by
  have ho : (mkC n i F t).okJ j := (mkC_ok _).2 ⟨by omega, by omega, by omega⟩
  have hv : validT x = true := by
    simp only [validT, decide_eq_true_eq]
    unfold MaxT
    omega
  have hl : ¬ x < (mkC n i F t).get j := by rw [mkC_get hj hi]; omega
  refine ⟨Clk.hearE_ok ho hv hl, ?_⟩
  rw [Clk.hear_ok ho hv hl, Int.toNat_natCast]
  exact mkC_set hi x

theorem clockGoes_s {v : Value} {l : List Int} {S : HP} (hS : Sat e w (S :: R)) (hr : ∀ g, S g → rdS 1 (intsK .u8) v l g) (hw : ∀ m ∈ l, (Lit.int .u8 m).wf = true) {rounds : Int} (hrw : (Lit.int .u8 rounds).wf = true)
    (hk : ∀ w', Sat e w' (S :: R) → K (.bool true) w') : Cl prog 7 #[v, .int .u8 rounds] w K := by
  have hrd := wf_u8 hrw
  refine pacelinelaw11_ClockGoes_calls ?_
  unfold pacelinelaw11_ClockGoes
  refine lnS_rd hS 0 rfl hr ?_
  refine min_s ?_
  obtain ⟨n, hn⟩ : ∃ n : Nat, min (l.length : Int) 8 = n := ⟨min l.length 8, by omega⟩
  rw [hn]
  refine lt_c (fun c1 => iff_t ?_) (fun c1 => iff_f ?_)
  · refine clock_New_s (n := 1) (self := 0) (by omega) (by omega) (by omega) (by omega) hS fun g w1 h1 => ?_
    repeat (first | refine gd_tt ?_ | refine gd_ff ?_ | refine gd_tf ?_ | refine gd_ft ?_ | refine gd_u ?_ | refine pk_t ?_ | refine pk_f ?_ | refine iff_t ?_ | refine iff_f ?_ | refine not_t ?_ | refine not_f ?_ | refine beq_s ?_ | refine bne_s ?_ | refine ncP_p ?_ | refine nc_p ?_ | refine fld_at ?_ | refine xt_02 ?_ | refine xt_12 ?_ | refine xt_03 ?_ | refine xt_13 ?_ | refine xt_23 ?_ | refine eq_t (by omega) ?_ | refine eq_f (by omega) ?_ | refine ne_t (by omega) ?_ | refine ne_f (by omega) ?_ | refine lt_t (by omega) ?_ | refine lt_f (by omega) ?_ | refine gt_t (by omega) ?_ | refine gt_f (by omega) ?_ | refine ge_t (by omega) ?_ | refine ge_f (by omega) ?_ | refine le_t (by omega) ?_ | refine le_f (by omega) ?_)
    refine bnn_s _ ?_
    repeat (first | refine gd_tt ?_ | refine gd_ff ?_ | refine gd_tf ?_ | refine gd_ft ?_ | refine gd_u ?_ | refine pk_t ?_ | refine pk_f ?_ | refine iff_t ?_ | refine iff_f ?_ | refine not_t ?_ | refine not_f ?_ | refine beq_s ?_ | refine bne_s ?_ | refine ncP_p ?_ | refine nc_p ?_ | refine fld_at ?_ | refine xt_02 ?_ | refine xt_12 ?_ | refine xt_03 ?_ | refine xt_13 ?_ | refine xt_23 ?_ | refine eq_t (by omega) ?_ | refine eq_f (by omega) ?_ | refine ne_t (by omega) ?_ | refine ne_f (by omega) ?_ | refine lt_t (by omega) ?_ | refine lt_f (by omega) ?_ | refine gt_t (by omega) ?_ | refine gt_f (by omega) ?_ | refine ge_t (by omega) ?_ | refine ge_f (by omega) ?_ | refine le_t (by omega) ?_ | refine le_f (by omega) ?_)
    refine clock_Bound_s h1 fun w2 h2 => ?_
    repeat (first | refine gd_tt ?_ | refine gd_ff ?_ | refine gd_tf ?_ | refine gd_ft ?_ | refine gd_u ?_ | refine pk_t ?_ | refine pk_f ?_ | refine iff_t ?_ | refine iff_f ?_ | refine not_t ?_ | refine not_f ?_ | refine beq_s ?_ | refine bne_s ?_ | refine ncP_p ?_ | refine nc_p ?_ | refine fld_at ?_ | refine xt_02 ?_ | refine xt_12 ?_ | refine xt_03 ?_ | refine xt_13 ?_ | refine xt_23 ?_ | refine eq_t (by omega) ?_ | refine eq_f (by omega) ?_ | refine ne_t (by omega) ?_ | refine ne_f (by omega) ?_ | refine lt_t (by omega) ?_ | refine lt_f (by omega) ?_ | refine gt_t (by omega) ?_ | refine gt_f (by omega) ?_ | refine ge_t (by omega) ?_ | refine ge_f (by omega) ?_ | refine le_t (by omega) ?_ | refine le_f (by omega) ?_)
    refine eq_t (by simp [Clk.bound, List.range_succ, Inf]) ?_
    repeat (first | refine gd_tt ?_ | refine gd_ff ?_ | refine gd_tf ?_ | refine gd_ft ?_ | refine gd_u ?_ | refine pk_t ?_ | refine pk_f ?_ | refine iff_t ?_ | refine iff_f ?_ | refine not_t ?_ | refine not_f ?_ | refine beq_s ?_ | refine bne_s ?_ | refine ncP_p ?_ | refine nc_p ?_ | refine fld_at ?_ | refine xt_02 ?_ | refine xt_12 ?_ | refine xt_03 ?_ | refine xt_13 ?_ | refine xt_23 ?_ | refine eq_t (by omega) ?_ | refine eq_f (by omega) ?_ | refine ne_t (by omega) ?_ | refine ne_f (by omega) ?_ | refine lt_t (by omega) ?_ | refine lt_f (by omega) ?_ | refine gt_t (by omega) ?_ | refine gt_f (by omega) ?_ | refine ge_t (by omega) ?_ | refine ge_f (by omega) ?_ | refine le_t (by omega) ?_ | refine le_f (by omega) ?_)
    exact hk _ h2.drop
  have hln : n ≤ l.length := by omega
  have hn8 : n ≤ 8 := by omega
  obtain ⟨look, hlook⟩ : ∃ look : Nat → Int, ∀ i x, l[i]? = some x → look i = 1 + x := ⟨fun i => 1 + l.getD i 0, fun i x hx => by simp [List.getD_eq_getElem?_getD, hx]⟩
  have hlk : ∀ i, i < n → 1 ≤ look i ∧ look i ≤ 256 := fun i hi => by
    obtain ⟨x, hx⟩ := get_of_lt (l := l) (j := i) (by omega)
    have := wf_u8 (hw x (List.mem_of_getElem? hx))
    rw [hlook i x hx]
    omega
  refine bsl0 hS pt fun v1 w1 h1 => ?_
  refine lpi3 (fun m t8 t9 t10 w => ∃ (i : Nat) (gs : List Nat) (least : Int), i ≤ n ∧ t10 = .int .i64 i ∧ t9 = .int .i64 least ∧ gs.length = i ∧ (1 ≤ least ∧ least ≤ 1000 ∧ ∀ k, k < i → least ≤ look k) ∧
    Sat e w (ownS 40 1 pt t8 gs :: sepL (allC gs fun i => mkC n i (fun _ => 0) 0) :: S :: R) ∧ m = n - i) n
    ⟨0, [], 1000, Nat.zero_le _, rfl, rfl, rfl, ⟨by omega, by omega, fun k hk => by omega⟩, (Sat.join (l' := []) (h1.selR [_, _] [_, _] [0, 1] (by decide) rfl)).swap, rfl⟩ ?_
  rintro m t8 _ _ w g1 ⟨i, gs, least, hi, rfl, rfl, hgl, hls, h2, rfl⟩ hg
  refine lt_c (fun c2 => iff_t ?_) (fun c2 => iff_f ?_)
  · refine clock_New_s (n := n) (self := i) (by omega) (by omega) (by omega) (by omega) h2 fun g w3 h3 => ?_
    repeat (first | refine gd_tt ?_ | refine gd_ff ?_ | refine gd_tf ?_ | refine gd_ft ?_ | refine gd_u ?_ | refine pk_t ?_ | refine pk_f ?_ | refine iff_t ?_ | refine iff_f ?_ | refine not_t ?_ | refine not_f ?_ | refine beq_s ?_ | refine bne_s ?_ | refine ncP_p ?_ | refine nc_p ?_ | refine fld_at ?_ | refine xt_02 ?_ | refine xt_12 ?_ | refine xt_03 ?_ | refine xt_13 ?_ | refine xt_23 ?_ | refine eq_t (by omega) ?_ | refine eq_f (by omega) ?_ | refine ne_t (by omega) ?_ | refine ne_f (by omega) ?_ | refine lt_t (by omega) ?_ | refine lt_f (by omega) ?_ | refine gt_t (by omega) ?_ | refine gt_f (by omega) ?_ | refine ge_t (by omega) ?_ | refine ge_f (by omega) ?_ | refine le_t (by omega) ?_ | refine le_f (by omega) ?_)
    refine bnp_s _ ?_
    repeat (first | refine gd_tt ?_ | refine gd_ff ?_ | refine gd_tf ?_ | refine gd_ft ?_ | refine gd_u ?_ | refine pk_t ?_ | refine pk_f ?_ | refine iff_t ?_ | refine iff_f ?_ | refine not_t ?_ | refine not_f ?_ | refine beq_s ?_ | refine bne_s ?_ | refine ncP_p ?_ | refine nc_p ?_ | refine fld_at ?_ | refine xt_02 ?_ | refine xt_12 ?_ | refine xt_03 ?_ | refine xt_13 ?_ | refine xt_23 ?_ | refine eq_t (by omega) ?_ | refine eq_f (by omega) ?_ | refine ne_t (by omega) ?_ | refine ne_f (by omega) ?_ | refine lt_t (by omega) ?_ | refine lt_f (by omega) ?_ | refine gt_t (by omega) ?_ | refine gt_f (by omega) ?_ | refine ge_t (by omega) ?_ | refine ge_f (by omega) ?_ | refine le_t (by omega) ?_ | refine le_f (by omega) ?_)
    refine push1 te_64 (f := pt) (fun _ => rfl) (fun _ v hv => by simp [pt] at hv; subst hv; rfl) (h3.pick 1 rfl) (x := g) rfl (by omega) fun v' w4 h4 => ?_
    have h5 : Sat e w4 (IsClk g ⟨List.replicate n 0, i, 0⟩ :: sepL (allC gs fun i => mkC n i (fun _ => 0) 0) :: ownS 40 1 pt v' (gs ++ [g]) :: S :: R) := h4.selR [_, _, _] [_, _, _] [1, 2, 0] (by decide) rfl
    have h6 := sat_snoc h5
    rw [show (⟨List.replicate n 0, i, 0⟩ : Clk) = mkC n gs.length (fun _ => 0) 0 from by rw [hgl]; unfold mkC; congr 1; apply List.ext_getElem <;> simp, ← allC_snoc] at h6
    obtain ⟨x, hx⟩ := get_of_lt (l := l) (j := i) (by omega)
    have hxw := wf_u8 (hw x (List.mem_of_getElem? hx))
    have hli := hlook i x hx
    refine ixS_rd h6 2 rfl hr (fun _ => rfl) hx fun a ha => ?_
    refine ld1_of h6 2 rfl ha rfl ?_
    refine cv_s ?_
    rw [wrap_i64 (by omega) (by omega)]
    refine add_s (by omega) (by omega) ?_
    refine min_s ?_
    refine inc_s (by omega) ?_
    refine hg _ _ _ _ _ (by omega) ⟨i + 1, gs ++ [g], min least (1 + x), by omega, rfl, rfl, by simp [hgl], ⟨by omega, by omega, fun k hk => ?_⟩, h6.swap, rfl⟩
    by_cases hki : k = i
    · subst hki; omega
    · have := hls.2.2 k (by omega); omega
  obtain rfl : i = n := by omega
  -- the rounds
  refine lpi1 (fun m t13 w => ∃ (r : Nat) (T : Nat → Int), t13 = .int .i64 ((r + 1 : Nat) : Int) ∧ r ≤ 1 + rounds % 10 ∧ m = 20 - r ∧
    (∀ k, k < i → (r : Int) * least ≤ T k ∧ T k ≤ r * 256 ∧ 0 ≤ T k ∧ T k < bndC i k T + look k) ∧
    Sat e w (ownS 40 1 pt t8 gs :: sepL (allC gs fun k => mkC i k T (T k)) :: S :: R)) 20
    ⟨0, fun _ => 0, rfl, by omega, rfl, fun k hk => ⟨by simp, by simp, by simp, ?_⟩, h2⟩ ?_
  · have := hlk k hk
    obtain ⟨j, hj, hj2, hb⟩ := bndC_at (n := i) (i := k) (F := fun _ => 0) (by omega) (fun _ _ => by unfold Inf; omega)
    rw [hb]
    show (0 : Int) < 0 + look k
    omega
  rintro m _ w g2 ⟨r, T, rfl, hrr, rfl, hT, h3⟩ hg2
  clear h2 h1 hg hi c2
  refine cv_s ?_
  rw [wrap_i64 (by omega) (by omega)]
  refine rem_s (by decide) ?_
  rw [Int.tmod_eq_emod_of_nonneg (by omega)]
  refine add_s (by omega) (by omega) ?_
  refine le_c (fun c2 => iff_t ?_) (fun c2 => iff_f (hk _ h3.drop.drop))
  have hTle : ∀ k, k < i → T k ≤ 2560 ∧ T k ≤ Inf := fun k hk => by
    have := (hT k hk).2.1
    unfold Inf
    omega
  have hB : ∀ k, k < i → (r : Int) * least ≤ bndC i k T ∧ bndC i k T ≤ r * 256 ∧ 0 ≤ bndC i k T := fun k _ => by
    obtain ⟨j, hj, _, hb⟩ := bndC_at (n := i) (i := k) (F := T) (by omega) (fun j hj => (hTle j hj).2)
    have := hT j hj
    rw [hb]
    omega
  obtain ⟨T', hT'⟩ : ∃ T' : Nat → Int, ∀ k, T' k = bndC i k T + look k := ⟨fun k => bndC i k T + look k, fun _ => rfl⟩
  have hT2 : ∀ k, k < i → T k < T' k ∧ ((r + 1 : Nat) : Int) * least ≤ T' k ∧ T' k ≤ ((r + 1 : Nat) : Int) * 256 ∧ 0 ≤ T' k ∧ T' k ≤ 10000 := fun k hk => by
    have h1 := hT k hk
    have h2 := hB k hk
    have h3 := hlk k hk
    have h4 := hls.2.2 k hk
    rw [hT' k]
    refine ⟨by omega, ?_, by omega, by omega, by omega⟩
    have : ((r + 1 : Nat) : Int) * least = r * least + least := by rw [Int.natCast_add, Int.add_mul]; simp
    omega
  have hT3 : ∀ k, k < i → bndC i k T < bndC i k T' := fun k _ => by
    obtain ⟨j, hj, hjk, hb⟩ := bndC_at (n := i) (i := k) (F := T') (by omega) (fun j hj => by have := (hT2 j hj).2.2.2.2; unfold Inf; omega)
    have h1 := bndC_le (F := T) hj hjk
    have h2 := (hT2 j hj).1
    omega
  refine bsl0 h3 (intsK .i64) fun v2 w4 h4 => ?_
  -- all tell
  refine lpi2 (fun m t14 t15 w => ∃ j : Nat, j ≤ i ∧ t15 = .int .i64 j ∧ m = i - j ∧
    Sat e w (ownS 3 1 (intsK .i64) t14 ((List.range j).map T') :: ownS 40 1 pt t8 gs :: sepL (allC gs fun k => mkC i k T (if k < j then T' k else T k)) :: S :: R)) i
    ⟨0, Nat.zero_le _, rfl, rfl, by simpa using h4⟩ ?_
  rintro m t14 _ w g3 ⟨j, hj, rfl, rfl, h5⟩ hg3
  refine lt_c (fun c3 => iff_t ?_) (fun c3 => iff_f ?_)
  · refine dr_s h5 fun w6 h6 => ?_
    obtain ⟨gj, hgj⟩ := get_of_lt (l := gs) (j := j) (by omega)
    obtain ⟨x, hx⟩ := get_of_lt (l := l) (j := j) (by omega)
    have hxw := wf_u8 (hw x (List.mem_of_getElem? hx))
    have hlj := hlook j x hx
    refine ixS_rd h6 1 rfl (fun g hg => own_rd hg) (fun _ => rfl) hgj fun a ha => ?_
    refine ld1_of h6 1 rfl ha rfl ?_
    refine ixS_rd h6 3 rfl hr (fun _ => rfl) hx fun a ha => ?_
    refine ld1_of h6 3 rfl ha rfl ?_
    refine cv_s ?_
    rw [wrap_i64 (by omega) (by omega)]
    refine add_s (by omega) (by omega) ?_
    have hcj := allC_get (c := fun k => mkC i k T (if k < j then T' k else T k)) hgj
    have h7 := (h6.pick 2 rfl).focus j hcj
    have hb := hB j (by omega)
    obtain ⟨e1, e2⟩ := goes_tell (n := i) (i := j) (F := T) (t := T j) (k := 1 + x) ⟨hb.2.2, by omega⟩ (by rw [← hlj]; exact hlk j (by omega)) (by rw [← hlj]; exact (hT j (by omega)).2.2.2)
    rw [← hlj, ← hT' j] at e1
    rw [if_neg (Nat.lt_irrefl j)] at h7
    refine clock_Tell_s h7 fun w8 h8 => ?_
    rw [show (1 + x) = look j from hlj.symm] at e2 h8 ⊢
    rw [show (1125899906842624 : Int) = Inf from rfl] at h8 ⊢
    rw [e1] at h8 ⊢
    rw [e2]
    repeat (first | refine gd_tt ?_ | refine gd_ff ?_ | refine gd_tf ?_ | refine gd_ft ?_ | refine gd_u ?_ | refine pk_t ?_ | refine pk_f ?_ | refine iff_t ?_ | refine iff_f ?_ | refine not_t ?_ | refine not_f ?_ | refine beq_s ?_ | refine bne_s ?_ | refine ncP_p ?_ | refine nc_p ?_ | refine fld_at ?_ | refine xt_02 ?_ | refine xt_12 ?_ | refine xt_03 ?_ | refine xt_13 ?_ | refine xt_23 ?_ | refine eq_t (by omega) ?_ | refine eq_f (by omega) ?_ | refine ne_t (by omega) ?_ | refine ne_f (by omega) ?_ | refine lt_t (by omega) ?_ | refine lt_f (by omega) ?_ | refine gt_t (by omega) ?_ | refine gt_f (by omega) ?_ | refine ge_t (by omega) ?_ | refine ge_f (by omega) ?_ | refine le_t (by omega) ?_ | refine le_f (by omega) ?_)
    have h9 := Sat.unfocus j hcj h8
    rw [allC_set hgj] at h9
    refine push1 te_65 (f := intsK .i64) (fun _ => rfl) (fun _ => intsK_flat _) (h9.pick 1 rfl) (x := T' j) rfl (by simp; omega) fun v' w10 h10 => ?_
    refine inc_s (by omega) ?_
    refine hg3 _ _ _ _ (by omega) ⟨j + 1, by omega, rfl, rfl, ?_⟩
    have h11 := h10.selR [_, _, _, _] [_, _, _, _] [0, 2, 1, 3] (by decide) rfl
    rw [List.range_succ, List.map_append, List.map_singleton]
    rw [allC_congr (d := fun k => mkC i k T (if k < j + 1 then T' k else T k)) (fun k _ => ?_)] at h11
    · exact h11
    · by_cases hkj : k = j
      · subst hkj; simp
      · by_cases hkl : k < j
        · simp [hkj, hkl, show k < j + 1 from by omega]
        · simp [hkj, hkl, show ¬ k < j + 1 from by omega]
  obtain rfl : j = i := by omega
  rw [allC_congr (d := fun k => mkC j k T (T' k)) (fun k hk => by simp [show k < j from by omega])] at h5
  clear h4 h3
  -- all hear
  refine lpi1 (fun m t18 w => ∃ k : Nat, k ≤ j ∧ t18 = .int .i64 k ∧ m = j - k ∧
    Sat e w (ownS 3 1 (intsK .i64) t14 ((List.range j).map T') :: ownS 40 1 pt t8 gs :: sepL (allC gs fun q => mkC j q (if q < k then T' else T) (T' q)) :: S :: R)) j
    ⟨0, Nat.zero_le _, rfl, rfl, by simpa using h5⟩ ?_
  rintro m _ w g4 ⟨k, hkj, rfl, rfl, h6⟩ hg4
  refine lt_c (fun c4 => iff_t ?_) (fun c4 => iff_f ?_)
  · obtain ⟨gk, hgk⟩ := get_of_lt (l := gs) (j := k) (by omega)
    refine lpi1 (fun m t19 w => ∃ q : Nat, q ≤ j ∧ t19 = .int .i64 q ∧ m = j - q ∧
      Sat e w (ownS 3 1 (intsK .i64) t14 ((List.range j).map T') :: ownS 40 1 pt t8 gs :: sepL (allC gs fun z => if z = k then mkC j k (fun y => if y < q then T' y else T y) (T' k) else mkC j z (if z < k then T' else T) (T' z)) :: S :: R)) j
      ⟨0, Nat.zero_le _, rfl, rfl, ?_⟩ ?_
    · rw [allC_congr (d := fun q => mkC j q (if q < k then T' else T) (T' q)) (fun z _ => ?_)]
      · exact h6
      · by_cases hz : z = k
        · subst hz; simp
        · simp [hz]
    rintro m _ w g5 ⟨q, hqj, rfl, rfl, h7⟩ hg5
    refine lt_c (fun c5 => iff_t ?_) (fun c5 => iff_f ?_)
    · refine dr_s h7 fun w8 h8 => ?_
      refine ne_c (fun c6 => ?_) (fun c6 => ?_)
      · repeat (first | refine gd_tt ?_ | refine gd_ff ?_ | refine gd_tf ?_ | refine gd_ft ?_ | refine gd_u ?_ | refine pk_t ?_ | refine pk_f ?_ | refine iff_t ?_ | refine iff_f ?_ | refine not_t ?_ | refine not_f ?_ | refine beq_s ?_ | refine bne_s ?_ | refine ncP_p ?_ | refine nc_p ?_ | refine fld_at ?_ | refine xt_02 ?_ | refine xt_12 ?_ | refine xt_03 ?_ | refine xt_13 ?_ | refine xt_23 ?_ | refine eq_t (by omega) ?_ | refine eq_f (by omega) ?_ | refine ne_t (by omega) ?_ | refine ne_f (by omega) ?_ | refine lt_t (by omega) ?_ | refine lt_f (by omega) ?_ | refine gt_t (by omega) ?_ | refine gt_f (by omega) ?_ | refine ge_t (by omega) ?_ | refine ge_f (by omega) ?_ | refine le_t (by omega) ?_ | refine le_f (by omega) ?_)
        refine ixS_rd h8 1 rfl (fun g hg => own_rd hg) (fun _ => rfl) hgk fun a ha => ?_
        refine gd_tt (ld1_of h8 1 rfl ha rfl ?_)
        repeat (first | refine gd_tt ?_ | refine gd_ff ?_ | refine gd_tf ?_ | refine gd_ft ?_ | refine gd_u ?_ | refine pk_t ?_ | refine pk_f ?_ | refine iff_t ?_ | refine iff_f ?_ | refine not_t ?_ | refine not_f ?_ | refine beq_s ?_ | refine bne_s ?_ | refine ncP_p ?_ | refine nc_p ?_ | refine fld_at ?_ | refine xt_02 ?_ | refine xt_12 ?_ | refine xt_03 ?_ | refine xt_13 ?_ | refine xt_23 ?_ | refine eq_t (by omega) ?_ | refine eq_f (by omega) ?_ | refine ne_t (by omega) ?_ | refine ne_f (by omega) ?_ | refine lt_t (by omega) ?_ | refine lt_f (by omega) ?_ | refine gt_t (by omega) ?_ | refine gt_f (by omega) ?_ | refine ge_t (by omega) ?_ | refine ge_f (by omega) ?_ | refine le_t (by omega) ?_ | refine le_f (by omega) ?_)
        have hq : ((List.range j).map T')[q]? = some (T' q) := by simp [show q < j from by omega]
        refine ixS_rd h8 0 rfl (fun g hg => own_rd hg) (fun _ => rfl) hq fun a ha => ?_
        refine gd_tt (ld1_of h8 0 rfl ha rfl ?_)
        have hck := allC_get (c := fun z => if z = k then mkC j k (fun y => if y < q then T' y else T y) (T' k) else mkC j z (if z < k then T' else T) (T' z)) hgk
        have h9 := (h8.pick 2 rfl).focus k hck
        rw [if_pos rfl] at h9
        have hTq := hT2 q (by omega)
        obtain ⟨e1, e2⟩ := goes_hear (n := j) (i := k) (j := q) (F := fun y => if y < q then T' y else T y) (t := T' k) (x := T' q) (by omega) (by omega) ⟨hTq.2.2.2.1, hTq.2.2.2.2⟩ (by simp; omega)
        refine gd_tt (clock_Hear_s (by unfold In64; omega) h9 fun w10 h10 => ?_)
        rw [e2] at h10
        rw [e1]
        repeat (first | refine gd_tt ?_ | refine gd_ff ?_ | refine gd_tf ?_ | refine gd_ft ?_ | refine gd_u ?_ | refine pk_t ?_ | refine pk_f ?_ | refine iff_t ?_ | refine iff_f ?_ | refine not_t ?_ | refine not_f ?_ | refine beq_s ?_ | refine bne_s ?_ | refine ncP_p ?_ | refine nc_p ?_ | refine fld_at ?_ | refine xt_02 ?_ | refine xt_12 ?_ | refine xt_03 ?_ | refine xt_13 ?_ | refine xt_23 ?_ | refine eq_t (by omega) ?_ | refine eq_f (by omega) ?_ | refine ne_t (by omega) ?_ | refine ne_f (by omega) ?_ | refine lt_t (by omega) ?_ | refine lt_f (by omega) ?_ | refine gt_t (by omega) ?_ | refine gt_f (by omega) ?_ | refine ge_t (by omega) ?_ | refine ge_f (by omega) ?_ | refine le_t (by omega) ?_ | refine le_f (by omega) ?_)
        have h11 := Sat.unfocus k hck h10
        rw [allC_set hgk] at h11
        refine inc_s (by omega) ?_
        refine hg5 _ _ _ (by omega) ⟨q + 1, by omega, rfl, rfl, ?_⟩
        rw [allC_congr (d := fun z => if z = k then mkC j k (fun y => if y < q + 1 then T' y else T y) (T' k) else mkC j z (if z < k then T' else T) (T' z)) (fun z _ => ?_)] at h11
        · exact h11.selR [_, _, _] [_, _, _] [1, 2, 0] (by decide) rfl
        · by_cases hz : z = k
          · simp only [if_pos hz]
            refine mkC_congr fun y _ _ => ?_
            by_cases hyq : y = q
            · subst hyq; simp
            · by_cases hyl : y < q
              · simp [hyq, hyl, show y < q + 1 from by omega]
              · simp [hyq, hyl, show ¬ y < q + 1 from by omega]
          · simp only [if_neg hz]
      · repeat (first | refine gd_tt ?_ | refine gd_ff ?_ | refine gd_tf ?_ | refine gd_ft ?_ | refine gd_u ?_ | refine pk_t ?_ | refine pk_f ?_ | refine iff_t ?_ | refine iff_f ?_ | refine not_t ?_ | refine not_f ?_ | refine beq_s ?_ | refine bne_s ?_ | refine ncP_p ?_ | refine nc_p ?_ | refine fld_at ?_ | refine xt_02 ?_ | refine xt_12 ?_ | refine xt_03 ?_ | refine xt_13 ?_ | refine xt_23 ?_ | refine eq_t (by omega) ?_ | refine eq_f (by omega) ?_ | refine ne_t (by omega) ?_ | refine ne_f (by omega) ?_ | refine lt_t (by omega) ?_ | refine lt_f (by omega) ?_ | refine gt_t (by omega) ?_ | refine gt_f (by omega) ?_ | refine ge_t (by omega) ?_ | refine ge_f (by omega) ?_ | refine le_t (by omega) ?_ | refine le_f (by omega) ?_)
        refine inc_s (by omega) ?_
        refine hg5 _ _ _ (by omega) ⟨q + 1, by omega, rfl, rfl, ?_⟩
        rw [allC_congr (d := fun z => if z = k then mkC j k (fun y => if y < q + 1 then T' y else T y) (T' k) else mkC j z (if z < k then T' else T) (T' z)) (fun z _ => ?_)] at h8
        · exact h8
        · by_cases hz : z = k
          · simp only [if_pos hz]
            refine mkC_congr fun y _ hy => ?_
            have : y ≠ q := by omega
            by_cases hyl : y < q
            · simp [hyl, show y < q + 1 from by omega]
            · simp [hyl, show ¬ y < q + 1 from by omega]
          · simp only [if_neg hz]
    obtain rfl : q = j := by omega
    rw [allC_congr (d := fun z => mkC q z (if z < k + 1 then T' else T) (T' z)) (fun z _ => ?_)] at h7
    · refine ixS_rd h7 1 rfl (fun g hg => own_rd hg) (fun _ => rfl) hgk fun a ha => ?_
      refine ld1_of h7 1 rfl ha rfl ?_
      have hck := allC_get (c := fun z => mkC q z (if z < k + 1 then T' else T) (T' z)) hgk
      refine clock_Bound_s ((h7.pick 2 rfl).focus k hck) fun w8 h8 => ?_
      have h9 := Sat.unfocus k hck h8
      rw [allC_set hgk] at h9
      rw [mkC_bound, if_pos (Nat.lt_succ_self k)]
      have hge : ((r + 1 : Nat) : Int) * least ≤ bndC q k T' := by
        obtain ⟨y, hy, _, hb⟩ := bndC_at (n := q) (i := k) (F := T') (by omega) (fun y hy => by have := (hT2 y hy).2.2.2.2; unfold Inf; omega)
        rw [hb]
        exact (hT2 y hy).2.1
      have hmul : 0 ≤ ((r + 1 : Nat) : Int) * least ∧ ((r + 1 : Nat) : Int) * least ≤ 20000 := by
        have h1 : ((r + 1 : Nat) : Int) * least ≤ 20 * 1000 := Int.mul_le_mul (by omega) (by omega) (by omega) (by omega)
        have h2 : 0 ≤ ((r + 1 : Nat) : Int) * least := Int.mul_nonneg (by omega) (by omega)
        omega
      refine mul_s (by omega) (by omega) ?_
      repeat (first | refine gd_tt ?_ | refine gd_ff ?_ | refine gd_tf ?_ | refine gd_ft ?_ | refine gd_u ?_ | refine pk_t ?_ | refine pk_f ?_ | refine iff_t ?_ | refine iff_f ?_ | refine not_t ?_ | refine not_f ?_ | refine beq_s ?_ | refine bne_s ?_ | refine ncP_p ?_ | refine nc_p ?_ | refine fld_at ?_ | refine xt_02 ?_ | refine xt_12 ?_ | refine xt_03 ?_ | refine xt_13 ?_ | refine xt_23 ?_ | refine eq_t (by omega) ?_ | refine eq_f (by omega) ?_ | refine ne_t (by omega) ?_ | refine ne_f (by omega) ?_ | refine lt_t (by omega) ?_ | refine lt_f (by omega) ?_ | refine gt_t (by omega) ?_ | refine gt_f (by omega) ?_ | refine ge_t (by omega) ?_ | refine ge_f (by omega) ?_ | refine le_t (by omega) ?_ | refine le_f (by omega) ?_)
      refine inc_s (by omega) ?_
      refine hg4 _ _ _ (by omega) ⟨k + 1, by omega, rfl, rfl, ?_⟩
      rw [allC_congr (d := fun z => mkC q z (if z < k + 1 then T' else T) (T' z)) (fun z _ => ?_)] at h9
      · exact h9.selR [_, _, _] [_, _, _] [1, 2, 0] (by decide) rfl
      · by_cases hz : z = k
        · simp [hz]
        · simp [hz]
    · by_cases hz : z = k
      · subst hz
        simp only [if_true, if_pos (Nat.lt_succ_self z)]
        exact mkC_congr fun y hy _ => by simp [hy]
      · by_cases hzl : z < k
        · simp [hz, hzl, show z < k + 1 from by omega]
        · simp [hz, hzl, show ¬ z < k + 1 from by omega]
  obtain rfl : k = j := by omega
  refine inc_s (by omega) ?_
  refine hg2 _ _ _ (by omega) ⟨r + 1, T', by rfl, by omega, rfl, fun z hz => ?_, ?_⟩
  · have h1 := hT2 z hz
    have h2 := hT3 z hz
    have h3 := hT' z
    exact ⟨h1.2.1, h1.2.2.1, h1.2.2.2.1, by omega⟩
  · rw [allC_congr (d := fun z => mkC k z T' (T' z)) (fun z hz => by simp [show z < k from by omega])] at h6
    exact h6.drop
end Go.Proofs.Ytiiekfcfledkhaa
