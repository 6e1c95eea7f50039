/- The run-time infrastructure: the table of classes, its making, and who is a member. Conditions: the federates are 0 to 7, all checks hold. -/
import Derived.Test.YtmgaooeeddmbmaaGreatDoorRtiA
import Derived.Test.YtmgaooeeddmbmaaGreatDoorPf0
import Derived.Test.YtmgaooeeddmbmaaGreatDoorPf1
import Derived.Test.YtmgaooeeddmbmaaGreatDoorPf2
import Derived.Test.YtmgaooeeddmbmaaGreatDoorPf3
import Derived.Test.YtmgaooeeddmbmaaGreatDoorPf4
namespace Go.Proofs.YtmgaooeeddmbmaaGreatDoor
open Go Go.E
set_option maxRecDepth 100000
variable {e w : World} {R : List HP} {K : KV}

theorem J0.go {rest : World → Prop} {body : (World → Prop) → Prop} (h : body rest) : J0 rest body := h
theorem J1.go {rest : Value → World → Prop} {body : (Value → World → Prop) → Prop} (h : body rest) : J1 rest body := h
theorem J2.go {rest : Value → Value → World → Prop} {body : (Value → Value → World → Prop) → Prop} (h : body rest) : J2 rest body := h

/-! ### The table -/
theorem tree_Check_s {v : Value} {n : Nat} {S : HP} (h1 : 1 ≤ n) (h2 : n ≤ 8) (hS : Sat e w (S :: R)) (hr : ∀ g, S g → rdS 1 (intsK .i64) v (List.replicate n (-1)) g) (hk : ∀ w', Sat e w' (S :: R) → K (.int .i64 0) w') :
    Cl prog 32 #[v] w K := by
  refine tree_Check_calls ?_
  unfold tree_Check
  refine lnS_rd hS 0 rfl hr ?_
  rw [List.length_replicate]
  refine lt_f (by omega) (gd_ff (gd_ff (gt_f (by omega) (pk_f (iff_f ?_)))))
  refine lnS_rd hS 0 rfl hr ?_
  rw [List.length_replicate]
  refine lp1 (fun t16 w => ∃ j : Nat, j ≤ n ∧ t16 = .int .i64 j ∧ Sat e w (S :: R)) (fun t16 _ => n - nOf t16) ⟨0, Nat.zero_le _, rfl, hS⟩ ?_
  rintro _ w g ⟨j, hj, rfl, h3⟩ hg
  refine lt_c (fun c => iff_t ?_) (fun c => iff_f ?_)
  · refine ixS_rd h3 0 rfl hr (fun _ => rfl) (x := -1) (by rw [List.getElem?_replicate, if_pos (by omega)]) fun a ha => ?_
    refine ld1_of h3 0 rfl ha (by rfl) ?_
    refine lt_f (by omega) (gd_ff (gd_ff (gd_ff (ge_f (by omega) (pk_f (iff_f ?_))))))
    refine inc_s (by omega) ?_
    exact hg _ _ ⟨j + 1, by omega, rfl, h3⟩ (by simp [nOf]; omega)
  · exact hk _ h3
abbrev IU (v : Value) (l : List Int) : HP := ownS 50 1 (intsK .u32) v l
abbrev II (v : Value) (l : List Int) : HP := ownS 3 1 (intsK .i64) v l
abbrev aboves (n : Nat) : List Int := (List.range n).map bitV
theorem cvU {c : Nat} (hc : c < 1000) (hk : K (.int .u64 (c : Int)) w) : cvI .u64 (.int .i64 (c : Int)) w K := by
  refine cv_s ?_
  rw [wrap_u64n (by omega)]
  exact hk
theorem pubsub_New_s {v : Value} {n : Nat} {S : HP} (h1 : 1 ≤ n) (h2 : n ≤ 8) (hS : Sat e w (S :: R)) (hr : ∀ g, S g → rdS 1 (intsK .i64) v (List.replicate n (-1)) g)
    (hk : ∀ tb av w', Sat e w' (blk tb 82 (tcs av (fun _ => 0) (fun _ => 0)) :: IU av (aboves n) :: S :: R) → K (.tuple #[pt tb, .int .i64 0]) w') : Cl prog 14 #[v] w K := by
  refine pubsub_New_calls ?_
  unfold pubsub_New
  refine tree_Check_s h1 h2 hS hr fun w1 h3 => ?_
  refine ne_f rfl (iff_f ?_)
  refine bld_s (tcs (.slice none 0 0) (fun _ => 0) (fun _ => 0)) (by kernel_rfl) ?_
  refine al_s (cs := tcs (.slice none 0 0) (fun _ => 0) (fun _ => 0)) h3 rfl fun tb w2 h4 => ?_
  refine lnS_rd h4 1 rfl hr ?_
  rw [List.length_replicate]
  refine lp1 (fun t18 w => ∃ (j : Nat) (av : Value), j ≤ n ∧ t18 = .int .i64 j ∧ Sat e w (IU av (aboves j) :: blk tb 82 (tcs av (fun _ => 0) (fun _ => 0)) :: S :: R)) (fun t18 _ => n - nOf t18)
    ⟨0, .slice none 0 0, Nat.zero_le _, rfl, h4.own_nil 50 1 (intsK .u32)⟩ ?_
  rintro _ w g ⟨j, av, hj, rfl, h5⟩ hg
  refine lt_c (fun c => iff_t ?_) (fun c => iff_f ?_)
  · refine ixS_rd h5 2 rfl hr (fun _ => rfl) (x := -1) (by rw [List.getElem?_replicate, if_pos (by omega)]) fun a ha => ?_
    refine ld1_of h5 2 rfl ha (by rfl) ?_
    refine cvU (by omega) (shl_s (by omega) (ge_f (by omega) (J1.go (iff_f ?_))))
    refine ncP_p (fld_at (ld1_at h5 1 rfl (v := av) rfl ?_))
    refine push1 te_79 (f := intsK .u32) (fun _ => rfl) (fun _ => intsK_flat _) h5 (x := bitV j) rfl (by simp; omega) fun v' w4 h6 => ?_
    refine ncP_p (fld_at ?_)
    refine st1_at h6 1 rfl (h6.own_cells 0 rfl) (by rw [tcs_len]; decide) rfl fun w5 h7 => ?_
    refine inc_s (by omega) ?_
    refine hg _ _ ⟨j + 1, v', by omega, rfl, ?_⟩ (by simp [nOf]; omega)
    rw [show aboves (j + 1) = aboves j ++ [bitV j] from by show (List.range (j + 1)).map bitV = _; rw [List.range_succ, List.map_append]; rfl]
    exact h7
  · obtain rfl : j = n := by omega
    exact hk _ _ _ h5.swap
theorem eqNilI_s {A : Option Addr} {n c : Nat} {xo yo : Operand} (hk : K (.bool A.isNone) w) : bO prog .eql 23 xo yo (.slice A n c) (.slice none 0 0) w K := by
  cases A with
  | none => exact ex_oV (w' := w) (v := .bool true) (by kernel_rfl) hk
  | some a => exact ex_oV (w' := w) (v := .bool false) (by kernel_rfl) hk
theorem cloneI_s {v : Value} {l : List Int} {S : HP} (hl : l.length ≤ 1000000) (hS : Sat e w (S :: R)) (hr : ∀ g, S g → rdS 1 (intsK .i64) v l g)
    (hk : ∀ v' w', Sat e w' (II v' l :: S :: R) → K v' w') : Cl prog 15 #[v] w K := by
  refine slices_Clone_int_int_calls ?_
  unfold slices_Clone_int_int
  obtain ⟨A, c, rfl, _⟩ := hS.shape 0 rfl hr
  refine eqNilI_s ?_
  cases A with
  | none =>
    have hl0 : l = [] := by
      obtain ⟨g, hg, _⟩ := hS.get 0 rfl
      obtain ⟨A', c', h1, h2, h3⟩ := hr g hg
      injection h1 with e1 e2 e3
      by_cases h0 : 0 < l.length
      · obtain ⟨a, ha, _⟩ := h3 h0
        rw [← e1] at ha
        cases ha
      · exact List.length_eq_zero_iff.1 (by omega)
    subst hl0
    exact iff_t (hk _ _ (hS.own_nil 3 1 (intsK .i64)))
  | some a =>
    refine iff_f ?_
    refine bsl0 hS (intsK .i64) fun v1 w2 h2 => ?_
    refine apS_own te_23 und_23 (f := intsK .i64) (fun _ => rfl) (fun _ => intsK_flat _) h2 hr (by simp; omega) fun v2 w3 h3 => ?_
    rw [List.nil_append] at h3
    exact hk _ _ h3

theorem tb_check_s {f c n tb : Nat} {av : Value} {p s : Nat → Int} (hf : f < 8) (hc : c < n) (hS : Sat e w (blk tb 82 (tcs av p s) :: IU av (aboves n) :: R)) (hk : K (.int .i64 0) w) :
    Cl prog 35 #[pt tb, .int .i64 (f : Int), .int .i64 (c : Int)] w K := by
  refine pubsub_Table_check_calls ?_
  unfold pubsub_Table_check
  refine lt_f (by omega) (gd_ff (gd_ff (ge_f (by omega) (pk_f (iff_f ?_)))))
  refine lt_f (by omega) (gd_ff (gd_ff (gd_ff (nc_p (gd_ff (fld_at (gd_ff ?_)))))))
  refine ld1_at hS 0 rfl (v := av) rfl (gd_ff ?_)
  refine lnS_rd hS 1 rfl (fun g hg => own_rd hg) ?_
  refine gd_ff (ge_f (by simp; omega) (pk_f (iff_f hk)))
theorem turn1_s {b off c : Nat} {t : TypeId} {cs cs' : List Value} {L : List HP} (hc : c < 8) (hS : Sat e w L) (i : Nat) (hi : L[i]? = some (blk b t cs)) (hv : cs[off]? = some (.int .u32 0)) (hs : wrL cs off [.int .u32 (bitV c)] = cs')
    (hk : ∀ w', Sat e w' (L.set i (blk b t cs')) → K (.tuple #[]) w') : clV prog (.func (.func 60) #[] #[]) #[.pointer (some ⟨b, off, none⟩), .int .i64 (c : Int)] w K := by
  refine ⟨_, _, _, rfl, ?_⟩
  refine pubsub_turn_1_calls (t0 := .pointer (some ⟨b, off, none⟩)) (t1 := .int .i64 (c : Int)) ?_
  unfold pubsub_turn_1
  refine ncP_p (ld1_at hS i hi hv (cvU (by omega) (shl_s hc (bit_or (or_bit hc) (ncP_p ?_)))))
  have hb := (List.getElem?_eq_some_iff.1 hv).1
  exact stN_at hS i hi (vs := [.int .u32 (bitV c)]) rfl rfl (by omega) (by simp [flat]) hs hk
theorem tb_Publish_s {f c n tb : Nat} {av : Value} {p s : Nat → Int} (hf : f < 8) (hc : c < n) (hn : n ≤ 8) (h0 : p f = 0) (hS : Sat e w (blk tb 82 (tcs av p s) :: IU av (aboves n) :: R))
    (hk : ∀ w', Sat e w' (blk tb 82 (tcs av (upM p f (bitV c)) s) :: IU av (aboves n) :: R) → K (.int .i64 0) w') :
    Cl prog 20 #[pt tb, .int .i64 (f : Int), .int .i64 (c : Int), .bool true] w K := by
  refine pubsub_Table_Publish_calls ?_
  unfold pubsub_Table_Publish
  refine tb_check_s hf hc hS (ne_f rfl (iff_f ?_))
  refine dr_s hS fun w1 h1 => ?_
  refine ncP_p (fld_at (ixA_at hf ?_))
  refine pubsub_turn_calls (iff_t ?_)
  have h2 := tcs_p (av := av) (p := p) (s := s) f hf
  rw [h0] at h2
  exact turn1_s (by omega) h1 0 rfl h2 (tcs_setP f hf) fun w2 h3 => hk _ h3
theorem tb_Subscribe_s {f c n tb : Nat} {av : Value} {p s : Nat → Int} (hf : f < 8) (hc : c < n) (hn : n ≤ 8) (h0 : s f = 0) (hS : Sat e w (blk tb 82 (tcs av p s) :: IU av (aboves n) :: R))
    (hk : ∀ w', Sat e w' (blk tb 82 (tcs av p (upM s f (bitV c))) :: IU av (aboves n) :: R) → K (.int .i64 0) w') :
    Cl prog 37 #[pt tb, .int .i64 (f : Int), .int .i64 (c : Int), .bool true] w K := by
  refine pubsub_Table_Subscribe_calls ?_
  unfold pubsub_Table_Subscribe
  refine tb_check_s hf hc hS (ne_f rfl (iff_f ?_))
  refine dr_s hS fun w1 h1 => ?_
  refine ncP_p (fld_at (ixA_at hf ?_))
  refine pubsub_turn_calls (iff_t ?_)
  have h2 := tcs_s (av := av) (p := p) (s := s) f hf
  rw [h0] at h2
  exact turn1_s (by omega) h1 0 rfl h2 (tcs_setS f hf) fun w2 h3 => hk _ h3
/-- Who hears a class: the federate f's own publishing is the class f alone, a federate g hears the class g - 1 if it hears any. -/
def subW (n g : Nat) : Int := bitW (decide (1 ≤ g ∧ g < n)) (g - 1)
def routes (n f : Nat) : List Int := if f + 1 < n then [((f + 1 : Nat) : Int)] else []
theorem tb_Route_s {f n tb : Nat} {av : Value} {p s : Nat → Int} (hf : f < n) (hn : n ≤ 8) (hp : p f = bitV f) (hs : ∀ g, g < 8 → s g = subW n g) (hS : Sat e w (blk tb 82 (tcs av p s) :: IU av (aboves n) :: R))
    (hk : ∀ v w', Sat e w' (II v (routes n f) :: blk tb 82 (tcs av p s) :: IU av (aboves n) :: R) → K (.tuple #[v, .int .i64 0]) w') :
    Cl prog 24 #[pt tb, .int .i64 (f : Int), .int .i64 (f : Int)] w K := by
  refine pubsub_Table_Route_calls ?_
  unfold pubsub_Table_Route
  refine tb_check_s (by omega) hf hS (ne_f rfl (iff_f ?_))
  have hpub : ∀ {K : KV}, K (.bool true) w → Cl prog 40 #[pt tb, .int .i64 (f : Int), .int .i64 (f : Int)] w K := by
    intro K hk
    refine pubsub_Table_Publishes_calls ?_
    unfold pubsub_Table_Publishes
    refine tb_check_s (by omega) hf hS (eq_t rfl ?_)
    refine gd_tt (gd_tt (gd_tt (nc_p (gd_tt (fld_at (gd_tt (ixA_at (by omega) (gd_tt ?_))))))))
    have h2 := tcs_p (av := av) (p := p) (s := s) f (by omega)
    rw [hp] at h2
    refine ld1_at hS 0 rfl h2 (gd_tt (gd_tt (cvU (by omega) (gd_tt (shr_s (by omega) (gd_tt (bit_and one_bit (gd_tt (eq_t rfl (pk_t hk))))))))))
  refine hpub (not_t (iff_f ?_))
  refine ncP_p (fld_at ?_)
  refine ldN_at hS 0 (vs := [.int .u32 (s 0), .int .u32 (s 1), .int .u32 (s 2), .int .u32 (s 3), .int .u32 (s 4), .int .u32 (s 5), .int .u32 (s 6), .int .u32 (s 7)]) rfl (by rfl) rfl ?_
  have hsg : ∀ g, g < 8 → [Value.int .u32 (s 0), .int .u32 (s 1), .int .u32 (s 2), .int .u32 (s 3), .int .u32 (s 4), .int .u32 (s 5), .int .u32 (s 6), .int .u32 (s 7)][g]? = some (.int .u32 (s g)) := by
    intro g hg
    match g, hg with
    | 0, _ => rfl | 1, _ => rfl | 2, _ => rfl | 3, _ => rfl | 4, _ => rfl | 5, _ => rfl | 6, _ => rfl | 7, _ => rfl
  refine lp2 (fun t9 t28 w => ∃ j : Nat, j ≤ 8 ∧ t28 = .int .i64 j ∧ Sat e w (II t9 (if j ≤ f + 1 then [] else routes n f) :: blk tb 82 (tcs av p s) :: IU av (aboves n) :: R)) (fun _ t28 _ => 8 - nOf t28)
    ⟨0, Nat.zero_le _, rfl, by rw [if_pos (Nat.zero_le _)]; exact hS.own_nil 3 1 (intsK .i64)⟩ ?_
  rintro t9 _ w g ⟨j, hj, rfl, h1⟩ hg
  refine lt_c (fun c => iff_t ?_) (fun c => iff_f ?_)
  · have hj8 : j < 8 := by omega
    refine J1.cut (fun t w => Sat e w (II t (if j + 1 ≤ f + 1 then [] else routes n f) :: blk tb 82 (tcs av p s) :: IU av (aboves n) :: R)) (fun k hkk => ?_) (fun t w h2 => ?_)
    · refine ixV_1 (n := 8) (e := 50) (by kernel_rfl) (by kernel_rfl) (by kernel_rfl) (by kernel_rfl) hj8 (hsg j hj8) ?_
      by_cases hjf : j = f
      · refine ne_f (by omega) ?_
        iterate 10 refine gd_ft ?_
        refine pk_f (iff_f ?_)
        rw [if_pos (by omega)] at h1
        exact hkk _ _ (by rw [if_pos (by omega)]; exact h1)
      · refine ne_t (by omega) (gd_tt (gd_tt (gd_tt (nc_p (gd_tt (fld_at (gd_tt ?_)))))))
        refine ld1_at h1 1 rfl (v := av) rfl (gd_tt (gd_tt ?_))
        refine ixS_rd h1 2 rfl (fun g hg => own_rd hg) (fun _ => rfl) (x := bitV f) (by simp [hf]) fun a ha => gd_tt ?_
        refine ld1_of h1 2 rfl ha (by rfl) (gd_tt ?_)
        rw [hs j hj8]
        refine bit_and (and_bit (by omega) (by omega)) (gd_tt ?_)
        by_cases hh : (1 ≤ j ∧ j < n) ∧ j - 1 = f
        · refine ne_t (by rw [bitW_ne]; simp; omega) (pk_t (iff_t ?_))
          rw [if_pos (by omega)] at h1
          refine push1 te_23 (f := intsK .i64) (fun _ => rfl) (fun _ => intsK_flat _) h1 (x := (j : Int)) rfl (by simp) fun v' w4 h6 => ?_
          refine hkk _ _ ?_
          rw [if_neg (by omega)]
          unfold routes
          rw [if_pos (by omega), show ((f + 1 : Nat) : Int) = (j : Int) by omega]
          exact h6
        · refine ne_f (Classical.byContradiction fun h => hh (by have := bitW_ne.1 h; simp at this; omega)) (pk_t (iff_f ?_))
          refine hkk _ _ ?_
          by_cases h3 : j ≤ f + 1
          · rw [if_pos h3] at h1
            by_cases h4 : j + 1 ≤ f + 1
            · rw [if_pos h4]; exact h1
            · rw [if_neg h4]
              unfold routes
              rw [if_neg (by omega)]
              exact h1
          · rw [if_neg h3] at h1
            rw [if_neg (by omega)]
            exact h1
    · refine inc_s (by omega) ?_
      exact hg _ _ _ ⟨j + 1, by omega, rfl, h2⟩ (by simp [nOf]; omega)
  · obtain rfl : j = 8 := by omega
    by_cases h3 : 8 ≤ f + 1
    · rw [if_pos h3] at h1
      have h4 : routes n f = [] := by unfold routes; rw [if_neg (by omega)]
      rw [h4] at hk
      exact hk _ _ h1
    · rw [if_neg h3] at h1
      exact hk _ _ h1
end Go.Proofs.YtmgaooeeddmbmaaGreatDoor
