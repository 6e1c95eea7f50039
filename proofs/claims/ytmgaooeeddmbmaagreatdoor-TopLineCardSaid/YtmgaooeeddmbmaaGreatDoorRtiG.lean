/- The run-time infrastructure: List of a queue of one message at most, what grant decides there, and Look. Conditions: the federates are 0 to 7; one message waits, and is below the bound. -/
import Derived.Test.YtmgaooeeddmbmaaGreatDoorRtiF
import Derived.Test.YtmgaooeeddmbmaaGreatDoorPf0
import Derived.Test.YtmgaooeeddmbmaaGreatDoorPf1
import Derived.Test.YtmgaooeeddmbmaaGreatDoorPf2
import Derived.Test.YtmgaooeeddmbmaaGreatDoorPf3
import Derived.Test.YtmgaooeeddmbmaaGreatDoorPf4
namespace Go.Proofs.YtmgaooeeddmbmaaGreatDoor
open Go Go.E
set_option maxRecDepth 100000
variable {e w : World} {R : List HP} {K : KV}
variable {C : RC} {s : RS} {f : Nat}

theorem eqNilM_s {A : Option Addr} {n c : Nat} {xo yo : Operand} (hk : K (.bool A.isNone) w) : bO prog .eql 34 xo yo (.slice A n c) (.slice none 0 0) w K := by
  cases A with
  | none => exact ex_oV (w' := w) (v := .bool true) (by kernel_rfl) hk
  | some a => exact ex_oV (w' := w) (v := .bool false) (by kernel_rfl) hk
abbrev OM (v : Value) (l : List Msg) : HP := ownS 42 6 Msg.cs v l
theorem cloneM_s {v : Value} {l : List Msg} {S : HP} (hl : l.length ≤ 1000000) (hS : Sat e w (S :: R)) (hr : ∀ g, S g → rdS 6 Msg.cs v l g)
    (hk : ∀ v' w', Sat e w' (OM v' l :: S :: R) → K v' w') : Cl prog 47 #[v] w K := by
  refine slices_Clone_api_Msg_api_Msg_calls ?_
  unfold slices_Clone_api_Msg_api_Msg
  obtain ⟨A, c, rfl, _⟩ := hS.shape 0 rfl hr
  refine eqNilM_s ?_
  cases A with
  | none =>
    have hl0 : l = [] := by
      obtain ⟨g, hg, _⟩ := hS.get 0 rfl
      obtain ⟨A', c', h1, h2, h3⟩ := hr g hg
      injection h1 with e1 e2 e3
      by_cases h0 : 0 < l.length
      · obtain ⟨a, ha, _⟩ := h3 h0
        rw [← e1] at ha
        cases ha
      · exact List.length_eq_zero_iff.1 (by omega)
    subst hl0
    exact iff_t (hk _ _ (hS.own_nil 42 6 Msg.cs))
  | some a =>
    refine iff_f ?_
    refine bsl0 hS Msg.cs fun v1 w2 h2 => ?_
    refine apS_own te_34 und_34 (f := Msg.cs) (fun _ => rfl) (fun _ => ints_flat _) h2 hr (by simp; omega) fun v2 w3 h3 => ?_
    rw [List.nil_append] at h3
    exact hk _ _ h3
theorem bitsLen_short {n : Nat} (hn : n ≤ 1) (hk : K (.int .i64 (n : Int)) w) : Cl prog 64 #[.int .u64 (n : Int)] w K := by
  refine math_bits_Len_calls ?_
  unfold math_bits_Len
  refine iff_f (math_bits_Len64_calls ?_)
  unfold math_bits_Len64
  refine ge_f (by omega) (J2.go (iff_f (ge_f (by omega) (J2.go (iff_f (ge_f (by omega) (J2.go (iff_f ?_))))))))
  match n, hn with
  | 0, _ =>
    refine cv_s (ex_oV (w' := w) (v := .int .u8 0) (by kernel_rfl) (cv_s (add_s (by decide) (by decide) ?_)))
    exact hk
  | 1, _ =>
    refine cv_s (ex_oV (w' := w) (v := .int .u8 1) (by kernel_rfl) (cv_s (add_s (by decide) (by decide) ?_)))
    exact hk
theorem sort_short {v fv : Value} {l : List Msg} (hl : l.length ≤ 1) (hS : Sat e w (OM v l :: R)) (hk : ∀ w', Sat e w' (OM v l :: R) → K (.tuple #[]) w') : Cl prog 48 #[v, fv] w K := by
  refine slices_SortFunc_api_Msg_api_Msg_calls ?_
  unfold slices_SortFunc_api_Msg_api_Msg
  refine lnS_rd hS 0 rfl (fun g hg => own_rd hg) (cvU (by omega) (bitsLen_short hl ?_))
  refine slices_pdqsortCmpFunc_api_Msg_calls ?_
  unfold slices_pdqsortCmpFunc_api_Msg
  refine lp5 (fun t1 t2 t3 t10 t11 w => t1 = .int .i64 0 ∧ t2 = .int .i64 (l.length : Int) ∧ Sat e w (OM v l :: R)) (fun _ _ _ _ _ _ => 0) ⟨rfl, rfl, hS⟩ ?_
  rintro _ _ t3 t10 t11 w g ⟨rfl, rfl, h1⟩ _
  refine sub_s (by omega) (by omega) (le_t (by omega) (iff_t ?_))
  refine slices_insertionSortCmpFunc_api_Msg_calls ?_
  unfold slices_insertionSortCmpFunc_api_Msg
  refine add_s (by omega) (by omega) ?_
  refine lp1 (fun t8 w => t8 = .int .i64 1 ∧ Sat e w (OM v l :: R)) (fun _ _ => 0) ⟨rfl, h1⟩ ?_
  rintro _ w g ⟨rfl, h2⟩ _
  refine lt_f (by omega) (iff_f ?_)
  exact hk _ h2
theorem prio_List_short {q : Nat} {room : Int} {l : List Msg} (hl : l.length ≤ 1) (hS : Sat e w (IsPrio q room l :: R))
    (hk : ∀ v w', Sat e w' (OM v l :: IsPrio q room l :: R) → K v w') : Cl prog 29 #[pt q] w K := by
  refine prio_Queue_List_calls ?_
  unfold prio_Queue_List
  obtain ⟨v, b, m, ha, h1⟩ := prio_of hS
  refine ncP_p (fld_at (ld1_at h1 0 rfl (v := v) rfl ?_))
  refine cloneM_s (by omega) (h1.pick 1 rfl) (fun g hg => own_rd hg) fun v2 w2 h2 => ?_
  refine sort_short hl h2 fun w3 h3 => ?_
  exact hk _ _ (Sat.swap (prio_mk ha (h3.selR [_, _, _, _] [_, _, _, _] [2, 1, 3, 0] (by decide) rfl)))

/-! ### grant, for one time that waits -/
theorem upTo1_s {t t' : Int} (ht : t = t') {b2 b3 : Nat} {v : Value} (hS : Sat e w (blk b3 3 [.int .i64 t'] :: blk b2 23 [v] :: II v [t] :: R)) (hk : ∀ w', Sat e w' (blk b3 3 [.int .i64 t'] :: blk b2 23 [v] :: II v [t] :: R) → K (.bool false) w') :
    clV prog (.func (.func 68) #[] #[pt b2, pt b3]) #[.int .i64 0] w K := by
  refine ⟨_, _, _, rfl, ?_⟩
  refine grant_upTo_1_calls (t0 := .int .i64 0) (t1 := pt b2) (t2 := pt b3) ?_
  unfold grant_upTo_1
  refine dr_s hS fun w1 h1 => ?_
  refine ld1_at h1 1 rfl (v := v) rfl ?_
  refine ixS_rd (j := 0) h1 2 rfl (fun g hg => own_rd hg) (fun _ => rfl) (x := t) rfl fun a ha => ?_
  refine ld1_of h1 2 rfl ha (by rfl) ?_
  refine ld1_at h1 0 rfl (v := .int .i64 t') rfl (gt_f (by omega) ?_)
  exact hk _ h1
theorem half01 {xo yo : Operand} {t : TypeId} (hk : K (.int .u64 0) w) : bO prog .shr t xo yo (.int .u64 1) (.int .u64 1) w K := by
  refine ex_oV (w' := w) (v := .int .u64 0) ?_ hk
  have hg : (eqGuard .shr t xo yo (.int .u64 1) (.int .u64 1)).run prog w = .ok () w := rfl
  simp only [Sem.run_bind, hg, Result.andThen_ok, binOp, Op.shift]
  rfl
theorem upTo_one {t : Int} {v : Value} (hS : Sat e w (II v [t] :: R)) (hk : ∀ w', Sat e w' (II v [t] :: R) → K (.int .i64 1) w') : Cl prog 51 #[v, .int .i64 t] w K := by
  refine grant_upTo_calls ?_
  unfold grant_upTo
  have hv := hS.own_cells 0 rfl
  refine al_s (cs := [v]) hS hv.1 fun b2 w1 h1 => ?_
  refine al_s (cs := [.int .i64 t]) h1 rfl fun b3 w2 h2 => ?_
  refine ld1_at h2 1 rfl (v := v) rfl (lnS_rd h2 2 rfl (fun g hg => own_rd hg) ?_)
  refine sort_Search_calls ?_
  unfold sort_Search
  refine lp2 (fun t5 t6 w => (t5 = .int .i64 0 ∨ t5 = .int .i64 1) ∧ t6 = .int .i64 1 ∧ Sat e w (blk b3 3 [.int .i64 t] :: blk b2 23 [v] :: II v [t] :: R)) (fun t5 _ _ => 1 - nOf t5) ⟨.inl rfl, rfl, h2⟩ ?_
  rintro _ _ w g ⟨h5, rfl, h3⟩ hag
  rcases h5 with rfl | rfl
  · refine lt_t (by decide) (iff_t (add_s (by decide) (by decide) (cv_s (half01 (cv_s ?_)))))
    refine upTo1_s rfl h3 fun w4 h4 => ?_
    refine not_f (iff_t (add_s (by decide) (by decide) ?_))
    exact hag _ _ _ ⟨.inr rfl, rfl, h4⟩ (by decide)
  · refine lt_f (by decide) (iff_f ?_)
    exact hk _ h3.drop.drop
theorem decide_one {ask time b t : Int} {v : Value} (h1 : t ≤ ask) (h2 : t < b) (h3 : time ≤ t) (hS : Sat e w (II v [t] :: R)) (hk : ∀ w', Sat e w' (II v [t] :: R) → K (.tuple #[.bool true, .int .i64 t, .int .i64 1]) w') :
    Cl prog 30 #[.int .i64 2, .int .i64 ask, .int .i64 time, .int .i64 b, v] w K := by
  refine grant_Decide_calls ?_
  unfold grant_Decide
  refine J0.go (eq_f (by decide) (iff_f (eq_t rfl (iff_t ?_))))
  refine grant_next_calls ?_
  unfold grant_next
  refine lnS_rd hS 0 rfl (fun g hg => own_rd hg) (gt_t (by simp) (gd_tt (gd_tt ?_)))
  refine ixS_rd (j := 0) hS 0 rfl (fun g hg => own_rd hg) (fun _ => rfl) (x := t) rfl fun a ha => ?_
  refine gd_tt (ld1_of hS 0 rfl ha (by rfl) (gd_tt (gd_tt (le_t h1 (pk_t ?_)))))
  refine J2.go (iff_t ?_)
  refine dr_s hS fun w1 h4 => ?_
  refine ixS_rd (j := 0) h4 0 rfl (fun g hg => own_rd hg) (fun _ => rfl) (x := t) rfl fun a2 ha2 => ?_
  refine ld1_of h4 0 rfl ha2 (by rfl) ?_
  refine ixS_rd (j := 0) h4 0 rfl (fun g hg => own_rd hg) (fun _ => rfl) (x := t) rfl fun a3 ha3 => ?_
  refine ld1_of h4 0 rfl ha3 (by rfl) ?_
  refine upTo_one h4 fun w2 h5 => ⟨ld1_of h5 0 rfl ha2 (by rfl) ⟨rfl, rfl⟩, ?_⟩
  refine le_f (by omega) (iff_f (gt_t (by decide) (iff_t (max_s ?_))))
  rw [Int.max_eq_right h3]
  exact xt_03 (xt_13 (xt_23 (hk _ h5)))

/-! ### Look -/
theorem setM_self : s.setM f (s.m f) = s := by
  unfold RS.setM
  have : upM s.m f (s.m f) = s.m := by
    funext i
    by_cases h : i = f
    · subst h; exact upM_at _ _ _
    · exact upM_ne h
  rw [this]
theorem setM_setM {m m' : Mb} : (s.setM f m).setM f m' = s.setM f m' := by
  unfold RS.setM
  congr 1
  funext i
  by_cases hh : i = f
  · subst hh; simp only [upM_at]
  · simp only [upM_ne hh]
theorem setM_m {m : Mb} : (s.setM f m).m f = m := upM_at _ _ _
theorem q_back {X : HP} {L : List HP} {l' : List Msg} (hf : f < 8) (h : Sat e w (X :: IsPrio (s.m f).q 64 l' :: sepL ((QL s).eraseIdx f) :: L)) : Sat e w (X :: sepL (QL (s.setL f l')) :: L) :=
  (q_close hf (h.selR [_, _, _] [_, _, _] [1, 2, 0] (by decide) rfl)).swap
def givC (p v : Value) (g : Bool) (t : Int) : List Value := [p, v, .bool g, .int .i64 t]
theorem rti_Look_s {x : Msg} (hf : f < 8) (hi : (s.m f).is = true) (hc : (s.m f).con = true) (h2k : (s.m f).kind = 2) (hl : s.l f = [x]) (ha : x.key.T ≤ (s.m f).ask) (ht : (s.m f).time ≤ x.key.T) (hx : x.key.T < Inf)
    (hb : ∀ i, i < 8 → 0 < (s.m i).look → x.key.T + 1 ≤ (lmOf (s.m i) (s.l i)).lat) (hS : Sat e w (RP C s ++ R))
    (hk : ∀ v w', Sat e w' (OM v [x] :: (RP C ((s.setL f []).setM f { s.m f with time := x.key.T, kind := 0, ask := 0 }) ++ R)) → K (.tuple #[.agg (givC (.slice none 0 0) v true x.key.T).toArray, .int .i64 0]) w') :
    Cl prog 12 #[pt C.r, .int .i64 (f : Int)] w K := by
  refine rti_Rti_Look_calls ?_
  unfold rti_Rti_Look
  rw [zero_36]
  refine al_s (cs := givC (.slice none 0 0) (.slice none 0 0) false 0) hS rfl fun b4 w1 h1 => ?_
  refine rti_by_s (R := blk b4 _ _ :: R) hf hi (h1.selR [_, _, _, _, _] [_, _, _, _, _] [1, 2, 3, 4, 0] (by decide) rfl) fun w2 h2 => ?_
  refine nil_s (iff_f (ncP_p (fld_at (ixA_at hf ?_))))
  refine dr_s h2 fun w3 h3 => ?_
  refine ncP_p (fld_at (r_get (k := 8) (v := .slice none 0 0) hf (by decide) rfl h3 ?_))
  refine ncP_p (fld_at (r_get (k := 2) (v := .int .i64 (s.m f).time) hf (by decide) rfl h3 ?_))
  refine ⟨bld_s (givC (.slice none 0 0) (.slice none 0 0) false (s.m f).time) (by kernel_rfl) (al_s (cs := givC (.slice none 0 0) (.slice none 0 0) false 0) h3 rfl fun b8 w4 h4 => ⟨r_get (k := 2) (R := _ :: _) hf (by decide) rfl (h4.selR [_, _, _, _, _] [_, _, _, _, _] [1, 2, 3, 4, 0] (by decide) rfl) ⟨rfl, rfl⟩, r_get (k := 8) (R := _ :: _) hf (by decide) rfl (h4.selR [_, _, _, _, _] [_, _, _, _, _] [1, 2, 3, 4, 0] (by decide) rfl) ⟨rfl, rfl⟩, ?_⟩),
    al_s (cs := givC (.slice none 0 0) (.slice none 0 0) false 0) h3 rfl fun b8 w4 h4 => ⟨r_get (k := 2) (R := _ :: _) hf (by decide) rfl (h4.selR [_, _, _, _, _] [_, _, _, _, _] [1, 2, 3, 4, 0] (by decide) rfl) ⟨rfl, rfl⟩, r_get (k := 8) (R := _ :: _) hf (by decide) rfl (h4.selR [_, _, _, _, _] [_, _, _, _, _] [1, 2, 3, 4, 0] (by decide) rfl) ⟨rfl, rfl⟩, bld_s (givC (.slice none 0 0) (.slice none 0 0) false (s.m f).time) (by kernel_rfl) ?_⟩⟩
  all_goals
    refine stN_at h4 0 rfl (vs := givC (.slice none 0 0) (.slice none 0 0) false (s.m f).time) rfl rfl (by decide) (by simp [givC, flat]) (cs' := givC (.slice none 0 0) (.slice none 0 0) false (s.m f).time) (by kernel_rfl) fun w5 h5 => ?_
    have h5 : Sat e w5 (RP C s ++ blk b8 36 (givC (.slice none 0 0) (.slice none 0 0) false (s.m f).time) :: blk b4 36 (givC (.slice none 0 0) (.slice none 0 0) false 0) :: R) := h5.selR [_, _, _, _, _, _] [_, _, _, _, _, _] [1, 2, 3, 4, 0, 5] (by decide) rfl
    refine ncP_p (fld_at (r_set (k := 8) (m := s.m f) hf (by decide) rfl rfl ⟨rfl, rfl⟩ h5 fun w6 h6 => ?_))
    rw [setM_self] at h6
    refine ncP_p (fld_at (r_get (k := 4) (v := .int .i64 2) hf (by decide) (by rw [← h2k]; rfl) h6 (eq_f (by decide) (iff_f ?_))))
    refine ncP_p (fld_at (r_get (k := 1) (v := .bool true) hf (by decide) (by rw [← hc]; rfl) h6 ?_))
    refine J1.cut (fun t w' => ∃ b : Int, t = .int .i64 b ∧ x.key.T < b ∧ Sat e w' (RP C s ++ blk b8 36 (givC (.slice none 0 0) (.slice none 0 0) false (s.m f).time) :: blk b4 36 (givC (.slice none 0 0) (.slice none 0 0) false 0) :: R)) (fun k hkk => iff_t ?_) ?_
    · refine rti_bound_s h6 fun b w7 hbb h7 => ?_
      exact hkk _ _ ⟨b, rfl, by have := hbb (x.key.T + 1) (by omega) hb; omega, h7⟩
    rintro _ w7 ⟨b, rfl, hlt, h7⟩
    refine ncP_p (fld_at (r_get (k := 7) (v := pt (s.m f).q) hf (by decide) rfl h7 ?_))
    have ho := q_open hf h7
    rw [hl] at ho
    refine prio_List_short (by simp) ho fun v60 w8 h8 => ?_
    have h9 := q_back hf h8
    rw [← hl, setL_self, hl] at h9
    refine lnS_rd h9 0 rfl (fun g hg => own_rd hg) ?_
    refine lp2 (fun t10 t62 w => ∃ j : Nat, j ≤ 1 ∧ t62 = .int .i64 j ∧ Sat e w (II t10 (if j = 0 then [] else [x.key.T]) :: OM v60 [x] :: (RP C s ++ blk b8 36 (givC (.slice none 0 0) (.slice none 0 0) false (s.m f).time) :: blk b4 36 (givC (.slice none 0 0) (.slice none 0 0) false 0) :: R))) (fun _ t62 _ => 1 - nOf t62)
      ⟨0, Nat.zero_le _, rfl, h9.own_nil 3 1 (intsK .i64)⟩ ?_
    rintro t10 _ w9 g ⟨j, hj, rfl, h10⟩ hag
    refine lt_c (fun c => iff_t ?_) (fun c => iff_f ?_)
    · obtain rfl : j = 0 := by simp at c; omega
      refine ixS_rd h10 1 rfl (fun g hg => own_rd hg) (fun _ => rfl) (x := x) rfl fun a ha => ?_
      refine ldN_of h10 1 rfl ha rfl ?_
      rw [zero_42]
      refine al_s (cs := ints [0, 0, 0, 0, 0, 0]) h10 rfl fun b12 w10 h11 => ?_
      refine stN_at h11 0 rfl (vs := x.cs) rfl rfl (by simp [ints]) (ints_flat _) (cs' := x.cs) (by kernel_rfl) fun w11 h12 => ?_
      refine fld_at (fld_at (ld1_at h12 0 rfl (v := .int .i64 x.key.T) rfl ?_))
      refine push1 te_23 (f := intsK .i64) (fun _ => rfl) (fun _ => intsK_flat _) (h12.pick 1 rfl) (x := x.key.T) rfl (by simp) fun v' w12 h13 => ?_
      refine inc_s (by omega) (hag _ _ _ ⟨1, by omega, rfl, ?_⟩ (by decide))
      exact h13.selR [_, _] [_] [0] (by decide) rfl
    obtain rfl : j = 1 := by simp at c; omega
    have h11 : Sat e w9 (RP C s ++ II t10 [x.key.T] :: blk b8 36 (givC (.slice none 0 0) (.slice none 0 0) false (s.m f).time) :: blk b4 36 (givC (.slice none 0 0) (.slice none 0 0) false 0) :: R) := h10.selR [_, _, _, _, _, _] [_, _, _, _, _] [2, 3, 4, 5, 0] (by decide) rfl
    refine dr_s h11 fun w10 h12 => ?_
    refine ncP_p (fld_at (r_get (k := 4) (v := .int .i64 2) hf (by decide) (by rw [← h2k]; rfl) h12 ?_))
    refine ncP_p (fld_at (r_get (k := 5) (v := .int .i64 (s.m f).ask) hf (by decide) rfl h12 ?_))
    refine ncP_p (fld_at (r_get (k := 2) (v := .int .i64 (s.m f).time) hf (by decide) rfl h12 ?_))
    refine decide_one ha hlt ht (h12.selR [_, _, _, _, _] [_, _, _, _, _] [4, 0, 1, 2, 3] (by decide) rfl) fun w11 h13 => ?_
    refine xt_03 (xt_13 (xt_23 (not_t (iff_f ?_))))
    refine lp1 (fun t96 w => ∃ (j : Nat) (v : Value), j ≤ 1 ∧ t96 = .int .i64 j ∧ Sat e w (OM v (if j = 0 then [] else [x]) :: (RP C (s.setL f (if j = 0 then [x] else [])) ++ blk b8 36 (givC (.slice none 0 0) v false (s.m f).time) :: blk b4 36 (givC (.slice none 0 0) (.slice none 0 0) false 0) :: R))) (fun t96 _ => 1 - nOf t96)
      ⟨0, .slice none 0 0, Nat.zero_le _, rfl, ?_⟩ ?_
    · have h14 := h13.drop.own_nil 42 6 Msg.cs
      simp only [if_true]
      rw [← hl, setL_self]
      exact h14
    rintro _ w12 g ⟨j, v, hj, rfl, h14⟩ hag
    refine lt_c (fun c => iff_t ?_) (fun c => iff_f ?_)
    · obtain rfl : j = 0 := by omega
      simp only [if_true] at h14
      rw [← hl, setL_self] at h14
      have h15 : Sat e w12 (RP C s ++ OM v [] :: blk b8 36 (givC (.slice none 0 0) v false (s.m f).time) :: blk b4 36 (givC (.slice none 0 0) (.slice none 0 0) false 0) :: R) := h14.selR [_, _, _, _, _] [_, _, _, _, _] [1, 2, 3, 4, 0] (by decide) rfl
      refine ncP_p (fld_at (r_get (k := 7) (v := pt (s.m f).q) hf (by decide) rfl h15 ?_))
      have ho := q_open hf h15
      rw [hl] at ho
      refine prio_Pop_s (x := x) rfl (by simp) ho fun l' w13 hp _ h16 => ?_
      obtain rfl : l' = [] := by
        have := hp.length_eq
        simp at this
        exact this
      have h17 := q_close hf h16
      refine xt_02 (xt_12 ?_)
      rw [zero_42]
      refine al_s (cs := ints [0, 0, 0, 0, 0, 0]) h17 rfl fun b16 w14 h18 => ?_
      refine stN_at h18 0 rfl (vs := x.cs) rfl rfl (by simp [ints]) (ints_flat _) (cs' := x.cs) (by kernel_rfl) fun w15 h19 => ?_
      refine fld_at (ld1_at h19 6 rfl (v := v) rfl ?_)
      refine ldN_at h19 0 (vs := x.cs) rfl (by rfl) rfl ?_
      refine push1 te_34 (f := Msg.cs) (fun _ => rfl) (fun _ => ints_flat _) (h19.pick 5 rfl) (x := x) rfl (by simp) fun v' w16 h20 => ?_
      refine fld_at (st1_at h20 6 rfl (h20.own_cells 0 rfl) (by simp [givC]) (cs' := givC (.slice none 0 0) v' false (s.m f).time) rfl fun w17 h21 => ?_)
      refine inc_s (by omega) (hag _ _ ⟨1, v', by omega, rfl, ?_⟩ (by decide))
      exact h21.selR [_, _, _, _, _, _, _] [_, _, _, _, _, _] [0, 2, 3, 4, 5, 6] (by decide) rfl
    obtain rfl : j = 1 := by omega
    have hvf := (h14.own_cells 0 rfl).2
    refine fld_at (st1_at h14 5 rfl ⟨rfl, rfl⟩ (by simp [givC]) (cs' := givC (.slice none 0 0) v true (s.m f).time) rfl fun w13 h15 => ?_)
    refine fld_at (st1_at h15 5 rfl ⟨rfl, rfl⟩ (by simp [givC]) (cs' := givC (.slice none 0 0) v true x.key.T) rfl fun w14 h16 => ?_)
    have h17 : Sat e w14 (RP C (s.setL f []) ++ OM v [x] :: blk b8 36 (givC (.slice none 0 0) v true x.key.T) :: blk b4 36 (givC (.slice none 0 0) (.slice none 0 0) false 0) :: R) := h16.selR [_, _, _, _, _] [_, _, _, _, _] [1, 2, 3, 4, 0] (by decide) rfl
    refine ncP_p (fld_at (r_set (s := s.setL f []) (k := 2) (m := { s.m f with time := x.key.T }) hf (by decide) rfl rfl ⟨rfl, rfl⟩ h17 fun w15 h18 => ?_))
    refine ncP_p (fld_at (r_set (k := 4) (m := { s.m f with time := x.key.T, kind := 0 }) hf (by decide) (by rw [setM_m]; rfl) (by rw [setM_m]) ⟨rfl, rfl⟩ h18 fun w16 h19 => ?_))
    rw [setM_setM] at h19
    refine ncP_p (fld_at (r_set (k := 5) (m := { s.m f with time := x.key.T, kind := 0, ask := 0 }) hf (by decide) (by rw [setM_m]; rfl) (by rw [setM_m]) ⟨rfl, rfl⟩ h19 fun w17 h20 => ?_))
    rw [setM_setM] at h20
    refine ldN_at h20 5 (vs := givC (.slice none 0 0) v true x.key.T) rfl (by rfl) rfl ?_
    refine stN_at h20 6 rfl (vs := givC (.slice none 0 0) v true x.key.T) rfl rfl (by decide) (by
      simp only [givC, List.mem_cons, List.not_mem_nil, or_false]
      rintro c (rfl | rfl | rfl | rfl) <;> first | rfl | exact hvf) (cs' := givC (.slice none 0 0) v true x.key.T) (by kernel_rfl) fun w18 h21 => ?_
    refine ldN_at h21 6 (vs := givC (.slice none 0 0) v true x.key.T) rfl (by rfl) rfl ?_
    exact hk _ _ (h21.selR [_, _, _, _, _, _, _] [_, _, _, _, _] [4, 0, 1, 2, 3] (by decide) rfl)
end Go.Proofs.YtmgaooeeddmbmaaGreatDoor
