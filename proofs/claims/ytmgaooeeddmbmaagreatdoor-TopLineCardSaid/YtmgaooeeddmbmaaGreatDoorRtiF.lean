/- The run-time infrastructure: members, bound, Regulate, Constrain. Conditions: the federates are 0 to 7, all checks hold. -/
import Derived.Test.YtmgaooeeddmbmaaGreatDoorRtiE
import Derived.Test.YtmgaooeeddmbmaaGreatDoorPf0
import Derived.Test.YtmgaooeeddmbmaaGreatDoorPf1
import Derived.Test.YtmgaooeeddmbmaaGreatDoorPf2
import Derived.Test.YtmgaooeeddmbmaaGreatDoorPf3
import Derived.Test.YtmgaooeeddmbmaaGreatDoorPf4
namespace Go.Proofs.YtmgaooeeddmbmaaGreatDoor
open Go Go.E
set_option maxRecDepth 100000
variable {e w : World} {R : List HP} {K : KV}
variable {C : RC} {s : RS} {f : Nat}

theorem map_range_set {α : Type} {n f : Nat} {F F' : Nat → α} (h : ∀ j, j < n → j ≠ f → F' j = F j) {x : α} (hx : f < n → x = F' f) : ((List.range n).map F).set f x = (List.range n).map F' := by
  apply List.ext_getElem?
  intro j
  rw [List.getElem?_set, List.length_map, List.length_range, List.getElem?_map, List.getElem?_map]
  by_cases hj : j < n
  · rw [List.getElem?_range hj]
    by_cases hf : f = j
    · subst hf
      rw [if_pos rfl, if_pos hj, hx hj]
      rfl
    · rw [if_neg hf]
      show some (F j) = some (F' j)
      rw [h j hj fun h => hf h.symm]
  · rw [List.getElem?_eq_none (by rw [List.length_range]; omega)]
    split
    · rw [if_neg (by omega)]; rfl
    · rfl
theorem range_get {α : Type} {n f : Nat} {F : Nat → α} (h : f < n) : ((List.range n).map F)[f]? = some (F f) := by rw [List.getElem?_map, List.getElem?_range h]; rfl
def RS.setL (s : RS) (f : Nat) (l : List Msg) : RS := { s with l := upM s.l f l }
theorem q_open {L : List HP} (hf : f < 8) (h : Sat e w (sepL (QL s) :: L)) : Sat e w (IsPrio (s.m f).q 64 (s.l f) :: sepL ((QL s).eraseIdx f) :: L) := h.focus f (range_get hf)
theorem q_close {L : List HP} {l' : List Msg} (hf : f < 8) (h : Sat e w (IsPrio (s.m f).q 64 l' :: sepL ((QL s).eraseIdx f) :: L)) : Sat e w (sepL (QL (s.setL f l')) :: L) := by
  have h1 := h.unfocus f (range_get hf)
  rw [map_range_set (F' := fun i => IsPrio ((s.setL f l').m i).q 64 ((s.setL f l').l i)) (fun j _ hj => by
    show IsPrio _ 64 (upM s.l f l' j) = _
    rw [upM_ne hj]
    rfl) fun _ => by
    show _ = IsPrio _ 64 (upM s.l f l' f)
    rw [upM_at]
    rfl] at h1
  exact h1
theorem setL_self : s.setL f (s.l f) = s := by
  unfold RS.setL
  have : upM s.l f (s.l f) = s.l := by
    funext i
    by_cases h : i = f
    · subst h; exact upM_at _ _ _
    · exact upM_ne h
  rw [this]

def firstT : List Msg → Int
  | [] => 1125899906842624
  | m :: _ => m.key.T
def lmOf (m : Mb) (l : List Msg) : LM := ⟨decide (0 < m.look), m.con, m.time, m.look, m.kind, m.ask, firstT l⟩
def RS.lms (s : RS) : List LM := (List.range 8).map fun i => lmOf (s.m i) (s.l i)
abbrev OL (v : Value) (l : List LM) : HP := ownS 101 7 LM.cs v l
theorem rows8 {s : Nat → Mb} : ∀ j, j < 8 → [s 0, s 1, s 2, s 3, s 4, s 5, s 6, s 7][j]? = some (s j)
  | 0, _ => rfl | 1, _ => rfl | 2, _ => rfl | 3, _ => rfl | 4, _ => rfl | 5, _ => rfl | 6, _ => rfl | 7, _ => rfl
  | n + 8, h => by omega
theorem prio_First_any {q : Nat} {room : Int} {l : List Msg} (hS : Sat e w (IsPrio q room l :: R))
    (hk : ∀ (m : Msg) (is : Bool) w', (if is then m.key.T else 1125899906842624) = firstT l → Sat e w' (IsPrio q room l :: R) → K (.tuple #[.agg m.cs.toArray, .bool is]) w') : Cl prog 45 #[pt q] w K := by
  cases l with
  | nil => exact prio_First_none hS fun w' h => hk _ _ _ rfl h
  | cons x l => exact prio_First_s (x := x) rfl hS fun w' h => hk _ _ _ rfl h
theorem Mb.flat (m : Mb) : ∀ v ∈ m.cs, flat v = true := by simp [Mb.cs, Go.E.flat]
theorem rti_members_s (hS : Sat e w (RP C s ++ R)) (hk : ∀ v w', Sat e w' (OL v s.lms :: (RP C s ++ R)) → K v w') : Cl prog 27 #[pt C.r] w K := by
  refine rti_Rti_members_calls ?_
  unfold rti_Rti_members
  refine ncP_p (fld_at ?_)
  refine ldN_at hS 1 (vs := [s.m 0, s.m 1, s.m 2, s.m 3, s.m 4, s.m 5, s.m 6, s.m 7].flatMap Mb.cs) rfl rfl rfl ?_
  refine lp2 (fun t3 t13 w => ∃ j : Nat, j ≤ 8 ∧ t13 = .int .i64 j ∧ Sat e w (OL t3 ((List.range j).map fun i => lmOf (s.m i) (s.l i)) :: (RP C s ++ R))) (fun _ t13 _ => 8 - nOf t13)
    ⟨0, Nat.zero_le _, rfl, hS.own_nil 101 7 LM.cs⟩ ?_
  rintro t3 _ w g ⟨j, hj, rfl, h1⟩ hg
  refine lt_c (fun c => iff_t ?_) (fun c => iff_f ?_)
  · have hj8 : j < 8 := by omega
    refine ixV_n (s := 10) (e := 52) (f := Mb.cs) (by kernel_rfl) (by kernel_rfl) (by kernel_rfl) (by kernel_rfl) (fun _ => rfl) hj8 (rows8 j hj8) ?_
    rw [zero_52]
    refine al_s (cs := zrow) h1 rfl fun b5 w2 h2 => ?_
    refine stN_at h2 0 rfl (vs := (s.m j).cs) rfl rfl (by decide) (Mb.flat _) (cs' := (s.m j).cs) (by kernel_rfl) fun w3 h3 => ?_
    refine fld_at (ld1_at h3 0 rfl (v := pt (s.m j).q) rfl ?_)
    refine prio_First_any (q_open hj8 (h3.pick 2 rfl)) fun m is w4 hfm h4 => ?_
    have h5 := q_close hj8 h4
    rw [setL_self] at h5
    refine xt_02 (xt_12 ?_)
    rw [zero_42]
    refine al_s (cs := ints [0, 0, 0, 0, 0, 0]) h5 rfl fun b7 w6 h6 => ?_
    refine stN_at h6 0 rfl (vs := m.cs) rfl rfl (by simp [ints]) (ints_flat _) (cs' := m.cs) (by kernel_rfl) fun w7 h7 => ?_
    refine J1.cut (fun t w' => t = .int .i64 (firstT (s.l j)) ∧ w' = w7) (fun k hkk => iff_b _ (fun c2 => ?_) (fun c2 => ?_)) ?_
    · subst c2
      refine fld_at (fld_at (ld1_at h7 0 rfl (v := .int .i64 m.key.T) rfl (hkk _ _ ⟨by rw [← hfm]; rfl, rfl⟩)))
    · subst c2
      exact hkk _ _ ⟨by rw [← hfm]; rfl, rfl⟩
    · rintro _ _ ⟨rfl, rfl⟩
      refine fld_at (ld1_at h7 2 rfl (v := .int .i64 (s.m j).look) rfl (gt_d ?_))
      refine fld_at (ld1_at h7 2 rfl (v := .bool (s.m j).con) rfl ?_)
      refine fld_at (ld1_at h7 2 rfl (v := .int .i64 (s.m j).time) rfl ?_)
      refine fld_at (ld1_at h7 2 rfl (v := .int .i64 (s.m j).look) rfl ?_)
      refine fld_at (ld1_at h7 2 rfl (v := .int .i64 (s.m j).kind) rfl ?_)
      refine fld_at (ld1_at h7 2 rfl (v := .int .i64 (s.m j).ask) rfl ?_)
      refine bld_s (lmOf (s.m j) (s.l j)).cs (by kernel_rfl) ?_
      refine push1 te_70 (f := LM.cs) (fun _ => rfl) LM.flat (h7.pick 3 rfl) (x := lmOf (s.m j) (s.l j)) rfl (by simp; omega) fun v' w8 h8 => ?_
      refine inc_s (by omega) ?_
      refine hg _ _ _ ⟨j + 1, by omega, rfl, ?_⟩ (by simp [nOf]; omega)
      rw [List.range_succ, List.map_append]
      exact h8.selR [_, _, _, _, _, _, _] [_, _, _, _, _] [0, 2, 4, 5, 6] (by decide) rfl
  · obtain rfl : j = 8 := by omega
    exact hk _ _ h1
theorem lms_len (s : RS) : s.lms.length = 8 := by simp [RS.lms]
/-- A bound is at least what all members' outputs begin with. -/
theorem rti_bound_s {i : Int} (hS : Sat e w (RP C s ++ R)) (hk : ∀ (b : Int) w', (∀ X, X ≤ Inf → (∀ i, i < 8 → 0 < (s.m i).look → X ≤ (lmOf (s.m i) (s.l i)).lat) → X ≤ b) → Sat e w' (RP C s ++ R) → K (.int .i64 b) w') :
    Cl prog 23 #[pt C.r, .int .i64 i] w K := by
  refine rti_Rti_bound_calls ?_
  unfold rti_Rti_bound
  refine rti_members_s hS fun v w1 h1 => ?_
  refine lb_Lbts_s (l := s.lms) (by rw [lms_len]; decide) h1 (fun g hg => own_rd hg) (h1.own_cells 0 rfl) fun b w2 hb h2 => ?_
  refine hk b w2 (fun X hX hall => hb X hX fun m hm hr => ?_) h2.drop
  obtain ⟨i, hi, rfl⟩ := List.mem_map.1 hm
  exact hall i (List.mem_range.1 hi) (by simpa [lmOf] using hr)
theorem rti_Outputs_at (hf : f < 8) (hr : 0 < (s.m f).look) (hS : Sat e w (RP C s ++ R)) (hk : ∀ (o : Int) w', o ≤ (lmOf (s.m f) (s.l f)).lat → Sat e w' (RP C s ++ R) → K (.int .i64 o) w') :
    Cl prog 27 #[pt C.r] w fun t w => Cl prog 26 #[t] w fun t w => ixS 1 t (.int .i64 (f : Int)) w fun t w => ld1 t w K := by
  refine rti_members_s hS fun v w1 h1 => ?_
  refine lb_Outputs_s (l := s.lms) (by rw [lms_len]; decide) h1 (fun g hg => own_rd hg) (h1.own_cells 0 rfl) fun v3 out op hg w2 ok h2 => ?_
  have hn := ok.n1
  rw [lms_len] at hn
  obtain ⟨o, ho⟩ := get_of_lt (l := out) (j := f) (by omega)
  refine ixS_rd h2 0 rfl (fun g hg => own_rd hg) (fun _ => rfl) ho fun a ha => ?_
  refine ld1_of h2 0 rfl ha (by rfl) ?_
  exact hk o w2 (ok.hi f _ o (range_get hf) (by simpa [lmOf] using hr) ho) h2.drop.drop

theorem rti_Regulate_s {t : Int} (hf : f < 8) (hi : (s.m f).is = true) (hl0 : (s.m f).look = 0) (h0 : (s.m f).kind = 0) (ht : 1 ≤ t ∧ t ≤ 1048576) (hcon : ∀ i, i < 8 → (s.m i).con = false) (hS : Sat e w (RP C s ++ R))
    (hk : ∀ w', Sat e w' (RP C (s.setM f { s.m f with look := t }) ++ R) → K (.int .i64 0) w') : Cl prog 8 #[pt C.r, .int .i64 (f : Int), .int .i64 t] w K := by
  refine rti_Rti_Regulate_calls ?_
  unfold rti_Rti_Regulate
  refine rti_by_s hf hi hS fun w1 h1 => ?_
  refine nil_s (iff_f (ncP_p (fld_at (ixA_at hf (ncP_p (fld_at ?_))))))
  refine ldN_at h1 1 (vs := [s.m 0, s.m 1, s.m 2, s.m 3, s.m 4, s.m 5, s.m 6, s.m 7].flatMap Mb.cs) rfl rfl rfl ?_
  refine lp2 (fun t9 t29 w => ∃ j : Nat, j ≤ 8 ∧ t29 = .int .i64 j ∧ t9 = .bool false ∧ Sat e w (RP C s ++ R)) (fun _ t29 _ => 8 - nOf t29) ⟨0, Nat.zero_le _, rfl, rfl, h1⟩ ?_
  rintro _ _ w g ⟨j, hj, rfl, rfl, h2⟩ hg
  refine lt_c (fun c => iff_t ?_) (fun c => iff_f ?_)
  · have hj8 : j < 8 := by omega
    refine ixV_n (s := 10) (e := 52) (f := Mb.cs) (by kernel_rfl) (by kernel_rfl) (by kernel_rfl) (by kernel_rfl) (fun _ => rfl) hj8 (rows8 j hj8) ?_
    rw [zero_52]
    refine al_s (cs := zrow) h2 rfl fun b5 w2 h3 => ?_
    refine stN_at h3 0 rfl (vs := (s.m j).cs) rfl rfl (by decide) (Mb.flat _) (cs' := (s.m j).cs) (by kernel_rfl) fun w3 h4 => ?_
    refine dr_s h4 fun w4 h5 => ?_
    have hc : (s.m j).cs[0 + 1]? = some (.bool false) := by rw [← hcon j hj8]; rfl
    refine gd_ff (gd_ff (gd_ff (ne_d (gd_ff ?_))))
    by_cases hjf : (j : Int) = f
    · rw [decide_eq_false (by simpa using hjf)]
      refine gd_ft (gd_ft (gd_ff (pk_f (gd_ff ?_))))
      iterate 8 refine gd_ft ?_
      refine ⟨gd_ft ⟨rfl, rfl⟩, gd_ft (gd_ff (pk_f (pk_f (inc_s (by omega) ?_))))⟩
      exact hg _ _ _ ⟨j + 1, by omega, rfl, rfl, h5.drop⟩ (by simp [nOf]; omega)
    · rw [decide_eq_true hjf]
      refine gd_tt (fld_at (gd_tt (ld1_at h5 0 rfl hc (gd_ff (pk_t (gd_ff ?_))))))
      iterate 8 refine gd_ft ?_
      refine ⟨gd_ft ⟨rfl, rfl⟩, gd_ft (gd_ff (pk_f (pk_f (inc_s (by omega) ?_))))⟩
      exact hg _ _ _ ⟨j + 1, by omega, rfl, rfl, h5.drop⟩ (by simp [nOf]; omega)
  · refine dr_s h2 fun w2 h2 => ?_
    refine ncP_p (fld_at ?_)
    refine r_get (k := 3) (v := .int .i64 0) hf (by decide) (by rw [← hl0]; rfl) h2 (eq_t rfl ?_)
    refine ncP_p (fld_at ?_)
    refine r_get (k := 4) (v := .int .i64 0) hf (by decide) (by rw [← h0]; rfl) h2 (eq_t rfl ?_)
    refine ge_t (by omega) (gd_tt (gd_tt (le_t (by omega) (pk_t (not_f ?_)))))
    have e1 : ld1 (.pointer (some ⟨C.r, 2 + f * 10 + 3, none⟩)) w2 (fun v' w'' => v' = .int .i64 0 ∧ w'' = w2) := r_get hf (by decide) (by rw [← hl0]; rfl) h2 ⟨rfl, rfl⟩
    have e2 : ld1 (.pointer (some ⟨C.r, 2 + f * 10 + 4, none⟩)) w2 (fun v' w'' => v' = .int .i64 0 ∧ w'' = w2) := r_get hf (by decide) (by rw [← h0]; rfl) h2 ⟨rfl, rfl⟩
    repeat' first | exact e1 | exact e2 | refine And.intro ?_ ?_ | refine chk_s ?_
    all_goals
      refine bsl_s [.bool true, .int .i64 202, .bool true, .int .i64 206, .bool true, .int .i64 80, .bool true, .int .i64 207] h2 (by kernel_rfl) fun b w3 h3 => ?_
      refine rti_all_s h3 (l := [202, 206, 80, 207]) (blk_rdn (f := chkC) [202, 206, 80, 207] rfl (Nat.le_refl _)) (by decide) fun w4 h4 => ?_
      refine nil_s (iff_f (ncP_p (fld_at ?_)))
      exact r_set (k := 3) (m := { s.m f with look := t }) hf (by decide) rfl rfl ⟨rfl, rfl⟩ h4.drop fun w5 h5 => hk _ h5

theorem rti_Constrain_s (hf : f < 8) (hi : (s.m f).is = true) (hc0 : (s.m f).con = false) (h0 : (s.m f).kind = 0) (hT : (s.m f).time < Inf) (hb : ∀ i, i < 8 → 0 < (s.m i).look → (s.m f).time + 1 ≤ (lmOf (s.m i) (s.l i)).lat) (hS : Sat e w (RP C s ++ R))
    (hk : ∀ w', Sat e w' (RP C (s.setM f { s.m f with con := true }) ++ R) → K (.int .i64 0) w') : Cl prog 9 #[pt C.r, .int .i64 (f : Int)] w K := by
  refine rti_Rti_Constrain_calls ?_
  unfold rti_Rti_Constrain
  refine rti_by_s hf hi hS fun w1 h1 => ?_
  refine nil_s (iff_f ?_)
  refine dr_s h1 fun w2 h2 => ?_
  refine ncP_p (fld_at (ixA_at hf (fld_at ?_)))
  refine r_get (k := 1) (v := .bool false) hf (by decide) (by rw [← hc0]; rfl) h2 (not_f ?_)
  refine ncP_p (fld_at (ixA_at hf (fld_at ?_)))
  refine r_get (k := 4) (v := .int .i64 0) hf (by decide) (by rw [← h0]; rfl) h2 (eq_t rfl ?_)
  refine ncP_p (fld_at (ixA_at hf (fld_at ?_)))
  refine r_get (k := 2) (v := .int .i64 (s.m f).time) hf (by decide) rfl h2 ?_
  have e1 : ∀ {w2 : World}, Sat e w2 (RP C s ++ R) → ld1 (.pointer (some ⟨C.r, 2 + f * 10 + 1, none⟩)) w2 (fun v' w'' => v' = .bool false ∧ w'' = w2) := fun h2 => r_get hf (by decide) (by rw [← hc0]; rfl) h2 ⟨rfl, rfl⟩
  have e2 : ∀ {w2 : World}, Sat e w2 (RP C s ++ R) → ld1 (.pointer (some ⟨C.r, 2 + f * 10 + 4, none⟩)) w2 (fun v' w'' => v' = .int .i64 0 ∧ w'' = w2) := fun h2 => r_get hf (by decide) (by rw [← h0]; rfl) h2 ⟨rfl, rfl⟩
  have e3 : ∀ {w2 : World}, Sat e w2 (RP C s ++ R) → ld1 (.pointer (some ⟨C.r, 2 + f * 10 + 2, none⟩)) w2 (fun v' w'' => v' = .int .i64 (s.m f).time ∧ w'' = w2) := fun h2 => r_get hf (by decide) rfl h2 ⟨rfl, rfl⟩
  repeat' first
    | exact e1 (by assumption) | exact e2 (by assumption) | exact e3 (by assumption) | refine And.intro ?_ ?_ | refine chk_s ?_
    | refine rti_bound_s h2 fun b w5 hbb h5 => ?_
    | refine gt_t (by have := hbb ((s.m f).time + 1) (by omega) hb; omega) ?_
  all_goals
    refine bsl_s [.bool true, .int .i64 204, .bool true, .int .i64 206, .bool true, .int .i64 207] h5 (by kernel_rfl) fun b w3 h3 => ?_
    refine rti_all_s h3 (l := [204, 206, 207]) (blk_rdn (f := chkC) [204, 206, 207] rfl (Nat.le_refl _)) (by decide) fun w4 h4 => ?_
    refine nil_s (iff_f (ncP_p (fld_at (ixA_at hf (fld_at ?_)))))
    exact r_set (k := 1) (m := { s.m f with con := true }) hf (by decide) rfl rfl ⟨rfl, rfl⟩ h4.drop fun w6 h6 => hk _ h6
end Go.Proofs.YtmgaooeeddmbmaaGreatDoor
