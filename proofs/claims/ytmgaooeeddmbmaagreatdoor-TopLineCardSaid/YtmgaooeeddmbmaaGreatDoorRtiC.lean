/- The run-time infrastructure: its making, who joins, publishes, subscribes, asks. Conditions: the federates are 0 to 7, all checks hold. -/
import Derived.Test.YtmgaooeeddmbmaaGreatDoorRtiB
import Derived.Test.YtmgaooeeddmbmaaGreatDoorPf0
import Derived.Test.YtmgaooeeddmbmaaGreatDoorPf1
import Derived.Test.YtmgaooeeddmbmaaGreatDoorPf2
import Derived.Test.YtmgaooeeddmbmaaGreatDoorPf3
import Derived.Test.YtmgaooeeddmbmaaGreatDoorPf4
namespace Go.Proofs.YtmgaooeeddmbmaaGreatDoor
open Go Go.E
set_option maxRecDepth 100000
variable {e w : World} {R : List HP} {K : KV}

structure RC where
  (r tb : Nat) (pv av : Value) (n : Nat)
structure RS where
  m : Nat → Mb
  l : Nat → List Msg
  pu : Nat → Int
  su : Nat → Int
abbrev QL (s : RS) : List HP := (List.range 8).map fun i => IsPrio (s.m i).q 64 (s.l i)
abbrev RP (C : RC) (s : RS) : List HP := [sepL (QL s), blk C.r 55 (rcs C.pv (pt C.tb) s.m), blk C.tb 82 (tcs C.av s.pu s.su), IU C.av (aboves C.n)]
def RS.setM (s : RS) (f : Nat) (m : Mb) : RS := { s with m := upM s.m f m }
theorem upM_at {α : Type} (s : Nat → α) (j : Nat) (m : α) : upM s j m j = m := if_pos rfl
theorem upM_ne {α : Type} {s : Nat → α} {j i : Nat} {m : α} (h : i ≠ j) : upM s j m i = s i := if_neg h
theorem QL_up {s : RS} {f : Nat} {m : Mb} (h : m.q = (s.m f).q) : QL (s.setM f m) = QL s := by
  refine List.map_congr_left fun i _ => ?_
  show IsPrio (upM s.m f m i).q 64 (s.l i) = _
  by_cases hi : i = f
  · subst hi; rw [upM_at, h]
  · rw [upM_ne hi]
variable {C : RC} {s : RS} {f : Nat}
theorem r_get {k : Nat} {v : Value} (hf : f < 8) (hk : k < 10) (hv : (s.m f).cs[k]? = some v) (hS : Sat e w (RP C s ++ R)) (hK : K v w) : ld1 (.pointer (some ⟨C.r, 2 + f * 10 + k, none⟩)) w K :=
  ld1_at hS 1 rfl (rcs_get hf hk hv) hK
theorem r_set {k : Nat} {v : Value} {m : Mb} (hf : f < 8) (hk : k < 10) (hm : (s.m f).cs.set k v = m.cs) (hq : m.q = (s.m f).q) (hv : v.cells.toList = [v] ∧ flat v = true) (hS : Sat e w (RP C s ++ R))
    (hK : ∀ w', Sat e w' (RP C (s.setM f m) ++ R) → K undef w') : stN 1 (.pointer (some ⟨C.r, 2 + f * 10 + k, none⟩)) v w K := by
  refine stN_at hS 1 rfl (vs := [v]) hv.1 rfl (by rw [rcs_len]; omega) (by simp [hv.2]) (rcs_set f hf hk hm) fun w' h => hK w' ?_
  have h1 := QL_up (s := s) (f := f) (m := m) hq
  simp only [RP, h1]
  exact h
theorem r_sav (hS : Sat e w (RP C s ++ R)) (hK : K (.bool false) w) : ld1 (.pointer (some ⟨C.r, 82, none⟩)) w K := ld1_at hS 1 rfl (v := .bool false) rfl hK

theorem Sat.snoc {P : HP} {L : List HP} (h : Sat e w (P :: sepL L :: R)) : Sat e w (sepL (L ++ [P]) :: R) :=
  .join (l' := L ++ [P]) (by rw [List.append_assoc]; exact (h.swap.split.perm (by exact List.Perm.refl _)))

def mb0 (q : Nat) : Mb := ⟨false, false, 0, 0, 0, 0, 0, q, 0⟩
def rs0 (q : Nat → Nat) : RS := ⟨fun i => mb0 (q i), fun _ => [], fun _ => 0, fun _ => 0⟩
def zrow : List Value := [.bool false, .bool false, .int .i64 0, .int .i64 0, .int .i64 0, .int .i64 0, .int .i64 0, .pointer none, .slice none 0 0, .int .u32 0]
def rcs0 (pv tv : Value) : List Value := [pv, tv] ++ (zrow ++ (zrow ++ (zrow ++ (zrow ++ (zrow ++ (zrow ++ (zrow ++ zrow))))))) ++ [.bool false]
def setQ (pv tv : Value) (q : Nat → Nat) (j : Nat) : List Value := (List.range j).foldl (fun cs i => cs.set (2 + i * 10 + 7) (pt (q i))) (rcs0 pv tv)
theorem setQ_succ (pv tv : Value) (q : Nat → Nat) (j : Nat) : setQ pv tv q (j + 1) = (setQ pv tv q j).set (2 + j * 10 + 7) (pt (q j)) := by
  unfold setQ
  rw [List.range_succ, List.foldl_append]
  rfl
theorem setQ_len (pv tv : Value) (q : Nat → Nat) : ∀ j, (setQ pv tv q j).length = 83
  | 0 => rfl
  | j + 1 => by rw [setQ_succ, List.length_set, setQ_len pv tv q j]
theorem setQ_congr {pv tv : Value} {q q' : Nat → Nat} : ∀ {j : Nat}, (∀ i, i < j → q i = q' i) → setQ pv tv q j = setQ pv tv q' j
  | 0, _ => rfl
  | j + 1, h => by rw [setQ_succ, setQ_succ, setQ_congr fun i hi => h i (by omega), h j (by omega)]
theorem setQ_8 (pv tv : Value) (q : Nat → Nat) : setQ pv tv q 8 = rcs pv tv (rs0 q).m := rfl
theorem rti_New_s {v : Value} {n : Nat} {S : HP} (h1 : 1 ≤ n) (h2 : n ≤ 8) (hS : Sat e w (S :: R)) (hr : ∀ g, S g → rdS 1 (intsK .i64) v (List.replicate n (-1)) g)
    (hk : ∀ (C : RC) (q : Nat → Nat) w', C.n = n → Sat e w' (RP C (rs0 q) ++ S :: R) → K (.tuple #[pt C.r, .int .i64 0]) w') : Cl prog 4 #[v] w K := by
  refine rti_New_calls ?_
  unfold rti_New
  refine pubsub_New_s h1 h2 hS hr fun tb av w1 h3 => ?_
  refine xt_02 (xt_12 (ne_f rfl (iff_f ?_)))
  refine cloneI_s (by simp; omega) (h3.pick 2 rfl) hr fun pv w2 h4 => ?_
  have hpv := h4.own_cells 0 rfl
  obtain ⟨A, c, rfl, _⟩ := h4.shape 0 rfl (fun _ hg => own_rd hg)
  refine bld_s (rcs0 (.slice A (List.replicate n (-1 : Int)).length c) (pt tb)) (by kernel_rfl) ?_
  refine al_s (cs := rcs0 (.slice A (List.replicate n (-1 : Int)).length c) (pt tb)) h4 rfl fun r w3 h5 => ?_
  generalize (Value.slice A (List.replicate n (-1 : Int)).length c) = pv at *
  refine lp1 (fun t21 w => ∃ (j : Nat) (q : Nat → Nat), j ≤ 8 ∧ t21 = .int .i64 j ∧ Sat e w (blk r 55 (setQ pv (pt tb) q j) :: sepL ((List.range j).map fun i => IsPrio (q i) 64 []) :: blk tb 82 (tcs av (fun _ => 0) (fun _ => 0)) :: IU av (aboves n) :: S :: R)) (fun t21 _ => 8 - nOf t21)
    ⟨0, fun _ => 0, Nat.zero_le _, rfl, ?_⟩ ?_
  · have h6 := h5.selR [_, _, _, _, _] [_, _, _, _] [0, 3, 4, 2] (by decide) rfl
    exact Sat.swap (Sat.join (l' := []) h6)
  rintro _ w g ⟨j, q, hj, rfl, h6⟩ hg
  refine lt_c (fun c => iff_t ?_) (fun c => iff_f ?_)
  · refine dr_s h6 fun w4 h7 => ?_
    refine ncP_p (fld_at ?_)
    refine prio_New_s h7 fun q1 w5 h8 => ?_
    rw [show max 0 (min (64 : Int) 64) = 64 from by decide] at h8
    refine ixA_at (by omega) (fld_at ?_)
    refine st1_at h8 1 rfl ⟨rfl, rfl⟩ (by rw [setQ_len]; omega) rfl fun w6 h9 => ?_
    refine inc_s (by omega) ?_
    refine hg _ _ ⟨j + 1, upM q j q1, by omega, rfl, ?_⟩ (by simp [nOf]; omega)
    have e1 : setQ pv (pt tb) (upM q j q1) (j + 1) = (setQ pv (pt tb) q j).set (2 + j * 10 + 7) (pt q1) := by
      rw [setQ_succ, setQ_congr (q' := q) fun i hi => upM_ne (by omega), upM_at]
    have e2 : ((List.range (j + 1)).map fun i => IsPrio (upM q j q1 i) 64 []) = ((List.range j).map fun i => IsPrio (q i) 64 []) ++ [IsPrio q1 64 []] := by
      rw [List.range_succ, List.map_append]
      congr 1
      · exact List.map_congr_left fun i hi => by rw [upM_ne (by have := List.mem_range.1 hi; omega)]
      · show [IsPrio (upM q j q1 j) 64 []] = _
        rw [upM_at]
    rw [e1, e2]
    exact Sat.swap (Sat.snoc (h9.selR [_, _, _] [_, _, _] [0, 2, 1] (by decide) rfl))
  · obtain rfl : j = 8 := by omega
    rw [setQ_8] at h6
    exact hk ⟨r, tb, pv, av, n⟩ q _ rfl h6.swap

theorem rti_by_s (hf : f < 8) (hi : (s.m f).is = true) (hS : Sat e w (RP C s ++ R)) (hk : ∀ w', Sat e w' (RP C s ++ R) → K .nilIface w') : Cl prog 19 #[pt C.r, .int .i64 (f : Int)] w K := by
  refine rti_Rti_by_calls ?_
  unfold rti_Rti_by
  refine lt_f (by omega) (gd_ff (gd_ff (ge_f (by omega) (pk_f (iff_f ?_)))))
  refine dr_s hS fun w1 h1 => ?_
  refine ncP_p (fld_at (ixA_at hf (fld_at ?_)))
  refine r_get (k := 0) hf (by decide) (v := .bool true) (by rw [← hi]; rfl) h1 ?_
  refine ncP_p (fld_at (r_sav h1 (not_f ?_)))
  have e1 : ld1 (.pointer (some ⟨C.r, 82, none⟩)) w1 (fun v' w'' => v' = .bool false ∧ w'' = w1) := r_sav h1 ⟨rfl, rfl⟩
  have e2 : ld1 (.pointer (some ⟨C.r, 2 + f * 10 + 0, none⟩)) w1 (fun v' w'' => v' = .bool true ∧ w'' = w1) := r_get hf (by decide) (by rw [← hi]; rfl) h1 ⟨rfl, rfl⟩
  repeat' first | exact e1 | exact e2 | refine And.intro ?_ ?_ | refine chk_s ?_
  all_goals
    refine bsl_s [.bool true, .int .i64 201, .bool true, .int .i64 212] h1 (by kernel_rfl) fun b w2 h2 => ?_
    exact rti_all_s h2 (l := [201, 212]) (blk_rdn (f := chkC) [201, 212] rfl (Nat.le_refl _)) (by decide) fun w3 h3 => hk _ h3.drop

theorem rti_Join_s (hf : f < 8) (hi : (s.m f).is = false) (hS : Sat e w (RP C s ++ R)) (hk : ∀ w', Sat e w' (RP C (s.setM f { s.m f with is := true }) ++ R) → K (.int .i64 0) w') : Cl prog 5 #[pt C.r, .int .i64 (f : Int)] w K := by
  refine rti_Rti_Join_calls ?_
  unfold rti_Rti_Join
  refine lt_f (by omega) (gd_ff (gd_ff (ge_f (by omega) (pk_f (iff_f ?_)))))
  refine dr_s hS fun w1 h1 => ?_
  refine ncP_p (fld_at (r_sav h1 (not_f ?_)))
  refine ncP_p (fld_at (ixA_at hf (fld_at ?_)))
  refine r_get (k := 0) hf (by decide) (v := .bool false) (by rw [← hi]; rfl) h1 (not_f ?_)
  have e1 : ld1 (.pointer (some ⟨C.r, 82, none⟩)) w1 (fun v' w'' => v' = .bool false ∧ w'' = w1) := r_sav h1 ⟨rfl, rfl⟩
  have e2 : ld1 (.pointer (some ⟨C.r, 2 + f * 10 + 0, none⟩)) w1 (fun v' w'' => v' = .bool false ∧ w'' = w1) := r_get hf (by decide) (by rw [← hi]; rfl) h1 ⟨rfl, rfl⟩
  repeat' first | exact e1 | exact e2 | refine And.intro ?_ ?_ | refine chk_s ?_
  all_goals
    refine bsl_s [.bool true, .int .i64 212, .bool true, .int .i64 200] h1 (by kernel_rfl) fun b w2 h2 => ?_
    refine rti_all_s h2 (l := [212, 200]) (blk_rdn (f := chkC) [212, 200] rfl (Nat.le_refl _)) (by decide) fun w3 h3 => ?_
    refine nil_s (iff_f ?_)
    refine ncP_p (fld_at (ixA_at hf (fld_at ?_)))
    exact r_set (k := 0) (m := { s.m f with is := true }) hf (by decide) rfl rfl ⟨rfl, rfl⟩ h3.drop fun w4 h4 => hk _ h4

theorem rti_Publish_s (hf : f < C.n) (hn : C.n ≤ 8) (hi : (s.m f).is = true) (h0 : s.pu f = 0) (hS : Sat e w (RP C s ++ R)) (hk : ∀ w', Sat e w' (RP C { s with pu := upM s.pu f (bitV f) } ++ R) → K (.int .i64 0) w') :
    Cl prog 6 #[pt C.r, .int .i64 (f : Int), .int .i64 (f : Int), .bool true] w K := by
  refine rti_Rti_Publish_calls ?_
  unfold rti_Rti_Publish
  refine rti_by_s (by omega) hi hS fun w1 h1 => ?_
  refine nil_s (iff_f (ncP_p (fld_at ?_)))
  refine ld1_at h1 1 rfl (v := pt C.tb) rfl ?_
  refine tb_Publish_s (R := _ :: _ :: R) (by omega) hf hn h0 (h1.selR [_, _, _, _] [_, _, _, _] [2, 3, 0, 1] (by decide) rfl) fun w2 h2 => ?_
  exact hk _ (h2.selR [_, _, _, _] [_, _, _, _] [2, 3, 0, 1] (by decide) rfl)
theorem rti_Subscribe_s (h1f : 1 ≤ f) (hf : f < C.n) (hn : C.n ≤ 8) (hi : (s.m f).is = true) (h0 : s.su f = 0) (h00 : (s.m f).subs = 0) (hS : Sat e w (RP C s ++ R))
    (hk : ∀ w', Sat e w' (RP C ({ s with su := upM s.su f (bitV (f - 1)) }.setM f { s.m f with subs := bitV (f - 1) }) ++ R) → K (.int .i64 0) w') :
    Cl prog 7 #[pt C.r, .int .i64 (f : Int), .int .i64 ((f - 1 : Nat) : Int), .bool true] w K := by
  refine rti_Rti_Subscribe_calls ?_
  unfold rti_Rti_Subscribe
  refine rti_by_s (by omega) hi hS fun w1 h1 => ?_
  refine nil_s (iff_f ?_)
  refine rti_Rti_subscribe_calls ?_
  unfold rti_Rti_subscribe
  refine ncP_p (fld_at ?_)
  refine ld1_at h1 1 rfl (v := pt C.tb) rfl ?_
  refine tb_Subscribe_s (R := _ :: _ :: R) (by omega) (by omega) hn h0 (h1.selR [_, _, _, _] [_, _, _, _] [2, 3, 0, 1] (by decide) rfl) fun w2 h2 => ?_
  have h3 : Sat e w2 (RP C { s with su := upM s.su f (bitV (f - 1)) } ++ R) := h2.selR [_, _, _, _] [_, _, _, _] [2, 3, 0, 1] (by decide) rfl
  refine J0.go (ne_f rfl (iff_f (iff_t ?_)))
  refine dr_s h3 fun w3 h4 => ?_
  refine ncP_p (fld_at (ixA_at (by omega) (fld_at ?_)))
  refine r_get (k := 9) (v := .int .u32 0) (by omega) (by decide) (by rw [← h00]; rfl) h4 ?_
  refine cvU (by omega) (ncP_p (fld_at (shl_s (by omega) ⟨r_get (k := 9) (v := .int .u32 0) (by omega) (by decide) (by rw [← h00]; rfl) h4 ⟨rfl, rfl⟩, bit_or (or_bit (by omega)) ?_⟩)))
  refine ixA_at (by omega) (fld_at ?_)
  exact r_set (s := { s with su := upM s.su f (bitV (f - 1)) }) (k := 9) (m := { s.m f with subs := bitV (f - 1) }) (by omega) (by decide) rfl rfl ⟨rfl, rfl⟩ h4 fun w4 h5 => hk _ h5

theorem rti_Ask_s {k t : Int} (hf : f < 8) (hi : (s.m f).is = true) (hkk : 1 ≤ k ∧ k ≤ 3) (h0 : (s.m f).kind = 0) (ht : 0 ≤ t ∧ t ≤ 1099511627776) (htt : (s.m f).time ≤ t) (hS : Sat e w (RP C s ++ R))
    (hk : ∀ w', Sat e w' (RP C (s.setM f { s.m f with kind := k, ask := t }) ++ R) → K (.int .i64 0) w') : Cl prog 11 #[pt C.r, .int .i64 (f : Int), .int .i64 k, .int .i64 t] w K := by
  refine rti_Rti_Ask_calls ?_
  unfold rti_Rti_Ask
  refine rti_by_s hf hi hS fun w1 h1 => ?_
  refine nil_s (iff_f (ncP_p (fld_at (ixA_at hf ?_))))
  refine dr_s h1 fun w2 h2 => ?_
  refine ge_t (by omega) (gd_tt (gd_tt (le_t (by omega) (pk_t (ncP_p (fld_at ?_))))))
  refine r_get (k := 4) (v := .int .i64 0) hf (by decide) (by rw [← h0]; rfl) h2 (eq_t rfl ?_)
  refine ge_t (by omega) (gd_tt (gd_tt (le_t (by omega) (pk_t (ncP_p (fld_at ?_))))))
  refine r_get (k := 2) (v := .int .i64 (s.m f).time) hf (by decide) rfl h2 (ge_t (by omega) ?_)
  have e1 : ld1 (.pointer (some ⟨C.r, 2 + f * 10 + 2, none⟩)) w2 (fun v' w'' => v' = .int .i64 (s.m f).time ∧ w'' = w2) := r_get hf (by decide) rfl h2 ⟨rfl, rfl⟩
  have e2 : ld1 (.pointer (some ⟨C.r, 2 + f * 10 + 4, none⟩)) w2 (fun v' w'' => v' = .int .i64 0 ∧ w'' = w2) := r_get hf (by decide) (by rw [← h0]; rfl) h2 ⟨rfl, rfl⟩
  repeat' first | exact e1 | exact e2 | refine And.intro ?_ ?_ | refine chk_s ?_
  all_goals
    refine bsl_s [.bool true, .int .i64 1, .bool true, .int .i64 206, .bool true, .int .i64 208, .bool true, .int .i64 207] h2 (by kernel_rfl) fun b w3 h3 => ?_
    refine rti_all_s h3 (l := [1, 206, 208, 207]) (blk_rdn (f := chkC) [1, 206, 208, 207] rfl (Nat.le_refl _)) (by decide) fun w4 h4 => ?_
    refine nil_s (iff_f (ncP_p (fld_at ?_)))
    refine r_set (k := 4) (m := { s.m f with kind := k }) hf (by decide) rfl rfl ⟨rfl, rfl⟩ h4.drop fun w5 h5 => ?_
    refine ncP_p (fld_at ?_)
    refine r_set (k := 5) (m := { s.m f with kind := k, ask := t }) hf (by decide) (by show (upM s.m f _ f).cs.set _ _ = _; rw [upM_at]; rfl) (by show _ = (upM s.m f _ f).q; rw [upM_at]) ⟨rfl, rfl⟩ h5 fun w6 h6 => hk _ ?_
    rw [show (s.setM f { s.m f with kind := k }).setM f { s.m f with kind := k, ask := t } = s.setM f { s.m f with kind := k, ask := t } from by
      unfold RS.setM
      congr 1
      funext i
      by_cases hh : i = f
      · subst hh; simp only [upM_at]
      · simp only [upM_ne hh]] at h6
    exact h6
theorem rti_Time_s (hf : f < 8) (hi : (s.m f).is = true) (hS : Sat e w (RP C s ++ R)) (hk : K (.int .i64 (s.m f).time) w) : Cl prog 13 #[pt C.r, .int .i64 (f : Int)] w K := by
  refine rti_Rti_Time_calls ?_
  unfold rti_Rti_Time
  refine lt_f (by omega) (gd_ff (gd_ff (ge_f (by omega) (pk_f ?_))))
  refine gd_ff (gd_ff (gd_ff (nc_p (gd_ff (fld_at (gd_ff (ixA_at hf (gd_ff (fld_at (gd_ff ?_))))))))))
  refine r_get (k := 0) (v := .bool true) hf (by decide) (by rw [← hi]; rfl) hS (gd_ff (not_t (pk_f (iff_f ?_))))
  refine ncP_p (fld_at (ixA_at hf (fld_at ?_)))
  exact r_get (k := 2) hf (by decide) rfl hS hk
end Go.Proofs.YtmgaooeeddmbmaaGreatDoor
