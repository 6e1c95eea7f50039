/- The law CalendarDays. Conditions: none. -/
import Derived.Test.YtlmakkjbcmhaeaaCalH
namespace Go.Proofs.Ytlmakkjbcmhaeaa
open Go Go.E
set_option maxRecDepth 100000
variable {e w : World} {R : List HP} {K : KV}

theorem pushV_in {room : Int} {l : List Msg} {x : Msg} (h : pushV room l x = 0) : validT x.key.T = true ∧ (∀ y ∈ l, y.key ≠ x.key) ∧ (l.length : Int) < room := by
  unfold pushV at h
  split at h
  · cases h
  · rename_i hv
    by_cases hin : ∃ y ∈ l, y.key = x.key
    · rw [pushE_in' hin] at h; cases h
    · have hne : ∀ y ∈ l, y.key ≠ x.key := fun y hy hk => hin ⟨y, hy, hk⟩
      rw [pushE_out hne] at h
      split at h
      · cases h
      · exact ⟨by simpa using hv, hne, by omega⟩
theorem pushV_ok {room : Int} {l : List Msg} {x : Msg} (hv : validT x.key.T = true) (hne : ∀ y ∈ l, y.key ≠ x.key) (hr : (l.length : Int) < room) : pushV room l x = 0 := by
  unfold pushV
  rw [if_neg (by rw [hv]; decide), pushE_out hne, if_neg (by omega)]
theorem pushL_perm {room : Int} {l : List Msg} {x : Msg} (hu : Upk l) (h : pushV room l x = 0) : (pushL room l x).Perm (x :: l) := by
  obtain ⟨_, hne, _⟩ := pushV_in h
  unfold pushL
  rw [if_pos h]
  obtain ⟨l', hu', hp⟩ := srt_ex hu hne
  rw [srt_eq hu' hp]
  exact hp

theorem calendarDays_s {v : Value} {ts : List Int} {dy : Int} {S : HP} (hS : Sat e w (S :: R)) (hd : (Lit.int .u16 dy).wf = true) (hr : ∀ g, S g → rdS 1 (intsK .u16) v ts g) (hw : ∀ m ∈ ts, (Lit.int .u16 m).wf = true)
    (hk : ∀ w', Sat e w' (S :: R) → K (.bool true) w') : Cl prog 3 #[.int .u16 dy, v] w K := by
  refine pacelinelaw04_CalendarDays_calls ?_
  unfold pacelinelaw04_CalendarDays
  rw [zero_32, zero_30]
  have hdb := wfU16 hd
  refine lnS_rd hS 0 rfl hr ?_
  refine gt_c (fun c1 => iff_t (hk _ hS)) (fun c1 => iff_f ?_)
  refine cv_s ?_
  rw [wrap_i64 (by omega) (by omega)]
  refine add_s (by omega) (by omega) ?_
  refine c_New_s hS fun q w1 h1 => ?_
  obtain ⟨d, hdd⟩ : ∃ d, d = 1 + dy := ⟨_, rfl⟩
  rw [show max (0 : Int) (min 64 64) = 64 from by decide, show max 1 (min (1 + dy) 1048576) = d from by omega] at h1
  rw [← hdd]
  have hd1 : 1 ≤ d := by omega
  have hd2 : d ≤ 65536 := by omega
  refine mkS_own te_26 (n := 8) (by decide) h1 i1 (fun _ => rfl) 0 (by rw [zero_3]) fun v2 w2 h2 => ?_
  refine lpi1 (fun z t8 w => ∃ (j : Nat) (lr : List Msg), t8 = .int .i64 (j : Int) ∧ z = ts.length - j ∧ j ≤ ts.length ∧ lr.length = j ∧ (∀ m ∈ lr, m.key.Seq < j) ∧ Sat e w (ownS 3 1 i1 v2 (cntOf d lr) :: IsC q 64 d lr :: S :: R)) ts.length
    ⟨0, [], rfl, rfl, Nat.zero_le _, rfl, (fun _ h => by cases h), h2⟩ ?_
  clear h1 h2
  rintro z _ w g1 ⟨j, lr, rfl, rfl, hj, hlj, hseq, h3⟩ hg
  refine lnS_rd h3 2 rfl hr ?_
  refine lt_c (fun c2 => iff_t ?_) (fun c2 => iff_f ?_)
  · obtain ⟨t, htx⟩ := get_of_lt (l := ts) (j := j) (by omega)
    have htb := wfU16 (hw t (List.mem_of_getElem? htx))
    refine ixS_rd h3 2 rfl hr (fun _ => rfl) htx fun p hp => ?_
    refine ld1_of h3 2 rfl hp rfl ?_
    refine cv_s ?_
    rw [wrap_i64 (by omega) (by omega)]
    refine bld_s (Key.cs ⟨t, 0, j⟩) (by kernel_rfl) ?_
    refine bld_s (Msg.cs ⟨⟨t, 0, j⟩, 0, 0, 0⟩) (by kernel_rfl) ?_
    refine c_Push_s (x := ⟨⟨t, 0, j⟩, 0, 0, 0⟩) hd1 (by unfold In64; exact ⟨by show _ ≤ t; omega, by show t ≤ _; omega⟩) (Sat.swap h3) fun w4 h4 => ?_
    have hv : validT t = true := by unfold validT Inf MaxT; exact decide_eq_true (by omega)
    have hne : ∀ y ∈ lr, y.key ≠ (⟨⟨t, 0, j⟩, 0, 0, 0⟩ : Msg).key := fun y hy he => by
      have := hseq y hy
      rw [he] at this
      exact absurd this (by simp)
    have e0 : pushV 64 lr ⟨⟨t, 0, j⟩, 0, 0, 0⟩ = 0 := pushV_ok hv hne (by omega)
    have hup := (c_ok (Sat.swap h3)).up
    have hperm := pushL_perm hup e0
    rw [e0]
    refine ne_f rfl (iff_f ?_)
    refine ixS_rd h4 2 rfl hr (fun _ => rfl) htx fun p hp => ?_
    refine ld1_of h4 2 rfl hp rfl ?_
    refine cv_s ?_
    rw [wrap_i64 (by omega) (by omega)]
    have e1 : t.tdiv d = t / d := Int.tdiv_eq_ediv_of_nonneg htb.1
    have h0 : 0 ≤ t / d := Int.ediv_nonneg htb.1 (by omega)
    have h6 : t / d ≤ t := Int.ediv_le_self _ htb.1
    refine quoI_s (by omega) (by omega) (by omega) ?_
    refine rem_s (by decide) ?_
    rw [e1, Int.tmod_eq_emod_of_nonneg h0]
    have e2 : (t / d) % 8 = (pageN d t : Int) := by
      unfold pageN
      have := Int.emod_nonneg (t / d) (show (8 : Int) ≠ 0 by decide)
      omega
    rw [e2]
    have hp8 := pageN_lt (day := d) (t := t)
    refine ixS_rd h4 1 rfl (fun g hg => own_rd hg) (fun _ => rfl) (cntOf_get hp8) fun p hp => ?_
    refine ld1_of h4 1 rfl hp rfl ?_
    have hcn : cntN d lr (pageN d t) ≤ 1000 := by
      have := List.countP_le_length (p := fun m : Msg => decide (pageN d m.key.T = pageN d t)) (l := lr)
      unfold cntN
      omega
    refine add_s (by omega) (by omega) ?_
    refine st_own h4 1 rfl (fun _ => rfl) (x := (cntN d lr (pageN d t) : Int) + 1) (by rw [cntOf_length]; exact hp8) rfl (fun v hv => by rw [List.mem_singleton.1 hv]; rfl) fun w6 h7 => ?_
    have hl' := hperm.length_eq
    rw [List.length_cons] at hl'
    refine inc_s (by omega) (hg _ _ _ (by omega) ⟨j + 1, pushL 64 lr ⟨⟨t, 0, j⟩, 0, 0, 0⟩, rfl, rfl, by omega, by omega, fun m hm => ?_, ?_⟩)
    · rcases List.mem_cons.1 (hperm.mem_iff.1 hm) with rfl | hm
      · show (j : Int) < _; omega
      · have := hseq m hm; omega
    · have e3 : cntOf d (pushL 64 lr ⟨⟨t, 0, j⟩, 0, 0, 0⟩) = (cntOf d lr).set (pageN d t) ((cntN d lr (pageN d t) : Int) + 1) := by
        rw [cntOf_perm (hperm.trans (List.perm_append_comm (l₁ := [_]) (l₂ := lr))), cntOf_snoc]
      rw [e3]
      exact Sat.swap h7
  · obtain rfl : j = ts.length := by omega
    refine c_Days_s (Sat.swap h3) fun v5 w5 h5 => ?_
    refine lnS_rd h5 0 rfl (fun g hg => own_rd hg) ?_
    refine ne_f (by rw [cntOf_length]; rfl) (gd_ff (gd_ff ?_))
    refine c_Len_s (Sat.drop h5) (gd_ff (gd_ff ?_))
    refine lnS_rd h5 3 rfl hr (gd_ff (ne_f (by omega) (pk_f (iff_f ?_))))
    refine lpi1 (fun z t17 w => ∃ k : Nat, t17 = .int .i64 (k : Int) ∧ z = 8 - k ∧ k ≤ 8 ∧ Sat e w (ownS 3 1 i1 v5 (cntOf d lr) :: IsC q 64 d lr :: ownS 3 1 i1 v2 (cntOf d lr) :: S :: R)) 8
      ⟨0, rfl, rfl, by decide, h5⟩ ?_
    clear h5 h3
    rintro z _ w g3 ⟨k, rfl, rfl, hk8, h13⟩ hg3
    refine lt_c (fun c4 => iff_t ?_) (fun c4 => iff_f ?_)
    · refine dr_s h13 fun w14 h14 => ?_
      refine ixS_rd h14 0 rfl (fun g hg => own_rd hg) (fun _ => rfl) (cntOf_get (p := k) (by omega)) fun p hp => ?_
      refine ld1_of h14 0 rfl hp rfl ?_
      refine ixS_rd h14 2 rfl (fun g hg => own_rd hg) (fun _ => rfl) (cntOf_get (p := k) (by omega)) fun p hp => ?_
      refine ld1_of h14 2 rfl hp rfl ?_
      exact ne_f rfl (iff_f (inc_s (by omega) (hg3 _ _ _ (by omega) ⟨k + 1, rfl, rfl, by omega, h14⟩)))
    · exact hk _ (h13.selR [_, _, _, _] [_] [3] (by decide) rfl)
end Go.Proofs.Ytlmakkjbcmhaeaa
