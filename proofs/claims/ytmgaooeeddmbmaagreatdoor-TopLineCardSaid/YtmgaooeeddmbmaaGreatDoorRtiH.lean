/- The run-time infrastructure: Send, where one hears, and nothing waits there. Conditions: the federates are 0 to 7, all checks hold. -/
import Derived.Test.YtmgaooeeddmbmaaGreatDoorRtiG
import Derived.Test.YtmgaooeeddmbmaaGreatDoorPf0
import Derived.Test.YtmgaooeeddmbmaaGreatDoorPf1
import Derived.Test.YtmgaooeeddmbmaaGreatDoorPf2
import Derived.Test.YtmgaooeeddmbmaaGreatDoorPf3
import Derived.Test.YtmgaooeeddmbmaaGreatDoorPf4
namespace Go.Proofs.YtmgaooeeddmbmaaGreatDoor
open Go Go.E
set_option maxRecDepth 100000
variable {e w : World} {R : List HP} {K : KV}
variable {C : RC} {s : RS} {f : Nat}

theorem rti_Send_s {body t : Int} (hf : f + 1 < C.n) (hn : C.n ≤ 8) (hi : (s.m f).is = true) (hp : s.pu f = bitV f) (hs : ∀ g, g < 8 → s.su g = subW C.n g) (hlk : 0 < (s.m f).look) (hcon : (s.m (f + 1)).con = true) (hq : s.l (f + 1) = [])
    (hb : 0 ≤ body ∧ body < 1000) (ht : 0 ≤ t ∧ t ≤ 1099511627776) (hlat : (lmOf (s.m f) (s.l f)).lat ≤ t) (hsn : 0 ≤ (s.m f).sent ∧ (s.m f).sent ≤ 1000) (hS : Sat e w (RP C s ++ R))
    (hk : ∀ w', Sat e w' (RP C ((s.setL (f + 1) [⟨⟨t, f, (s.m f).sent⟩, ((f + 1 : Nat) : Int), f, body⟩]).setM f { s.m f with sent := (s.m f).sent + 1 }) ++ R) → K (.tuple #[.int .i64 (s.m f).sent, .int .i64 0]) w') :
    Cl prog 10 #[pt C.r, .int .i64 (f : Int), .int .i64 (f : Int), .int .i64 body, .int .i64 t, .bool true] w K := by
  refine rti_Rti_Send_calls ?_
  unfold rti_Rti_Send
  have hf8 : f < 8 := by omega
  have hg8 : f + 1 < 8 := by omega
  refine rti_by_s hf8 hi hS fun w1 h1 => ?_
  refine nil_s (iff_f (ncP_p (fld_at ?_)))
  refine ld1_at h1 1 rfl (v := pt C.tb) rfl ?_
  refine tb_Route_s (R := _ :: _ :: R) (by omega) hn hp hs (h1.selR [_, _, _, _] [_, _, _, _] [2, 3, 0, 1] (by decide) rfl) fun v w2 h2 => ?_
  have hto : routes C.n f = [((f + 1 : Nat) : Int)] := by unfold routes; rw [if_pos hf]
  rw [hto] at h2
  have h3 : Sat e w2 (RP C s ++ II v [((f + 1 : Nat) : Int)] :: R) := h2.selR [_, _, _, _, _] [_, _, _, _, _] [3, 4, 1, 2, 0] (by decide) rfl
  refine xt_02 (xt_12 (ne_f rfl (iff_f (ncP_p (fld_at (ixA_at hf8 (gd_tt (gd_tt (nc_p (gd_tt (fld_at (gd_tt ?_))))))))))))
  refine r_get (k := 3) hf8 (by decide) rfl h3 (gd_tt (gt_t hlk (pk_t ?_)))
  refine lnS_rd h3 4 rfl (fun g hg => own_rd hg) ?_
  refine lp2 (fun t19 t63 w => ∃ j : Nat, j ≤ 1 ∧ t63 = .int .i64 j ∧ t19 = .bool false ∧ Sat e w (RP C s ++ II v [((f + 1 : Nat) : Int)] :: R)) (fun _ t63 _ => 1 - nOf t63) ⟨0, Nat.zero_le _, rfl, rfl, h3⟩ ?_
  rintro _ _ w3 g ⟨j, hj, rfl, rfl, h4⟩ hag
  refine lt_c (fun c => iff_t ?_) (fun c => iff_f ?_)
  · obtain rfl : j = 0 := by simp at c; omega
    refine J1.go ?_
    refine ixS_rd h4 4 rfl (fun g hg => own_rd hg) (fun _ => rfl) (x := ((f + 1 : Nat) : Int)) rfl fun a ha => ?_
    refine ld1_of h4 4 rfl ha (by rfl) ?_
    refine ncP_p (fld_at (ixA_at hg8 (gd_tt (gd_tt (nc_p (gd_tt (fld_at (gd_tt ?_))))))))
    refine r_get (k := 1) (v := .bool true) hg8 (by decide) (by rw [← hcon]; rfl) h4 (pk_t (iff_t ?_))
    refine gd_ff (gd_ff (nc_p (gd_ff (fld_at (gd_ff ?_)))))
    refine r_get (k := 7) (v := pt (s.m (f + 1)).q) hg8 (by decide) rfl h4 (gd_ff ?_)
    have ho := q_open hg8 h4
    rw [hq] at ho
    refine prio_Len_s ho (gd_ff (ge_f (by decide) (pk_f ?_)))
    refine inc_s (by omega) (hag _ _ _ ⟨1, by omega, rfl, rfl, h4⟩ (by decide))
  obtain rfl : j = 1 := by simp at c; omega
  refine ge_t (by omega) (gd_tt (gd_tt (lt_t (by omega) (pk_t (chk_s ?_)))))
  refine not_t (gd_ff (gd_ff (ge_t (by omega) (gd_ff (gd_tt (gd_tt (le_t (by omega) (gd_ff (pk_t (pk_f (chk_s ?_)))))))))))
  refine not_t (gd_ff (gd_ff (gd_ff ?_)))
  refine rti_members_s h4 fun v1 w4 h5 => gd_ff ?_
  refine lb_Outputs_s (l := s.lms) (by rw [lms_len]; decide) h5 (fun g hg => own_rd hg) (h5.own_cells 0 rfl) fun v3 out op hgs w5 ok h6 => ?_
  have hno := ok.n1
  rw [lms_len] at hno
  obtain ⟨o, ho⟩ := get_of_lt (l := out) (j := f) (by omega)
  have hole := ok.hi f _ o (range_get hf8) (by simpa [lmOf] using hlk) ho
  refine gd_ff (gd_ff ?_)
  refine ixS_rd h6 0 rfl (fun g hg => own_rd hg) (fun _ => rfl) ho fun a ha => ?_
  refine gd_ff (ld1_of h6 0 rfl ha (by rfl) (gd_ff (ge_t (by omega) (pk_f (chk_s ?_)))))
  refine not_f (chk_s ?_)
  refine bsl_s [.bool true, .int .i64 1, .bool true, .int .i64 208, .bool true, .int .i64 110, .bool true, .int .i64 2] h6.drop.drop (by kernel_rfl) fun b w6 h7 => ?_
  refine rti_all_s h7 (l := [1, 208, 110, 2]) (blk_rdn (f := chkC) [1, 208, 110, 2] rfl (Nat.le_refl _)) (by decide) fun w7 h8 => ?_
  have h9 := h8.drop
  refine nil_s (iff_f (not_t (J1.go (iff_f ?_))))
  refine ncP_p (fld_at (r_get (k := 6) (v := .int .i64 (s.m f).sent) hf8 (by decide) rfl h9 ?_))
  refine bld_s (ints [t, f, (s.m f).sent]) (by kernel_rfl) ?_
  refine bld_s (ints [t, f, (s.m f).sent, 0, f, body]) (by kernel_rfl) ?_
  rw [zero_42]
  refine al_s (cs := ints [0, 0, 0, 0, 0, 0]) h9 rfl fun b24 w8 h10 => ?_
  refine stN_at h10 0 rfl (vs := ints [t, f, (s.m f).sent, 0, f, body]) rfl rfl (by simp [ints]) (ints_flat _) (cs' := ints [t, f, (s.m f).sent, 0, f, body]) (by kernel_rfl) fun w9 h11 => ?_
  have h12 : Sat e w9 (RP C s ++ II v [((f + 1 : Nat) : Int)] :: blk b24 42 (ints [t, f, (s.m f).sent, 0, f, body]) :: R) := h11.selR [_, _, _, _, _, _] [_, _, _, _, _, _] [1, 2, 3, 4, 5, 0] (by decide) rfl
  refine lnS_rd h12 4 rfl (fun g hg => own_rd hg) ?_
  refine lp1 (fun t153 w => ∃ j : Nat, j ≤ 1 ∧ t153 = .int .i64 j ∧ Sat e w (RP C (s.setL (f + 1) (if j = 0 then [] else [⟨⟨t, f, (s.m f).sent⟩, ((f + 1 : Nat) : Int), f, body⟩])) ++ II v [((f + 1 : Nat) : Int)] :: blk b24 42 (ints [t, f, (s.m f).sent, if j = 0 then 0 else ((f + 1 : Nat) : Int), f, body]) :: R)) (fun t153 _ => 1 - nOf t153)
    ⟨0, Nat.zero_le _, rfl, ?_⟩ ?_
  · simp only [if_true]
    rw [← hq, setL_self]
    exact h12
  rintro _ w10 g ⟨j, hj, rfl, h13⟩ hag
  refine lt_c (fun c => iff_t ?_) (fun c => iff_f ?_)
  · obtain rfl : j = 0 := by simp at c; omega
    simp only [if_true] at h13
    rw [← hq, setL_self] at h13
    refine J0.go ?_
    refine ixS_rd h13 4 rfl (fun g hg => own_rd hg) (fun _ => rfl) (x := ((f + 1 : Nat) : Int)) rfl fun a ha => ?_
    refine ld1_of h13 4 rfl ha (by rfl) ?_
    refine fld_at (stN_at h13 5 rfl (vs := [.int .i64 ((f + 1 : Nat) : Int)]) rfl rfl (by simp [ints]) (by simp [flat]) (cs' := ints [t, f, (s.m f).sent, ((f + 1 : Nat) : Int), f, body]) (by rfl) fun w11 h14 => ?_)
    have h14 : Sat e w11 (RP C s ++ II v [((f + 1 : Nat) : Int)] :: blk b24 42 (ints [t, f, (s.m f).sent, ((f + 1 : Nat) : Int), f, body]) :: R) := h14
    refine ncP_p (fld_at (ixA_at hg8 (gd_tt (gd_tt (nc_p (gd_tt (fld_at (gd_tt ?_))))))))
    refine r_get (k := 1) (v := .bool true) hg8 (by decide) (by rw [← hcon]; rfl) h14 (pk_t (iff_t ?_))
    refine dr_s h14 fun w12 h15 => ?_
    refine ncP_p (fld_at (r_get (k := 7) (v := pt (s.m (f + 1)).q) hg8 (by decide) rfl h15 ?_))
    refine ldN_at h15 5 (vs := ints [t, f, (s.m f).sent, ((f + 1 : Nat) : Int), f, body]) rfl (by rfl) rfl ?_
    have ho := q_open hg8 h15
    rw [hq] at ho
    refine prio_Push_s (x := ⟨⟨t, f, (s.m f).sent⟩, ((f + 1 : Nat) : Int), f, body⟩) (by simp) ho (fun h => absurd rfl h) fun _ _ _ l' w13 hp _ h16 => ?_
    obtain rfl : l' = [⟨⟨t, f, (s.m f).sent⟩, ((f + 1 : Nat) : Int), f, body⟩] := List.perm_singleton.1 hp
    exact inc_s (by omega) (hag _ _ ⟨1, by omega, rfl, q_close hg8 h16⟩ (by decide))
  obtain rfl : j = 1 := by simp at c; omega
  refine not_t (iff_f ?_)
  have h13 : Sat e w10 (RP C (s.setL (f + 1) [⟨⟨t, f, (s.m f).sent⟩, ((f + 1 : Nat) : Int), f, body⟩]) ++ II v [((f + 1 : Nat) : Int)] :: blk b24 42 (ints [t, f, (s.m f).sent, ((f + 1 : Nat) : Int), f, body]) :: R) := h13
  refine ncP_p (fld_at (r_get (k := 6) (s := s.setL (f + 1) _) (v := .int .i64 (s.m f).sent) hf8 (by decide) rfl h13 ?_))
  refine add_s (by omega) (by omega) ?_
  refine ncP_p (fld_at (r_set (k := 6) (s := s.setL (f + 1) _) (m := { s.m f with sent := (s.m f).sent + 1 }) hf8 (by decide) rfl rfl ⟨rfl, rfl⟩ h13 fun w11 h14 => ?_))
  refine fld_at (fld_at (ld1_at h14 5 rfl (v := .int .i64 (s.m f).sent) rfl ?_))
  exact hk _ (h14.selR [_, _, _, _, _, _] [_, _, _, _] [0, 1, 2, 3] (by decide) rfl)
end Go.Proofs.YtmgaooeeddmbmaaGreatDoor
