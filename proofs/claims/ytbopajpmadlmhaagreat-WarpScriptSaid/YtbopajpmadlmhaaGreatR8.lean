/- Texts of the proof, joined: WarpN, WarpS, WarpU, WarpI, WarpJ, WarpK, WarpV, WarpX, WarpW, WarpL, WarpM. Conditions: none. -/
import Derived.Test.YtbopajpmadlmhaaGreatR7
section
namespace Go.Proofs.YtbopajpmadlmhaaGreat
open Go Go.E
set_option maxRecDepth 100000
variable {e w : World} {L Q : List HP} {K : KV} {S S2 : HP}

theorem warp_copied_s {x : WdX} (i : Nat) (hi : L[i]? = some S) (hS : Sat e w L) (hr : ∀ g, S g → RdWd x g) (hs : x.short)
    (hk : ∀ (X : WdX) w', X.w = x.w → Sat e w' (WdOwn X :: L) → K (.agg X.cs.toArray) w') : Cl prog 43 #[.agg x.cs.toArray] w K := by
  refine warp_copied_calls ?_
  unfold warp_copied
  have hflat := wd_cells i hi hS hr
  refine al_s (cs := x.cs) hS rfl fun b w1 h1 => ?_
  rw [zero_27]
  refine al_s (cs := [.slice none 0 0, .slice none 0 0, .int .i64 0]) h1 rfl fun b2 w2 h2 => ?_
  refine fld_at (ld1_at h2 1 rfl (v := x.pv) rfl ?_)
  refine clone_ints_i (i + 2) (by simpa using hi) (by have := hs.par; omega) (fun _ _ v h => by simp [intsK] at h; subst h; rfl) h2 (fun g hg => (hr g hg).par) fun v1 w3 h3 => ?_
  have f1 := h3.own_cells 0 rfl
  refine fld_at (stN_at h3 2 rfl (vs := [v1]) f1.1 rfl (Nat.le_of_ble_eq_true rfl) (fun c hc => by rw [List.mem_singleton.1 hc]; exact f1.2) (cs' := [v1, x.fv, .int .i64 x.End]) (by rfl) fun w4 h4 => ?_)
  refine fld_at (ld1_at h4 2 rfl (v := x.fv) rfl ?_)
  refine clone_feds_i (i + 3) (by simpa using hi) (by have := hs.feds; omega) (fun f hf => fed_cells i hi hS fun g hg => (hr g hg).fed f hf) h4 (fun g hg => (hr g hg).feds) fun v2 w5 h5 => ?_
  have f2 := h5.own_cells 0 rfl
  refine fld_at (stN_at h5 3 rfl (vs := [v2]) f2.1 rfl (Nat.le_of_ble_eq_true rfl) (fun c hc => by rw [List.mem_singleton.1 hc]; exact f2.2) (cs' := [v1, v2, .int .i64 x.End]) (by rfl) fun w6 h6 => ?_)
  refine fld_at (ld1_at h6 3 rfl (v := v2) rfl ?_)
  refine lnS_rd h6 0 rfl (fun g hg => own_rd hg) ?_
  have hfl := hs.feds
  refine lpi1 (fun q t17 w => ∃ (j : Nat) (dn : List FedX), j ≤ x.Feds.length ∧ t17 = .int .i64 j ∧ q = x.Feds.length - j ∧ dn.length = j ∧ dn.map FedX.f = (x.Feds.take j).map FedX.f ∧
      Sat e w (ownS 66 7 FedX.cs v2 (dn ++ x.Feds.drop j) :: sepL (dn.map FedOwn) :: ownS 3 1 (intsK .i64) v1 x.Parents :: blk b2 27 [.slice none 0 0, .slice none 0 0, .int .i64 0] :: blk b 27 [v1, v2, .int .i64 x.End] :: L)) x.Feds.length
    ⟨0, [], Nat.zero_le _, rfl, rfl, rfl, rfl, ?_⟩ ?_
  · have h7 : Sat e w6 (sepL [] :: ownS 66 7 FedX.cs v2 x.Feds :: ownS 3 1 (intsK .i64) v1 x.Parents :: blk b2 27 [.slice none 0 0, .slice none 0 0, .int .i64 0] :: blk b 27 [v1, v2, .int .i64 x.End] :: L) := Sat.join (l' := []) (h6.selR [_, _, _, _] [_, _, _, _] [0, 1, 2, 3] (by decide) rfl)
    exact h7.swap
  rintro q _ w g1 ⟨j, dn, hj, rfl, rfl, hdl, hdm, h7⟩ hg1
  refine lt_c (fun c0 => iff_t ?_) (fun c0 => iff_f ?_)
  case refine_2 =>
    have ej : j = x.Feds.length := by omega
    rw [ej, List.drop_length, List.append_nil] at h7
    rw [ej, List.take_length] at hdm
    refine ldN_at h7 4 (vs := [v1, v2, .int .i64 x.End]) rfl (by rfl) rfl ?_
    refine stN_at h7 3 rfl (vs := [v1, v2, .int .i64 x.End]) rfl rfl (Nat.le_of_ble_eq_true rfl) (fun c hc => by
      simp only [List.mem_cons, List.not_mem_nil, or_false] at hc
      rcases hc with rfl | rfl | rfl
      · exact f1.2
      · exact f2.2
      · rfl) (cs' := [v1, v2, .int .i64 x.End]) (by rfl) fun w8 h8 => ?_
    refine ldN_at h8 3 (vs := [v1, v2, .int .i64 x.End]) rfl (by rfl) rfl ?_
    refine hk ⟨v1, x.Parents, v2, dn, x.End⟩ _ (by simp only [WdX.w, hdm]) (Sat.join (l' := [_, _, _]) ?_)
    exact h8.selR [_, _, _, _, _] [_, _, _] [2, 0, 1] (by decide) rfl
  obtain ⟨fd, hf⟩ := get_of_lt (l := x.Feds) (j := j) (by omega)
  have hfm := List.mem_of_getElem? hf
  have hsf := hs.fed fd hfm
  have hdr : x.Feds.drop j = fd :: x.Feds.drop (j + 1) := drop_cons hf
  have hget : (dn ++ x.Feds.drop j)[j]? = some fd := by rw [hdr, List.getElem?_append_right (by omega), hdl, Nat.sub_self]; rfl
  have hi7 : (ownS 66 7 FedX.cs v2 (dn ++ x.Feds.drop j) :: sepL (dn.map FedOwn) :: ownS 3 1 (intsK .i64) v1 x.Parents :: blk b2 27 [.slice none 0 0, .slice none 0 0, .int .i64 0] :: blk b 27 [v1, v2, .int .i64 x.End] :: L)[i + 5]? = some S := by simpa using hi
  refine fld_at (ld1_at h7 4 rfl (v := v2) rfl ?_)
  refine ixS_own h7 0 rfl hget fun bb cc hv2 => ?_
  refine dr_s h7 fun w8 h8 => ?_
  refine ncP_p (fld_at (ldF_own h8 0 rfl (fun _ => rfl) hv2 hget (u := fd.pv) rfl ?_))
  refine ncP_p (fld_at (ldF_own h8 0 rfl (fun _ => rfl) hv2 hget (u := fd.sv) rfl ?_))
  refine ncP_p (fld_at (ldF_own h8 0 rfl (fun _ => rfl) hv2 hget (u := fd.iv) rfl ?_))
  refine ncP_p (fld_at (ldF_own h8 0 rfl (fun _ => rfl) hv2 hget (u := fd.rv) rfl ?_))
  have hintf : ∀ (l : List Int), ∀ x ∈ l, ∀ v ∈ intsK .i64 x, flat v = true := fun _ _ _ v h => by simp [intsK] at h; subst h; rfl
  refine clone_ints_i (i + 5) hi7 (by have := hsf.pubs; omega) (hintf _) h8 (fun g hg => ((hr g hg).fed fd hfm).pubs) fun a1 w9 h9 => ?_
  refine ⟨ldF_own h9 1 rfl (fun _ => rfl) hv2 hget (u := fd.rv) rfl ⟨rfl, rfl⟩, ldF_own h9 1 rfl (fun _ => rfl) hv2 hget (u := fd.iv) rfl ⟨rfl, rfl⟩, ldF_own h9 1 rfl (fun _ => rfl) hv2 hget (u := fd.sv) rfl ⟨rfl, rfl⟩, ?_⟩
  refine clone_ints_i (i + 6) (by simpa using hi) (by have := hsf.subs; omega) (hintf _) h9 (fun g hg => ((hr g hg).fed fd hfm).subs) fun a2 w10 h10 => ?_
  refine ⟨ldF_own h10 2 rfl (fun _ => rfl) hv2 hget (u := fd.rv) rfl ⟨rfl, rfl⟩, ldF_own h10 2 rfl (fun _ => rfl) hv2 hget (u := fd.iv) rfl ⟨rfl, rfl⟩, ?_⟩
  refine clone_outs_i (i + 7) (by simpa using hi) (by have := hsf.init; omega) (fun _ _ => ints_flat _) h10 (fun g hg => ((hr g hg).fed fd hfm).init) fun a3 w11 h11 => ?_
  refine ⟨ldF_own h11 3 rfl (fun _ => rfl) hv2 hget (u := fd.rv) rfl ⟨rfl, rfl⟩, ?_⟩
  refine clone_rules_i (i + 8) (by simpa using hi) (by have := hsf.rules; omega) (rule_cells i hi hS fun g hg => ((hr g hg).fed fd hfm).rules) h11 (fun g hg => ((hr g hg).fed fd hfm).rules.s) fun a4 w12 h12 => ?_
  have q4 := h12.own_cells 0 rfl
  have q3 := h12.own_cells 1 rfl
  have q2 := h12.own_cells 2 rfl
  have q1 := h12.own_cells 3 rfl
  have hset : ∀ (a c : FedX), ((dn ++ x.Feds.drop j).set j a).set j c = (dn ++ x.Feds.drop j).set j c := fun a c => List.set_set _
  have hjl : j < (dn ++ x.Feds.drop j).length := (List.getElem?_eq_some_iff.1 hget).1
  have hg1' : ∀ a : FedX, ((dn ++ x.Feds.drop j).set j a)[j]? = some a := fun a => List.getElem?_set_self hjl
  have hln : ∀ a : FedX, ((dn ++ x.Feds.drop j).set j a).length = (dn ++ x.Feds.drop j).length := fun a => List.length_set
  refine ncP_p (fld_at (stF_own h12 4 rfl (fun _ => rfl) hv2 hget (x' := { fd with pv := a1 }) q1.1 rfl (by decide) (fun c hc => by rw [List.mem_singleton.1 hc]; exact q1.2) rfl fun w13 h13 => ?_))
  refine ncP_p (fld_at (stF_own h13 4 rfl (fun _ => rfl) (by rw [hln]; exact hv2) (hg1' _) (x' := { fd with pv := a1, sv := a2 }) q2.1 rfl (by decide) (fun c hc => by rw [List.mem_singleton.1 hc]; exact q2.2) rfl fun w14 h14 => ?_))
  rw [hset] at h14
  refine ncP_p (fld_at (stF_own h14 4 rfl (fun _ => rfl) (by rw [hln]; exact hv2) (hg1' _) (x' := { fd with pv := a1, sv := a2, iv := a3 }) q3.1 rfl (by decide) (fun c hc => by rw [List.mem_singleton.1 hc]; exact q3.2) rfl fun w15 h15 => ?_))
  rw [hset] at h15
  refine ncP_p (fld_at (stF_own h15 4 rfl (fun _ => rfl) (by rw [hln]; exact hv2) (hg1' _) (x' := { fd with pv := a1, sv := a2, iv := a3, rv := a4 }) q4.1 rfl (by decide) (fun c hc => by rw [List.mem_singleton.1 hc]; exact q4.2) rfl fun w16 h16 => ?_))
  rw [hset] at h16
  clear h8 h9 h10 h11 h12 h13 h14 h15
  generalize hfd' : ({ fd with pv := a1, sv := a2, iv := a3, rv := a4 } : FedX) = fd' at h16
  generalize hls : (dn ++ x.Feds.drop j).set j fd' = ls at h16
  have hlsj : ls[j]? = some fd' := by rw [← hls]; exact hg1' _
  have hlsl : v2 = .slice (some ⟨bb, 0, none⟩) ls.length cc := by rw [← hls, hln]; exact hv2
  have e4 : fd'.rv = a4 := by rw [← hfd']
  refine ncP_p (fld_at (ldF_own h16 4 rfl (fun _ => rfl) hlsl hlsj (u := a4) (by rw [← hfd']; rfl) ?_))
  refine lnS_rd h16 0 rfl (fun g hg => own_rd hg) ?_
  have hrl := hsf.rules
  refine lpi1 (fun q t61 w => ∃ (n : Nat) (rd : List RuleX), n ≤ fd.Rules.length ∧ t61 = .int .i64 n ∧ q = fd.Rules.length - n ∧ rd.length = n ∧ rd.map RuleX.r = (fd.Rules.take n).map RuleX.r ∧
      Sat e w (ownS 89 4 RuleX.cs a4 (rd ++ fd.Rules.drop n) :: sepL (rd.map RuleOwn) :: ownS 87 3 Out.cs a3 fd.Init :: ownS 3 1 (intsK .i64) a2 fd.Subs :: ownS 3 1 (intsK .i64) a1 fd.Pubs :: ownS 66 7 FedX.cs v2 ls :: sepL (dn.map FedOwn) :: ownS 3 1 (intsK .i64) v1 x.Parents :: blk b2 27 [.slice none 0 0, .slice none 0 0, .int .i64 0] :: blk b 27 [v1, v2, .int .i64 x.End] :: L)) fd.Rules.length
    ⟨0, [], Nat.zero_le _, rfl, rfl, rfl, rfl, ?_⟩ ?_
  · exact (Sat.join (l' := []) h16).swap
  rintro q _ w g2 ⟨n, rd, hn, rfl, rfl, hrdl, hrdm, h17⟩ hg2
  refine lt_c (fun c1 => iff_t ?_) (fun c1 => iff_f ?_)
  case refine_2 =>
    have en : n = fd.Rules.length := by omega
    rw [en, List.drop_length, List.append_nil] at h17
    rw [en, List.take_length] at hrdm
    refine inc_s (by omega) ?_
    have h18 : Sat e w (FedOwn { fd' with Rules := rd } :: ownS 66 7 FedX.cs v2 ls :: sepL (dn.map FedOwn) :: ownS 3 1 (intsK .i64) v1 x.Parents :: blk b2 27 [.slice none 0 0, .slice none 0 0, .int .i64 0] :: blk b 27 [v1, v2, .int .i64 x.End] :: L) := by
      refine Sat.join (l' := [_, _, _, _, _]) ?_
      rw [← hfd']
      exact h17.selR [_, _, _, _, _] [_, _, _, _, _] [4, 3, 2, 0, 1] (by decide) rfl
    have h19 := sep_push (h18.selR [_, _, _] [_, _, _] [0, 2, 1] (by decide) rfl)
    refine hg1 _ _ _ (by omega) ⟨j + 1, dn ++ [{ fd' with Rules := rd }], by omega, rfl, rfl, by simp [hdl], ?_, ?_⟩
    · rw [take_snoc hf, List.map_append, List.map_append, hdm, List.map_singleton, List.map_singleton]
      congr 2
      rw [← hfd']
      simp only [FedX.f, hrdm]
    · have h20 := (h19.swap).imp (Q := ownS 66 7 FedX.cs v2 (dn ++ [{ fd' with Rules := rd }] ++ x.Feds.drop (j + 1))) fun g hg => own_congr (by
        rw [← hls, hdr, List.set_append_right _ _ (by omega), hdl, Nat.sub_self, List.set_cons_zero]
        simp only [List.map_append, List.map_cons, List.append_assoc, List.singleton_append]
        rfl) hg
      rw [List.map_append]
      exact h20
  obtain ⟨r, hrn⟩ := get_of_lt (l := fd.Rules) (j := n) (by omega)
  have hrm := List.mem_of_getElem? hrn
  have hdr2 : fd.Rules.drop n = r :: fd.Rules.drop (n + 1) := drop_cons hrn
  have hget2 : (rd ++ fd.Rules.drop n)[n]? = some r := by rw [hdr2, List.getElem?_append_right (by omega), hrdl, Nat.sub_self]; rfl
  refine dr_s h17 fun w18 h18 => ?_
  refine ncP_p (fld_at (ldF_own h18 5 rfl (fun _ => rfl) hlsl hlsj (u := a4) (by rw [← hfd']; rfl) ?_))
  refine ncP_p (fld_at (ldF_own h18 5 rfl (fun _ => rfl) hlsl hlsj (u := a4) (by rw [← hfd']; rfl) ?_))
  refine ixS_own h18 0 rfl hget2 fun br cr ha4 => ?_
  refine fld_at (ldF_own h18 0 rfl (fun _ => rfl) ha4 hget2 (u := r.sv) rfl ?_)
  refine clone_outs_i (i + 10) (by simpa using hi) (by have := hsf.sends r hrm; omega) (fun _ _ => ints_flat _) h18 (fun g hg => ((hr g hg).fed fd hfm).rules.e r hrm) fun a5 w19 h19 => ?_
  have q5 := h19.own_cells 0 rfl
  refine ⟨ldF_own h19 6 rfl (fun _ => rfl) hlsl hlsj (u := a4) (by rw [← hfd']; rfl) ⟨rfl, rfl⟩, ?_⟩
  refine ixS_own h19 1 rfl hget2 fun br' cr' ha4' => ?_
  refine fld_at (stF_own h19 1 rfl (fun _ => rfl) ha4' hget2 (x' := { r with sv := a5 }) q5.1 rfl (by decide) (fun c hc => by rw [List.mem_singleton.1 hc]; exact q5.2) rfl fun w20 h20 => ?_)
  refine inc_s (by omega) ?_
  have h21 := sep_push (A := RuleOwn { r with sv := a5 }) (h20.selR [_, _, _] [_, _, _] [0, 2, 1] (by decide) rfl)
  refine hg2 _ _ _ (by omega) ⟨n + 1, rd ++ [{ r with sv := a5 }], by omega, rfl, rfl, by simp [hrdl], ?_, ?_⟩
  · rw [take_snoc hrn, List.map_append, List.map_append, hrdm]
    rfl
  · rw [hdr2, List.set_append_right _ _ (by omega), hrdl, Nat.sub_self, List.set_cons_zero] at h21
    rw [List.map_append, List.append_assoc]
    exact h21.swap


def warpMay (wd : Wd) (f : Int) : Option Fed := if 0 ≤ f then (wd.Feds[f.toNat]?).bind fun fd => if fd.Kind = 1 then some fd else none else none
def clkUp (l : List Fed) : List Int := l.map fun g => if g.Kind = 0 then 0 else -1
theorem clkUp_nil : ClkM (clkUp []) [] := ⟨List.nodup_nil, fun j => by unfold clkAt clkUp; simp [lkA], by simp⟩
theorem clkAt_snoc {l : List Int} {x : Int} (j : Int) : clkAt (l ++ [x]) j = if j = l.length then x else clkAt l j := by
  unfold clkAt
  by_cases h0 : 0 ≤ j
  · rw [if_pos h0, if_pos h0, List.getD_eq_getElem?_getD, List.getD_eq_getElem?_getD]
    by_cases h1 : j = l.length
    · rw [if_pos h1, h1, Int.toNat_natCast, List.getElem?_append_right (Nat.le_refl _), Nat.sub_self]
      rfl
    · rw [if_neg h1]
      rcases Nat.lt_or_ge j.toNat l.length with h2 | h2
      · rw [List.getElem?_append_left h2]
      · rw [List.getElem?_append_right h2, List.getElem?_eq_none (l := l) h2, List.getElem?_eq_none (by simp; omega)]
  · rw [if_neg h0, if_neg h0, if_neg (by omega)]
theorem clkUp_yes {l : List Fed} {m : List (Int × Int)} {g : Fed} (h : ClkM (clkUp l) m) (hg : g.Kind = 0) (hl : m.length ≤ 900) : ClkM (clkUp (l ++ [g])) (upA m (l.length : Int) 0) := by
  have e1 : clkUp (l ++ [g]) = clkUp l ++ [0] := by unfold clkUp; rw [List.map_append, List.map_singleton, if_pos hg]
  have e2 : (clkUp l).length = l.length := by unfold clkUp; rw [List.length_map]
  have hn : lkA m (l.length : Int) = none := by
    rw [h.lk, ← e2]
    have : clkAt (clkUp l) ((clkUp l).length : Int) = -1 := by
      unfold clkAt
      rw [if_pos (by omega), Int.toNat_natCast, List.getD_eq_getElem?_getD, List.getElem?_eq_none (Nat.le_refl _)]
      rfl
    rw [this]
    rfl
  refine ⟨h.u.up _ _, fun j => ?_, ?_⟩
  · rw [lkA_up h.u, e1, clkAt_snoc, e2]
    by_cases hj : j = l.length
    · rw [if_pos hj, if_pos hj]; rfl
    · rw [if_neg hj, if_neg hj, h.lk j]
  · unfold upA
    rw [hn]
    simp
    omega
theorem clkUp_no {l : List Fed} {m : List (Int × Int)} {g : Fed} (h : ClkM (clkUp l) m) (hg : g.Kind ≠ 0) : ClkM (clkUp (l ++ [g])) m := by
  have e1 : clkUp (l ++ [g]) = clkUp l ++ [-1] := by unfold clkUp; rw [List.map_append, List.map_singleton, if_neg hg]
  refine ⟨h.u, fun j => ?_, h.len⟩
  rw [e1, clkAt_snoc, h.lk j]
  by_cases hj : j = (clkUp l).length
  · rw [if_pos hj, hj]
    have : clkAt (clkUp l) ((clkUp l).length : Int) = -1 := by
      unfold clkAt
      rw [if_pos (by omega), Int.toNat_natCast, List.getD_eq_getElem?_getD, List.getElem?_eq_none (Nat.le_refl _)]
      rfl
    rw [this]
  · rw [if_neg hj]
theorem upA_few {m : List (Int × Int)} {k x : Int} : (upA m k x).length ≤ m.length + 1 := by
  unfold upA
  split
  · rw [List.length_map]; omega
  · simp
theorem warp_New_s {x : WdX} {f : Int} (i : Nat) (hi : L[i]? = some S) (hS : Sat e w L) (hr : ∀ g, S g → RdWd x g) (hwf : x.wf) (hs : x.short)
    (hbad : (checkW x.w).2 ≠ 0 → ∀ w', Sat e w' L → K (.tuple #[.pointer none, .int .i64 (checkW x.w).2]) w')
    (harg : (checkW x.w).2 = 0 → warpMay x.w f = none → ∀ w', Sat e w' L → K (.tuple #[.pointer none, .int .i64 1]) w')
    (hok : (checkW x.w).2 = 0 → ∀ (n : Nat) fd, f = n → x.w.Feds[n]? = some fd → warpMay x.w f = some fd → ∀ r w', Sat e w' (IsWarp r x.w n fd (nodeWI x.w) 0 :: L) → K (.tuple #[.pointer (some ⟨r, 0, none⟩), .int .i64 0]) w') :
    Cl prog 12 #[.agg x.cs.toArray, .int .i64 f] w K := by
  refine warp_New_calls ?_
  unfold warp_New
  refine al_s (cs := x.cs) hS rfl fun b w1 h1 => ?_
  refine ldN_at h1 0 (vs := x.cs) rfl (by rfl) rfl ?_
  refine config_Check_s (x := x) (i + 1) (by simpa using hi) h1 hr hwf hs fun w2 h2 => ?_
  refine xt_02 (xt_12 ?_)
  refine ne_c (fun c1 => iff_t (hbad c1 _ h2.drop)) (fun c1 => iff_f ?_)
  have hwd := checkW_ok c1
  have hi2 : (blk b 27 x.cs :: L)[i + 1]? = some S := by simpa using hi
  have hwl : x.w.Feds.length = x.Feds.length := by simp [WdX.w]
  by_cases d1 : f < 0
  · refine lt_t d1 ?_
    repeat (first | refine gd_tt ?_ | refine gd_ff ?_ | refine gd_tf ?_ | refine gd_ft ?_ | refine gd_u ?_ | refine pk_t ?_ | refine pk_f ?_ | refine iff_t ?_ | refine iff_f ?_ | refine not_t ?_ | refine not_f ?_ | refine beq_s ?_ | refine bne_s ?_ | refine ncP_p ?_ | refine nc_p ?_ | refine fld_at ?_ | refine xt_02 ?_ | refine xt_12 ?_ | refine xt_03 ?_ | refine xt_13 ?_ | refine xt_23 ?_ | refine eq_t (by omega) ?_ | refine eq_f (by omega) ?_ | refine ne_t (by omega) ?_ | refine ne_f (by omega) ?_ | refine lt_t (by omega) ?_ | refine lt_f (by omega) ?_ | refine gt_t (by omega) ?_ | refine gt_f (by omega) ?_ | refine ge_t (by omega) ?_ | refine ge_f (by omega) ?_ | refine le_t (by omega) ?_ | refine le_f (by omega) ?_)
    exact harg c1 (if_neg (by omega)) _ h2.drop
  refine lt_f d1 (gd_ff (gd_ff (fld_at (gd_ff (ld1_at h2 0 rfl (v := x.fv) rfl (gd_ff ?_))))))
  refine lnS_rd h2 (i + 1) hi2 (fun g hg => (hr g hg).feds) ?_
  by_cases d2 : (x.Feds.length : Int) ≤ f
  · repeat (first | refine gd_tt ?_ | refine gd_ff ?_ | refine gd_tf ?_ | refine gd_ft ?_ | refine gd_u ?_ | refine pk_t ?_ | refine pk_f ?_ | refine iff_t ?_ | refine iff_f ?_ | refine not_t ?_ | refine not_f ?_ | refine beq_s ?_ | refine bne_s ?_ | refine ncP_p ?_ | refine nc_p ?_ | refine fld_at ?_ | refine xt_02 ?_ | refine xt_12 ?_ | refine xt_03 ?_ | refine xt_13 ?_ | refine xt_23 ?_ | refine eq_t (by omega) ?_ | refine eq_f (by omega) ?_ | refine ne_t (by omega) ?_ | refine ne_f (by omega) ?_ | refine lt_t (by omega) ?_ | refine lt_f (by omega) ?_ | refine gt_t (by omega) ?_ | refine gt_f (by omega) ?_ | refine ge_t (by omega) ?_ | refine ge_f (by omega) ?_ | refine le_t (by omega) ?_ | refine le_f (by omega) ?_)
    refine harg c1 ?_ _ h2.drop
    unfold warpMay
    rw [if_pos (by omega), List.getElem?_eq_none (by omega)]
    rfl
  refine gd_ff (ge_f (by omega) (pk_f ?_))
  obtain ⟨n, rfl⟩ : ∃ n : Nat, f = n := ⟨f.toNat, by omega⟩
  obtain ⟨fd, hfd⟩ := get_of_lt (l := x.Feds) (j := n) (by omega)
  have hfdm := List.mem_of_getElem? hfd
  have hwf' : x.w.Feds[n]? = some fd.f := by simp only [WdX.w]; rw [List.getElem?_map, hfd]; rfl
  have hmay : warpMay x.w n = if fd.Kind = 1 then some fd.f else none := by
    unfold warpMay
    rw [if_pos (by omega), Int.toNat_natCast, hwf']
    rfl
  refine gd_ff (fld_at (gd_ff (ld1_at h2 0 rfl (v := x.fv) rfl (gd_ff (gd_ff ?_)))))
  refine ixS_rd h2 (i + 1) hi2 (fun g hg => (hr g hg).feds) (fun _ => rfl) hfd fun p hp => ?_
  refine gd_ff (fld_of hp fun p1 hp1 => gd_ff (ld1_of h2 (i + 1) hi2 hp1 (v := .int .i64 fd.Kind) rfl ?_))
  refine gd_ff (ne_c (fun d3 => pk_f (iff_t (harg c1 (by rw [hmay, if_neg d3]) _ h2.drop))) (fun d3 => pk_f (iff_f ?_)))
  rw [if_pos d3] at hmay
  refine dr_s h2 fun w4 h4 => ?_
  refine ldN_at h4 0 (vs := x.cs) rfl (by rfl) rfl ?_
  refine fld_at (ld1_at h4 0 rfl (v := x.fv) rfl ?_)
  refine ixS_rd h4 (i + 1) hi2 (fun g hg => (hr g hg).feds) (fun _ => rfl) hfd fun p2 hp2 => ?_
  refine fld_of hp2 fun p3 hp3 => ld1_of h4 (i + 1) hi2 hp3 (v := .int .i64 fd.Start) rfl ?_
  refine fld_at (ld1_at h4 0 rfl (v := x.fv) rfl ?_)
  refine ixS_rd h4 (i + 1) hi2 (fun g hg => (hr g hg).feds) (fun _ => rfl) hfd fun p4 hp4 => ?_
  refine fld_of hp4 fun p5 hp5 => ld1_of h4 (i + 1) hi2 hp5 (v := fd.iv) rfl ?_
  refine lnS_rd h4 (i + 1) hi2 (fun g hg => ((hr g hg).fed fd hfdm).init) ?_
  have hn := hwd.n
  have fin : ∀ (X : WdX) (q p g mb : Nat) w', X.w = x.w → Sat e w' (WdOwn X :: IsQ q [] :: IsPast p 0 [] :: IsGate g 0 [] :: isMap kI kI mb [] :: blk b 27 x.cs :: L) →
      bld (zeroD prog 101) #[(0, 3), (3, 1), (4, 1), (5, 1), (6, 1), (7, 1), (8, 1), (9, 1), (10, 1)] [(0, .agg X.cs.toArray), (1, .int .i64 n), (2, .int .i64 fd.Start), (3, .int .i64 (fd.Init.length : Int)), (4, .pointer (some ⟨q, 0, none⟩)), (5, .pointer (some ⟨p, 0, none⟩)), (6, .pointer (some ⟨g, 0, none⟩)), (7, .map (some mb))] w' fun t57 w =>
        al (Value.cells t57) 101 w fun t58 w => fld 1 (.pointer (some ⟨b, 0, none⟩)) w fun t59 w => ld1 t59 w fun t60 w => lnS t60 w fun t61 w => lp [(Value.int IntKind.i64 0)] w (b1 fun t62 w g1 => bi .lss .i64 t62 t61 w fun t63 w => iff' t63
        (J0 (fun w => bi .add .i64 t62 (Value.int IntKind.i64 1) w fun t75 w => g1 [t75] w) fun k2 => ixS 7 t60 t62 w fun t65 w => ldN 7 t65 w fun t66 w => al (zeroD prog 66) 66 w fun t10 w => stN 7 t10 t66 w fun _ w => fld 0 t10 w fun t67 w => ld1 t67 w fun t68 w => bi .eql .i64 t68 (Value.int IntKind.i64 0) w fun t69 w => iff' t69
          (ncP t58 <| fld 9 t58 w fun t72 w => ld1 t72 w fun t73 w => upM prog 99 t73 t62 (Value.int IntKind.i64 0) w fun _ w => k2 w) (k2 w))
        (K (Value.tuple #[t58, (Value.int IntKind.i64 0)]) w)) := by
    intro X q p g mb w' hX h'
    refine bld_s (wcs X n fd.Start fd.Init.length q p g mb (.slice none 0 0)) (by kernel_rfl) ?_
    refine al_s (cs := wcs X n fd.Start fd.Init.length q p g mb (.slice none 0 0)) h' rfl fun r w6 h6 => ?_
    refine fld_at (ld1_at h6 6 rfl (v := x.fv) rfl ?_)
    have hi6 : (blk r 101 (wcs X n fd.Start fd.Init.length q p g mb (.slice none 0 0)) :: WdOwn X :: IsQ q [] :: IsPast p 0 [] :: IsGate g 0 [] :: isMap kI kI mb [] :: blk b 27 x.cs :: L)[i + 7]? = some S := by simpa using hi
    refine lnS_rd h6 (i + 7) hi6 (fun g hg => (hr g hg).feds) ?_
    have hxl : x.Feds.length ≤ 8 := by have := hn.2; omega
    refine lpi1 (fun mm t62 w => ∃ (j : Nat) (m : List (Int × Int)), j ≤ x.Feds.length ∧ t62 = .int .i64 j ∧ mm = x.Feds.length - j ∧ ClkM (clkUp ((x.Feds.take j).map FedX.f)) m ∧ m.length ≤ j ∧ Sat e w (isMap kI kI mb m :: BW r X n fd.Start fd.Init.length q p g mb (.slice none 0 0) :: WdOwn X :: IsQ q [] :: IsPast p 0 [] :: IsGate g 0 [] :: blk b 27 x.cs :: L)) x.Feds.length
      ⟨0, [], Nat.zero_le _, rfl, rfl, clkUp_nil, Nat.le_refl _, h6.selR [_, _, _, _, _, _, _] [_, _, _, _, _, _, _] [5, 0, 1, 2, 3, 4, 6] (by decide) rfl⟩ ?_
    rintro mm _ w7 g1 ⟨j, m, hj, rfl, rfl, hm, hml, h7⟩ hg1
    have hi7 : (isMap kI kI mb m :: BW r X n fd.Start fd.Init.length q p g mb (.slice none 0 0) :: WdOwn X :: IsQ q [] :: IsPast p 0 [] :: IsGate g 0 [] :: blk b 27 x.cs :: L)[i + 7]? = some S := by simpa using hi
    refine lt_c (fun c => iff_t ?_) (fun c => iff_f ?_)
    · obtain ⟨fj, hfj⟩ := get_of_lt (l := x.Feds) (j := j) (by omega)
      have hfjm := List.mem_of_getElem? hfj
      have htl : ((x.Feds.take j).map FedX.f).length = j := by rw [List.length_map, List.length_take]; omega
      have htk : (x.Feds.take (j + 1)).map FedX.f = (x.Feds.take j).map FedX.f ++ [fj.f] := by rw [take_snoc hfj, List.map_append]; rfl
      refine J0.cut (fun w => ∃ m', ClkM (clkUp ((x.Feds.take (j + 1)).map FedX.f)) m' ∧ m'.length ≤ j + 1 ∧ Sat e w (isMap kI kI mb m' :: BW r X n fd.Start fd.Init.length q p g mb (.slice none 0 0) :: WdOwn X :: IsQ q [] :: IsPast p 0 [] :: IsGate g 0 [] :: blk b 27 x.cs :: L)) (fun k2 hk2 => ?_) ?_
      · refine ixS_rd h7 (i + 7) hi7 (fun g hg => (hr g hg).feds) (fun _ => rfl) hfj fun a ha => ldN_of h7 (i + 7) hi7 ha rfl ?_
        rw [zero_66]
        refine al_s (cs := [.int .i64 0, .int .i64 0, .int .i64 0, .slice none 0 0, .slice none 0 0, .slice none 0 0, .slice none 0 0]) h7 rfl fun t10 w8 h8 => ?_
        refine stN_at h8 0 rfl (vs := fj.cs) rfl rfl (by simp) (fed_cells i hi hS fun g hg => (hr g hg).fed fj hfjm) (cs' := fj.cs) (by rfl) fun w9 h9 => ?_
        refine fld_at (ld1_at h9 0 rfl (v := .int .i64 fj.Kind) rfl ?_)
        refine eq_c (fun c2 => iff_t ?_) (fun c2 => iff_f ?_)
        · refine ncP_p (fld_at (ld1_at h9 2 rfl (v := .map (some mb)) rfl ?_))
          refine upM_s keyT_99 mapT_99 hm.u (h9.pick 1 rfl) (j : Int) 0 (vf := kI) rfl fun w10 h10 => ?_
          refine hk2 _ ⟨upA m (j : Int) 0, ?_, Nat.le_trans upA_few (by omega), h10.selR [_, _, _, _, _, _, _, _] [_, _, _, _, _, _, _] [0, 2, 3, 4, 5, 6, 7] (by decide) rfl⟩
          rw [htk]
          have := clkUp_yes (g := fj.f) hm c2 (by omega)
          rwa [htl] at this
        · refine hk2 _ ⟨m, ?_, by omega, h9.drop⟩
          rw [htk]
          exact clkUp_no hm c2
      · rintro w8 ⟨m', hm', hml', h8⟩
        refine inc_s (by omega) ?_
        exact hg1 _ _ _ (by omega) ⟨j + 1, m', by omega, rfl, rfl, hm', hml', h8⟩
    · have ej : j = x.Feds.length := by omega
      rw [ej, List.take_length] at hm
      have hms : ClkM (nodeWI x.w).clk m := hm
      have h8 := h7.own_nil 45 7 Done.cs
      refine hok c1 n fd.f rfl hwf' hmay r _ (warp_mk (N := nodeWI x.w) (X := X) (q := q) (p := p) (g := g) (b := mb) (m := m) (lv := .slice none 0 0) ⟨hX, shortW hX hs, WOk.init hwd hwf' d3, hms⟩ ?_)
      exact h8.selR [_, _, _, _, _, _, _, _] [_, _, _, _, _, _, _] [2, 4, 5, 6, 3, 1, 0] (by decide) rfl
  have o4 : ∀ {l' : List HP} {w'} {A : Prop} (j jb : Nat), Sat e w' l' → l'[j]? = some S → l'[jb]? = some (blk b 27 x.cs) → A →
      ((ld1 (.pointer (some p5)) w' (fun v' w'' => v' = fd.iv ∧ w'' = w')) ∧ ((ld1 (.pointer (some ⟨b, 0 + 1, none⟩)) w' (fun v' w'' => v' = x.fv ∧ w'' = w')) ∧ ((ld1 (.pointer (some p3)) w' (fun v' w'' => v' = .int .i64 fd.Start ∧ w'' = w')) ∧ ((ld1 (.pointer (some ⟨b, 0 + 1, none⟩)) w' (fun v' w'' => v' = x.fv ∧ w'' = w')) ∧ A)))) := fun j jb h' hj hb hA =>
    ⟨ld1_of h' j hj hp5 (v := fd.iv) rfl ⟨rfl, rfl⟩, ld1_at h' jb hb (v := x.fv) rfl ⟨rfl, rfl⟩, ld1_of h' j hj hp3 (v := .int .i64 fd.Start) rfl ⟨rfl, rfl⟩, ld1_at h' jb hb (v := x.fv) rfl ⟨rfl, rfl⟩, hA⟩
  have oN : ∀ {l' : List HP} {w'} (jb : Nat), Sat e w' l' → l'[jb]? = some (blk b 27 x.cs) → ldN 3 (.pointer (some ⟨b, 0, none⟩)) w' (fun v' w'' => v' = .agg x.cs.toArray ∧ w'' = w') := fun jb h' hb => ldN_at h' jb hb (vs := x.cs) rfl (by rfl) ⟨rfl, rfl⟩
  refine ⟨?_, ?_⟩
  · refine warp_copied_s (x := x) (i + 1) hi2 h4 hr hs fun X w5 hX h5 => o4 (i + 2) 1 h5 (by simpa using hi) rfl ⟨?_, ?_⟩
    · refine q_New_s h5 fun q w6 h6 => o4 (i + 3) 2 h6 (by simpa using hi) rfl ⟨?_, ?_⟩
      · refine past_New_s h6 fun p w7 h7 => o4 (i + 4) 3 h7 (by simpa using hi) rfl ⟨?_, ?_⟩
        · refine gate_New_s h7 fun g w8 h8 => o4 (i + 5) 4 h8 (by simpa using hi) rfl ?_
          refine mkMap_s kI kI h8 fun mb w9 h9 => o4 (i + 6) 5 h9 (by simpa using hi) rfl ⟨oN 5 h9 rfl, ?_⟩
          exact fin X q p g mb _ hX (h9.selR [_, _, _, _, _, _] [_, _, _, _, _, _] [4, 3, 2, 1, 0, 5] (by decide) rfl)
        · refine mkMap_s kI kI h7 fun mb w8 h8 => o4 (i + 5) 4 h8 (by simpa using hi) rfl ⟨oN 4 h8 rfl, ?_⟩
          refine gate_New_s h8 fun g w9 h9 => o4 (i + 6) 5 h9 (by simpa using hi) rfl ?_
          exact fin X q p g mb _ hX (h9.selR [_, _, _, _, _, _] [_, _, _, _, _, _] [4, 3, 2, 0, 1, 5] (by decide) rfl)
      · refine mkMap_s kI kI h6 fun mb w7 h7 => o4 (i + 4) 3 h7 (by simpa using hi) rfl ⟨oN 3 h7 rfl, ?_⟩
        refine past_New_s h7 fun p w8 h8 => o4 (i + 5) 4 h8 (by simpa using hi) rfl ?_
        refine gate_New_s h8 fun g w9 h9 => o4 (i + 6) 5 h9 (by simpa using hi) rfl ?_
        exact fin X q p g mb _ hX (h9.selR [_, _, _, _, _, _] [_, _, _, _, _, _] [4, 3, 1, 0, 2, 5] (by decide) rfl)
    · refine mkMap_s kI kI h5 fun mb w6 h6 => o4 (i + 3) 2 h6 (by simpa using hi) rfl ⟨oN 2 h6 rfl, ?_⟩
      refine q_New_s h6 fun q w7 h7 => o4 (i + 4) 3 h7 (by simpa using hi) rfl ?_
      refine past_New_s h7 fun p w8 h8 => o4 (i + 5) 4 h8 (by simpa using hi) rfl ?_
      refine gate_New_s h8 fun g w9 h9 => o4 (i + 6) 5 h9 (by simpa using hi) rfl ?_
      exact fin X q p g mb _ hX (h9.selR [_, _, _, _, _, _] [_, _, _, _, _, _] [4, 2, 1, 0, 3, 5] (by decide) rfl)
  · refine mkMap_s kI kI h4 fun mb w5 h5 => o4 (i + 2) 1 h5 (by simpa using hi) rfl ⟨oN 1 h5 rfl, ?_⟩
    refine warp_copied_s (x := x) (i + 2) (by simpa using hi) h5 hr hs fun X w6 hX h6 => o4 (i + 3) 2 h6 (by simpa using hi) rfl ?_
    refine q_New_s h6 fun q w7 h7 => o4 (i + 4) 3 h7 (by simpa using hi) rfl ?_
    refine past_New_s h7 fun p w8 h8 => o4 (i + 5) 4 h8 (by simpa using hi) rfl ?_
    refine gate_New_s h8 fun g w9 h9 => o4 (i + 6) 5 h9 (by simpa using hi) rfl ?_
    exact fin X q p g mb _ hX (h9.selR [_, _, _, _, _, _] [_, _, _, _, _, _] [3, 2, 1, 0, 4, 5] (by decide) rfl)
end Go.Proofs.YtbopajpmadlmhaaGreat
end
section
namespace Go.Proofs.YtbopajpmadlmhaaGreat
open Go Go.E
set_option maxRecDepth 100000
variable {e w : World} {L Q : List HP} {K : KV} {S S2 : HP}

def bR0 : Rule := ⟨0, 0, 1, [⟨1, 2, 1⟩]⟩
def bR1 : Rule := ⟨1, 0, 0, [⟨1, 3, 5⟩, ⟨1, 4, 7⟩]⟩
def bF0 : Fed := ⟨1, 2, 0, [bR0, bR1], [1], [0], []⟩
def bF1 : Fed := ⟨1, 1, 0, [], [0], [1], []⟩
def bF2 : Fed := ⟨0, 1, 0, [], [0], [1], []⟩
def boldW : Wd := ⟨[-1, -1], [bF0, bF1, bF2], 200⟩
theorem okRules_b : okRules [bR0, bR1] := ⟨by simp, fun r hr => by
  simp only [List.mem_cons, List.not_mem_nil, or_false] at hr
  rcases hr with rfl | rfl
  · refine ⟨by decide, by decide, by decide, by decide, by decide, by decide, by decide, fun o ho => ?_⟩
    have : o = ⟨1, 2, 1⟩ := List.mem_singleton.1 ho
    rw [this]
    exact ⟨by decide, by decide, by decide, by decide, by decide, by decide⟩
  · refine ⟨by decide, by decide, by decide, by decide, by decide, by decide, by decide, fun o ho => ?_⟩
    have : o = ⟨1, 3, 5⟩ ∨ o = ⟨1, 4, 7⟩ := by simpa [bR1] using ho
    rcases this with rfl | rfl <;> exact ⟨by decide, by decide, by decide, by decide, by decide, by decide⟩, by decide⟩
theorem okRules_00 : okRules [] := ⟨by simp, by simp, by simp⟩
theorem boldW_ok : (checkW boldW).2 = 0 := by
  have ht : treeE [-1, -1] = 0 := by
    unfold treeE
    refine if_pos ⟨by simp, by simp, fun i p hp => ?_⟩
    match i with
    | 0 => simp at hp; omega
    | 1 => simp at hp; omega
    | i + 2 => simp at hp
  have h1 : fedE bF0 2 = 0 := by
    rw [fedE_chain]
    simp [bF0, okRules_b, rising, okInit]
    simp [rulesE, sendsE, bR0, bR1]
  have h2 : fedE bF1 2 = 0 := by
    rw [fedE_chain]
    simp [bF1, okRules_00, rising, rulesE, okInit]
  have h3 : fedE bF2 2 = 0 := by
    rw [fedE_chain]
    simp [bF2, okRules_00, rising, rulesE, okInit]
  unfold checkW boldW
  rw [if_neg (by rw [ht]; decide), if_neg (by simp)]
  show (fedsE 2 0 _).2 = _
  rw [fedsE_cons, if_neg (by rw [h1]; decide), fedsE_cons, if_neg (by rw [h2]; decide), fedsE_cons, if_neg (by rw [h3]; decide)]
  rfl
theorem bw_s (hS : Sat e w Q) (hk : ∀ (x : WdX) (S : HP) w', x.w = boldW → x.wf → x.short → (∀ g, S g → RdWd x g) → Sat e w' (S :: Q) → K (.agg x.cs.toArray) w') : Cl prog 11 #[] w K := by
  refine pacelinelaw15_bold_calls ?_
  unfold pacelinelaw15_bold
  rw [zero_27]
  refine al_s (cs := [.slice none 0 0, .slice none 0 0, .int .i64 0]) hS rfl fun t0 w1 h1 => ?_
  refine bld_s (⟨1, 2, 1⟩ : Out).cs (by kernel_rfl) ?_
  refine bsl_s (⟨1, 2, 1⟩ : Out).cs h1 (by kernel_rfl) fun b3 w2 h2 => ?_
  obtain ⟨r0, hr0⟩ : ∃ r0 : RuleX, r0 = ⟨0, 0, 1, .slice (some ⟨b3, 0, none⟩) 1 1, [⟨1, 2, 1⟩]⟩ := ⟨_, rfl⟩
  refine bld_s [.int .i64 0, .int .i64 0, .int .i64 1, .slice (some ⟨b3, 0, none⟩) 1 1] (by kernel_rfl) ?_
  refine bld_s (⟨1, 3, 5⟩ : Out).cs (by kernel_rfl) (bld_s (⟨1, 4, 7⟩ : Out).cs (by kernel_rfl) ?_)
  refine bsl_s (ints [1, 3, 5, 1, 4, 7]) h2 (by kernel_rfl) fun b7 w3 h3 => ?_
  obtain ⟨r1, hr1⟩ : ∃ r1 : RuleX, r1 = ⟨1, 0, 0, .slice (some ⟨b7, 0, none⟩) 2 2, [⟨1, 3, 5⟩, ⟨1, 4, 7⟩]⟩ := ⟨_, rfl⟩
  refine bld_s [.int .i64 1, .int .i64 0, .int .i64 0, .slice (some ⟨b7, 0, none⟩) 2 2] (by kernel_rfl) ?_
  have hrc : [r0, r1].flatMap RuleX.cs = [.int .i64 0, .int .i64 0, .int .i64 1, .slice (some ⟨b3, 0, none⟩) 1 1, .int .i64 1, .int .i64 0, .int .i64 0, .slice (some ⟨b7, 0, none⟩) 2 2] := by rw [hr0, hr1]; rfl
  refine bsl_s [.int .i64 0, .int .i64 0, .int .i64 1, .slice (some ⟨b3, 0, none⟩) 1 1, .int .i64 1, .int .i64 0, .int .i64 0, .slice (some ⟨b7, 0, none⟩) 2 2] h3 (by kernel_rfl) fun b9 w4 h4 => ?_
  rw [← hrc] at h4
  refine bsl_s (ints [-1, -1]) h4 (by kernel_rfl) fun b10 w5 h5 => ?_
  refine bsl_s (ints [1]) h5 (by kernel_rfl) fun b12 w6 h6 => ?_
  refine bsl_s (ints [0]) h6 (by kernel_rfl) fun b13 w7 h7 => ?_
  obtain ⟨f0, hf0⟩ : ∃ f0 : FedX, f0 = ⟨1, 2, 0, .slice (some ⟨b9, 0, none⟩) 2 2, [r0, r1], .slice (some ⟨b12, 0, none⟩) 1 1, [1], .slice (some ⟨b13, 0, none⟩) 1 1, [0], .slice none 0 0, []⟩ := ⟨_, rfl⟩
  refine bld_s [.int .i64 1, .int .i64 2, .int .i64 0, .slice (some ⟨b9, 0, none⟩) 2 2, .slice (some ⟨b12, 0, none⟩) 1 1, .slice (some ⟨b13, 0, none⟩) 1 1, .slice none 0 0] (by kernel_rfl) ?_
  refine bsl_s (ints [0]) h7 (by kernel_rfl) fun b15 w8 h8 => ?_
  refine bsl_s (ints [1]) h8 (by kernel_rfl) fun b16 w9 h9 => ?_
  obtain ⟨f1, hf1⟩ : ∃ f1 : FedX, f1 = ⟨1, 1, 0, .slice none 0 0, [], .slice (some ⟨b15, 0, none⟩) 1 1, [0], .slice (some ⟨b16, 0, none⟩) 1 1, [1], .slice none 0 0, []⟩ := ⟨_, rfl⟩
  refine bld_s [.int .i64 1, .int .i64 1, .int .i64 0, .slice none 0 0, .slice (some ⟨b15, 0, none⟩) 1 1, .slice (some ⟨b16, 0, none⟩) 1 1, .slice none 0 0] (by kernel_rfl) ?_
  refine bsl_s (ints [0]) h9 (by kernel_rfl) fun b18 w10 h10 => ?_
  refine bsl_s (ints [1]) h10 (by kernel_rfl) fun b19 w11 h11 => ?_
  obtain ⟨f2, hf2⟩ : ∃ f2 : FedX, f2 = ⟨0, 1, 0, .slice none 0 0, [], .slice (some ⟨b18, 0, none⟩) 1 1, [0], .slice (some ⟨b19, 0, none⟩) 1 1, [1], .slice none 0 0, []⟩ := ⟨_, rfl⟩
  refine bld_s [.int .i64 0, .int .i64 1, .int .i64 0, .slice none 0 0, .slice (some ⟨b18, 0, none⟩) 1 1, .slice (some ⟨b19, 0, none⟩) 1 1, .slice none 0 0] (by kernel_rfl) ?_
  obtain ⟨fc, hfc⟩ : ∃ fc : List Value, fc = [.int .i64 1, .int .i64 2, .int .i64 0, .slice (some ⟨b9, 0, none⟩) 2 2, .slice (some ⟨b12, 0, none⟩) 1 1, .slice (some ⟨b13, 0, none⟩) 1 1, .slice none 0 0, .int .i64 1, .int .i64 1, .int .i64 0, .slice none 0 0, .slice (some ⟨b15, 0, none⟩) 1 1, .slice (some ⟨b16, 0, none⟩) 1 1, .slice none 0 0,
    .int .i64 0, .int .i64 1, .int .i64 0, .slice none 0 0, .slice (some ⟨b18, 0, none⟩) 1 1, .slice (some ⟨b19, 0, none⟩) 1 1, .slice none 0 0] := ⟨_, rfl⟩
  have hcs : [f0, f1, f2].flatMap FedX.cs = fc := by rw [hf0, hf1, hf2, hfc]; rfl
  refine bsl_s fc h11 (by rw [hfc]; kernel_rfl) fun b21 w12 h12 => ?_
  rw [← hcs] at h12
  obtain ⟨x, hx⟩ : ∃ x : WdX, x = ⟨.slice (some ⟨b10, 0, none⟩) 2 2, [-1, -1], .slice (some ⟨b21, 0, none⟩) 3 3, [f0, f1, f2], 200⟩ := ⟨_, rfl⟩
  refine bld_s [.slice (some ⟨b10, 0, none⟩) 2 2, .slice (some ⟨b21, 0, none⟩) 3 3, .int .i64 200] (by kernel_rfl) ?_
  have hxc : [.slice (some ⟨b10, 0, none⟩) 2 2, .slice (some ⟨b21, 0, none⟩) 3 3, .int .i64 200] = x.cs := by rw [hx]; rfl
  refine stN_at h12 11 rfl (vs := [.slice (some ⟨b10, 0, none⟩) 2 2, .slice (some ⟨b21, 0, none⟩) 3 3, .int .i64 200]) rfl rfl (by simp) (by simp [flat]) (cs' := [.slice (some ⟨b10, 0, none⟩) 2 2, .slice (some ⟨b21, 0, none⟩) 3 3, .int .i64 200]) (by rfl) fun w13 h13 => ?_
  refine ldN_at h13 11 (vs := [.slice (some ⟨b10, 0, none⟩) 2 2, .slice (some ⟨b21, 0, none⟩) 3 3, .int .i64 200]) rfl (by rfl) rfl ?_
  rw [hxc]
  have h14 : Sat e w13 (sepL [blk b21 66 ([f0, f1, f2].flatMap FedX.cs), blk b19 3 (ints [1]), blk b18 3 (ints [0]), blk b16 3 (ints [1]), blk b15 3 (ints [0]), blk b13 3 (ints [0]), blk b12 3 (ints [1]), blk b10 3 (ints [-1, -1]), blk b9 89 ([r0, r1].flatMap RuleX.cs), blk b7 87 (ints [1, 3, 5, 1, 4, 7]), blk b3 87 (⟨1, 2, 1⟩ : Out).cs] :: Q) :=
    Sat.join (l' := [_, _, _, _, _, _, _, _, _, _, _]) (h13.selR [_, _, _, _, _, _, _, _, _, _, _, _] [_, _, _, _, _, _, _, _, _, _, _] [0, 1, 2, 3, 4, 5, 6, 7, 8, 9, 10] (by decide) rfl)
  refine hk x _ _ ?_ ?_ ?_ ?_ h14
  · rw [hx, hf0, hf1, hf2, hr0, hr1]; rfl
  · rw [hx, hf0, hf1, hf2, hr0, hr1]
    have h0 : ∀ n ∈ [(0 : Int)], i64 n := fun n hn => by rw [List.mem_singleton.1 hn]; rfl
    have h1 : ∀ n ∈ [(1 : Int)], i64 n := fun n hn => by rw [List.mem_singleton.1 hn]; rfl
    refine ⟨fun n hn => by simp only [List.mem_cons, List.not_mem_nil, or_false, or_self] at hn; subst hn; rfl, fun f hf => ?_, rfl⟩
    simp only [List.mem_cons, List.not_mem_nil, or_false] at hf
    rcases hf with rfl | rfl | rfl
    · refine ⟨rfl, rfl, rfl, fun r hr => ?_, h1, h0, by simp⟩
      simp only [List.mem_cons, List.not_mem_nil, or_false] at hr
      rcases hr with rfl | rfl
      · refine ⟨rfl, rfl, rfl, fun o ho => ?_⟩
        have : o = ⟨1, 2, 1⟩ := List.mem_singleton.1 ho
        rw [this]
        exact ⟨rfl, rfl, rfl⟩
      · refine ⟨rfl, rfl, rfl, fun o ho => ?_⟩
        have : o = ⟨1, 3, 5⟩ ∨ o = ⟨1, 4, 7⟩ := by simpa using ho
        rcases this with rfl | rfl <;> exact ⟨rfl, rfl, rfl⟩
    · exact ⟨rfl, rfl, rfl, by simp, h0, h1, by simp⟩
    · exact ⟨rfl, rfl, rfl, by simp, h0, h1, by simp⟩
  · rw [hx, hf0, hf1, hf2, hr0, hr1]
    refine ⟨by simp, by simp, fun f hf => ?_⟩
    simp only [List.mem_cons, List.not_mem_nil, or_false] at hf
    rcases hf with rfl | rfl | rfl
    · refine ⟨by simp, by simp, by simp, by simp, fun r hr => ?_⟩
      simp only [List.mem_cons, List.not_mem_nil, or_false] at hr
      rcases hr with rfl | rfl
      · show [(⟨1, 2, 1⟩ : Out)].length ≤ _
        simp
      · show [(⟨1, 3, 5⟩ : Out), ⟨1, 4, 7⟩].length ≤ _
        simp
    · exact ⟨by simp, by simp, by simp, by simp, by simp⟩
    · exact ⟨by simp, by simp, by simp, by simp, by simp⟩
  · intro g hg
    obtain ⟨g0, k0, s0⟩ := sepL_get (i := 0) hg rfl
    obtain ⟨g1, k1, s1⟩ := sepL_get (i := 1) hg rfl
    obtain ⟨g2, k2, s2⟩ := sepL_get (i := 2) hg rfl
    obtain ⟨g3, k3, s3⟩ := sepL_get (i := 3) hg rfl
    obtain ⟨g4, k4, s4⟩ := sepL_get (i := 4) hg rfl
    obtain ⟨g5, k5, s5⟩ := sepL_get (i := 5) hg rfl
    obtain ⟨g6, k6, s6⟩ := sepL_get (i := 6) hg rfl
    obtain ⟨g7, k7, s7⟩ := sepL_get (i := 7) hg rfl
    obtain ⟨g8, k8, s8⟩ := sepL_get (i := 8) hg rfl
    obtain ⟨g9, k9, s9⟩ := sepL_get (i := 9) hg rfl
    obtain ⟨g10, k10, s10⟩ := sepL_get (i := 10) hg rfl
    have nilR : ∀ {α : Type} (size : Nat) (f : α → List Value), rdS size f (.slice none 0 0) [] g := fun _ _ => ⟨none, 0, rfl, Nat.le_refl _, fun h => absurd h (by simp)⟩
    subst hx
    refine ⟨rdS_up s7 (blk_rdn (f := intsK .i64) [-1, -1] rfl (Nat.le_refl _) g7 k7), rdS_up s0 (blk_rdn (f := FedX.cs) [f0, f1, f2] rfl (Nat.le_refl _) g0 k0), fun f hf => ?_⟩
    simp only [List.mem_cons, List.not_mem_nil, or_false] at hf
    rcases hf with rfl | rfl | rfl
    · subst hf0
      refine ⟨⟨rdS_up s8 (blk_rdn (f := RuleX.cs) [r0, r1] rfl (Nat.le_refl _) g8 k8), fun r hr => ?_⟩, rdS_up s6 (blk_rdn (f := intsK .i64) [1] rfl (Nat.le_refl _) g6 k6), rdS_up s5 (blk_rdn (f := intsK .i64) [0] rfl (Nat.le_refl _) g5 k5), nilR _ _⟩
      simp only [List.mem_cons, List.not_mem_nil, or_false] at hr
      rcases hr with rfl | rfl
      · subst hr0
        exact rdS_up s10 (blk_rdn (f := Out.cs) [⟨1, 2, 1⟩] rfl (Nat.le_refl _) g10 k10)
      · subst hr1
        exact rdS_up s9 (blk_rdn (f := Out.cs) [⟨1, 3, 5⟩, ⟨1, 4, 7⟩] rfl (Nat.le_refl _) g9 k9)
    · subst hf1
      exact ⟨⟨nilR _ _, by simp⟩, rdS_up s4 (blk_rdn (f := intsK .i64) [0] rfl (Nat.le_refl _) g4 k4), rdS_up s3 (blk_rdn (f := intsK .i64) [1] rfl (Nat.le_refl _) g3 k3), nilR _ _⟩
    · subst hf2
      exact ⟨⟨nilR _ _, by simp⟩, rdS_up s2 (blk_rdn (f := intsK .i64) [0] rfl (Nat.le_refl _) g2 k2), rdS_up s1 (blk_rdn (f := intsK .i64) [1] rfl (Nat.le_refl _) g1 k1), nilR _ _⟩
abbrev IsB (r : Nat) (N : WN) (k : Nat) : HP := IsWarp r boldW 0 bF0 N k
def B0 : WN := ⟨[], [], [], 0, [-1, -1, 0]⟩
theorem newB_s {x : WdX} {S : HP} (hx : x.w = boldW) (hwf : x.wf) (hs : x.short) (hr : ∀ g, S g → RdWd x g) (hS : Sat e w (S :: Q)) (hk : ∀ r w', Sat e w' (IsB r B0 0 :: S :: Q) → K (.tuple #[.pointer (some ⟨r, 0, none⟩), .int .i64 0]) w') : Cl prog 12 #[.agg x.cs.toArray, .int .i64 0] w K := by
  refine warp_New_s (x := x) 0 rfl hS hr hwf hs (fun hbad => absurd (by rw [hx]; exact boldW_ok) hbad) (fun _ hno => ?_) (fun _ n fd hn hfd _ r w3 h3 => ?_)
  · rw [hx] at hno
    have h3 : warpMay boldW 0 = some bF0 := rfl
    rw [h3] at hno
    cases hno
  · have hn0 : n = 0 := by omega
    subst hn0
    rw [hx] at hfd h3
    have hfd' : fd = bF0 := (Option.some.inj hfd).symm
    subst hfd'
    exact hk r _ h3
theorem startB_s (hS : Sat e w Q) (hk : ∀ r w', Sat e w' (IsB r B0 0 :: Q) → K (.tuple #[.pointer (some ⟨r, 0, none⟩), .int .i64 0]) w') : Cl prog 11 #[] w fun t w => Cl prog 12 #[t, .int .i64 0] w K :=
  bw_s hS fun _ _ _ hx hwf hs hr h2 => newB_s hx hwf hs hr h2 fun r w3 h3 => hk r w3 (h3.swap.drop)
def itM (t j s b : Int) : NItem := ⟨0, ⟨⟨t, j, s⟩, 0, 0, b⟩, 0⟩
abbrev hearB (N : WN) (j : Int) (i : NItem) : HR := hearW boldW 0 bF0 N j i
theorem shown15_s (hS : Sat e w Q) (hk : ∀ w', Sat e w' Q → K (.bool true) w') : Cl prog 10 #[] w K := by
  refine pacelinelaw15_shown_calls ?_
  unfold pacelinelaw15_shown
  refine startB_s hS fun r w1 h1 => ?_
  refine xt_02 (xt_12 (ne_f rfl (gd_ff (gd_ff (bnp_s _ (pk_f (iff_f ?_)))))))
  refine bld_s (ints [9, 1, 0]) (by kernel_rfl) (bld_s (ints [9, 1, 0, 0, 0, 0]) (by kernel_rfl) (bld_s (itM 9 1 0 0).cs (by kernel_rfl) ?_))
  refine warp_Hear_s (i := itM 9 1 0 0) (by show In64 9; unfold In64; omega) h1 fun v2 w2 h2 => ?_
  obtain ⟨N1, hN1⟩ : ∃ N1, N1 = (hearB B0 1 (itM 9 1 0 0)).N := ⟨_, rfl⟩
  rw [← hN1] at h2
  have e1 : stepWE boldW 0 bF0 N1 = 0 := by rw [hN1]; kernel_rfl
  refine warp_Step_s (by omega) h2.drop (fun h => absurd e1 h) fun _ v3 w3 h3 => ?_
  obtain ⟨m0, hm0⟩ : ∃ m0 : Msg, m0 = ⟨⟨11, 0, 0⟩, 1, 1, 1⟩ := ⟨_, rfl⟩
  have e2 : stepI boldW (stepEn boldW 0 bF0 N1) = [plainI m0] := by rw [hN1, hm0]; kernel_rfl
  rw [e2] at h3
  refine xt_03 (xt_13 (xt_23 ?_))
  rw [zero_45]
  refine al_s (cs := Done.zero.cs) h3 rfl fun t3 w4 h4 => ?_
  refine stN_at h4 0 rfl (vs := (doneE (stepEn boldW 0 bF0 N1)).cs) rfl rfl (Nat.le_of_ble_eq_true rfl) (ints_flat _) (cs' := (doneE (stepEn boldW 0 bF0 N1)).cs) (by rfl) fun w5 h5 => ?_
  replace h5 := h5.drop
  refine bld_s (ints [7, 1, 1]) (by kernel_rfl) (bld_s (ints [7, 1, 1, 0, 0, 0]) (by kernel_rfl) (bld_s (itM 7 1 1 0).cs (by kernel_rfl) ?_))
  refine warp_Hear_s (i := itM 7 1 1 0) (by show In64 7; unfold In64; omega) h5.swap fun v6 w6 h6 => ?_
  have e3 : (hearB (stepWN N1) 1 (itM 7 1 1 0)).e = 0 := by rw [hN1]; kernel_rfl
  have e4 : (hearB (stepWN N1) 1 (itM 7 1 1 0)).out = [antiI m0] := by rw [hN1, hm0]; kernel_rfl
  have e5 : (hearB (stepWN N1) 1 (itM 7 1 1 0)).N.q.length = 2 := by rw [hN1]; kernel_rfl
  rw [e3]
  rw [e4] at h6
  generalize (hearB (stepWN N1) 1 (itM 7 1 1 0)).N = N3 at h6 e5
  refine xt_02 (xt_12 (dr_s h6 fun w7 h7 => ?_))
  refine eq_t rfl (gd_tt (gd_tt (eq_t rfl (pk_t ?_))))
  refine gd_tt (gd_tt (lnS_rd h7 2 rfl (fun g hg => own_rd hg) (gd_tt (eq_t rfl (pk_t ?_)))))
  refine gd_tt (gd_tt (lnS_rd h7 0 rfl (fun g hg => own_rd hg) (gd_tt (eq_t rfl (pk_t ?_)))))
  refine gd_tt (gd_tt ?_)
  refine ixS_rd (j := 0) h7 0 rfl (fun g hg => own_rd hg) (fun _ => rfl) rfl fun p hp => ?_
  refine gd_tt (fld_of hp fun p1 hp1 => gd_tt (ld1_of h7 0 rfl hp1 (v := .int .i64 1) rfl (gd_tt (eq_t rfl (pk_t ?_)))))
  refine gd_tt (gd_tt ?_)
  refine ixS_rd (j := 0) h7 0 rfl (fun g hg => own_rd hg) (fun _ => rfl) rfl fun p2 hp2 => ?_
  refine gd_tt (fld_of hp2 fun p3 hp3 => gd_tt (ldN_sub h7 0 rfl hp3 (us := m0.cs) (by rw [hm0]; rfl) rfl ?_))
  refine gd_tt (gd_tt ?_)
  refine ixS_rd (j := 0) h7 2 rfl (fun g hg => own_rd hg) (fun _ => rfl) rfl fun p4 hp4 => ?_
  refine gd_tt (fld_of hp4 fun p5 hp5 => gd_tt (ldN_sub h7 2 rfl hp5 (us := m0.cs) (by rw [hm0]; rfl) rfl ?_))
  refine gd_tt (bO_eq (ns := m0.ns) (ms := m0.ns) eqT_37 agg_37 egt_37 (by decide) rfl ?_)
  rw [beq_self_eq_true]
  refine pk_t (gd_tt (gd_tt ?_))
  refine warp_Waiting_s (h7.pick 1 rfl) fun v8 w8 h8 => ?_
  refine gd_tt (lnS_rd h8 0 rfl (fun g hg => own_rd hg) (gd_tt (eq_t (by rw [e5]; rfl) (pk_t ?_))))
  exact hk _ (h8.selR [_, _, _, _] [] [] (by decide) rfl)
end Go.Proofs.YtbopajpmadlmhaaGreat
end
section
namespace Go.Proofs.YtbopajpmadlmhaaGreat
open Go Go.E
set_option maxRecDepth 100000
variable {e w : World} {L Q R : List HP} {K : KV} {S S2 : HP}

structure BInv (all : List Msg) (N : WN) : Prop where
  old : N.old = []
  fl : N.fl = 0
  clk : N.clk = [-1, -1, 0]
  line : N.ms ++ N.q = all
  cls : ∀ m ∈ all, m.Class = 0
theorem BInv.init : BInv [] B0 := ⟨rfl, rfl, rfl, rfl, fun m h => by cases h⟩
def heardB (N : WN) (m : Msg) : WN := ⟨N.old, lowsM m.key N.ms, insK m (highsM m.key N.ms ++ N.q), N.fl, N.clk⟩
theorem BInv.at1 {all : List Msg} {N : WN} (h : BInv all N) : N.at' 1 = -1 := by unfold WN.at'; rw [h.clk]; rfl
theorem BInv.hear {all : List Msg} {N : WN} {k : Nat} (h : BInv all N) (hW : WOk boldW 0 bF0 N k) {m : Msg} {c : Int} (hm : 0 ≤ m.key.T) (hc : m.Class = 0) (hne : ∀ y ∈ all, y.key ≠ m.key) (hl : all.length < 64) :
    hearB N 1 ⟨0, m, c⟩ = ⟨0, undoI boldW (goneE boldW 0 bF0 N m.key), heardB N m⟩ ∧ BInv (insK m all) (heardB N m) := by
  have hline := hW.line
  have hlen : N.ms.length + N.q.length = all.length := by rw [← h.line, List.length_append]
  have hh : (highsM m.key N.ms).length ≤ N.ms.length := List.length_filter_le ..
  constructor
  · unfold hearB
    rw [hear_args (by refine ⟨by omega, ?_, by omega⟩; show (1 : Int) < ((3 : Nat) : Int); omega)]
    show (if m.key.T < N.fl ∨ (0 ≤ N.at' 1 ∧ m.key.T < N.at' 1) then _ else if hasK m.key (N.ms ++ N.q) = true then _ else if 64 ≤ N.q.length + (highsM m.key N.ms).length then _ else _) = _
    have h1 := h.at1
    have h2 := h.fl
    rw [if_neg (by omega), h.line, if_neg (by rw [hasK_no.2 hne]; decide), if_neg (by omega)]
    rfl
  · refine ⟨h.old, h.fl, h.clk, ?_, fun y hy => ?_⟩
    · show lowsM m.key N.ms ++ insK m (highsM m.key N.ms ++ N.q) = _
      rw [line_ins hline, h.line]
    · rcases insK_mem.1 hy with rfl | hy
      · exact hc
      · exact h.cls y hy
theorem BInv.step {all : List Msg} {N : WN} (h : BInv all N) (he : stepWE boldW 0 bF0 N = 0) : BInv all (stepWN N) := by
  obtain ⟨⟨m, r, hq, _⟩, _, _⟩ := stepE_ok he
  rw [step_line hq]
  refine ⟨h.old, h.fl, h.clk, ?_, h.cls⟩
  rw [← h.line, hq]
  show (N.ms ++ [m]) ++ r = _
  simp
theorem endB : ∀ (l : List Msg) (s n : Int), (∀ m ∈ l, m.Class = 0) → s = 0 ∨ s = 1 → (endE bF0 (s, n) l).1 = (s + l.length) % 2
  | [], s, n, _, hs => by
    show s = (s + ((0 : Nat) : Int)) % 2
    omega
  | m :: l, s, n, hc, hs => by
    have h0 := hc m (List.mem_cons_self ..)
    rcases hs with rfl | rfl
    · have e1 : nextB bF0 (0, n) m = (1, n + 1) := by unfold nextB; rw [h0]; rfl
      show (endE bF0 (nextB bF0 (0, n) m) l).1 = _
      rw [e1, endB l 1 (n + 1) (fun m hm => hc m (List.mem_cons_of_mem _ hm)) (.inr rfl), List.length_cons]
      omega
    · have e1 : nextB bF0 (1, n) m = (0, n + 2) := by unfold nextB; rw [h0]; rfl
      show (endE bF0 (nextB bF0 (1, n) m) l).1 = _
      rw [e1, endB l 0 (n + 2) (fun m hm => hc m (List.mem_cons_of_mem _ hm)) (.inl rfl), List.length_cons]
      omega
theorem BInv.state {all : List Msg} {N : WN} (h : BInv all N) : (N.now bF0).1 = (N.ms.length : Int) % 2 := by
  unfold WN.now WN.base
  rw [h.old]
  have := endB N.ms 0 0 (fun m hm => h.cls m (by rw [← h.line]; exact List.mem_append_left _ hm)) (.inl rfl)
  rw [Int.zero_add] at this
  exact this
theorem ins_place {l : List Msg} {m : Msg} {p : Nat} (h : Place l m p) (hu : Upk l) (hne : ∀ y ∈ l, y.key ≠ m.key) : insAt l m p = insK m l :=
  up_unique (h.up hu hne) (insK_up hu hne) ((insAt_perm l m p).trans (((insK_perm m l).trans (List.perm_append_singleton m l).symm).symm))
end Go.Proofs.YtbopajpmadlmhaaGreat
end
section
namespace Go.Proofs.YtbopajpmadlmhaaGreat
open Go Go.E
set_option maxRecDepth 100000
variable {e w : World} {L Q R : List HP} {K : KV} {S S2 : HP}
variable {n f k : Nat} {fd : Fed} {N : WN} {x : WdX}

theorem bold_at {t : Int} (h : 0 ≤ t ∧ t < x.Feds.length) : ∃ (a : Nat) (fx : FedX), t = a ∧ x.Feds[a]? = some fx ∧ boldB x.w t = decide (fx.Kind = 1) := by
  obtain ⟨fx, hfx⟩ := get_of_lt (l := x.Feds) (j := t.toNat) (by omega)
  refine ⟨t.toNat, fx, by omega, hfx, ?_⟩
  unfold boldB
  rw [if_pos h.1]
  simp only [WdX.w]
  rw [List.getElem?_map, hfx]
  rfl
theorem undo13_s {st sent fl : Int} {q p g : Nat} {cv lv : Value} {ql : List Msg} {l : List En} {gl : List Kept} {key : Key} (i0 : Nat) (hi0 : Q[i0]? = some S) (hr : ∀ g, S g → RdWd x g) (hto : ∀ y ∈ l, ∀ m ∈ y.outs, 0 ≤ m.To ∧ m.To < x.Feds.length) (hgl : gl.length ≤ 1000000)
    (hu : Upk ((goneL key l).map En.m ++ ql)) (hql : ql.length ≤ 100)
    (hS : Sat e w (BR n x f st sent q p g cv lv :: IsPR q 64 ql :: IsPastR p fl l :: IsGateR g fl gl :: Q))
    (hk : ∀ v w', Sat e w' (DI v (undoI x.w (goneL key l)) :: BR n x f (undoB (st, sent) (goneL key l).reverse).1 (undoB (st, sent) (goneL key l).reverse).2 q p g cv lv :: IsPR q 64 ((goneL key l).map En.m ++ ql) :: IsPastR p fl (keepE key l) :: IsGateR g fl (gl.filter fun y => !dropP key y) :: Q) → K v w') :
    Cl prog 78 #[.pointer (some ⟨n, 0, none⟩), .agg key.cs.toArray] w K := by
  refine pacelineref15_Node_undo_calls ?_
  unfold pacelineref15_Node_undo
  have hpo : PastOk l := by
    obtain ⟨_, _, hp, _⟩ := pastR_of (hS.pick 2 rfl)
    exact hp.2
  refine al_s (cs := key.cs) hS rfl fun t3 w1 h1 => ?_
  refine bsl0 h1 NItem.cs fun t10 w2 h2 => ?_
  refine dr_s h2 fun w3 h3 => ?_
  refine ncP_p (fld_at (ld1_at h3 2 rfl (v := .pointer (some ⟨p, 0, none⟩)) rfl ?_))
  refine ldN_at h3 1 (vs := key.cs) rfl (by rfl) rfl ?_
  refine ref13_Back_s (h3.pick 4 rfl) fun v w4 h4 => ?_
  obtain ⟨xs, hxs, h5⟩ := ensR_of h4
  have hrr : (goneL key l).map En.m = ((goneL key l).reverse.map En.m).reverse := by rw [List.map_reverse, List.reverse_reverse]
  rw [hrr] at hu
  have hk2 : ∀ v w', Sat e w' (DI v ((goneL key l).reverse.flatMap (antiE x.w)) :: BR n x f (undoB (st, sent) (goneL key l).reverse).1 (undoB (st, sent) (goneL key l).reverse).2 q p g cv lv :: IsPR q 64 (((goneL key l).reverse.map En.m).reverse ++ ql) :: IsPastR p fl (keepE key l) :: IsGateR g fl (gl.filter fun y => !dropP key y) :: Q) → K v w' := fun v w' h => hk v w' (by rw [hrr]; exact h)
  clear hk hrr
  generalize hrv : (goneL key l).reverse = r at hxs hu hk2
  have hrm : ∀ y ∈ r, y ∈ l := fun y hy => by rw [← hrv, List.mem_reverse] at hy; exact (List.mem_filter.1 hy).1
  have hrl : r.length ≤ 64 := by rw [← hrv, List.length_reverse]; exact Nat.le_trans (List.length_filter_le _ _) hpo.len
  have hxl : xs.length = r.length := by rw [← hxs, List.length_map]
  have hgx : ∀ {j : Nat} {y : EnX}, xs[j]? = some y → r[j]? = some y.e := fun hx => by rw [← hxs, List.getElem?_map, hx]; rfl
  have hlen : ∀ j, ((r.take j).flatMap (antiE x.w)).length ≤ 64000 := fun j => by
    have h0 := flat_le (antiE x.w) 1000 (r.take j) fun y hy => Nat.le_trans (antiE_len x.w y) (hpo.outs y (hrm y (List.mem_of_mem_take hy)))
    have h1 : (r.take j).length ≤ 64 := by rw [List.length_take]; omega
    omega
  replace h5 : Sat e w4 (DER v xs :: sepL (xs.map eOwn) :: IsPastR p fl (keepE key l) :: DI t10 [] :: blk t3 35 key.cs :: BR n x f st sent q p g cv lv :: IsPR q 64 ql :: IsGateR g fl gl :: Q) := h5
  refine lpi2 (fun mm t5 t7 w => ∃ j : Nat, j ≤ r.length ∧ t7 = .int .i64 j ∧ mm = r.length - j ∧ Sat e w (DI t5 ((r.take j).flatMap (antiE x.w)) :: BR n x f (undoB (st, sent) (r.take j)).1 (undoB (st, sent) (r.take j)).2 q p g cv lv :: IsPR q 64 (((r.take j).map En.m).reverse ++ ql) :: DER v xs :: sepL (xs.map eOwn) :: IsPastR p fl (keepE key l) :: IsGateR g fl gl :: blk t3 35 key.cs :: Q)) r.length
    ⟨0, Nat.zero_le _, rfl, rfl, h5.selR [_, _, _, _, _, _, _, _] [_, _, _, _, _, _, _, _] [3, 5, 6, 0, 1, 2, 7, 4] (by decide) rfl⟩ ?_
  rintro mm t5 _ w g1 ⟨j, hj, rfl, rfl, h6⟩ hg1
  refine lnS_rd h6 3 rfl (fun g hg => own_rd hg) ?_
  refine lt_c (fun c => iff_t ?_) (fun c => iff_f ?_)
  · obtain ⟨y, hx⟩ := get_of_lt (l := xs) (j := j) (by omega)
    have hxm := List.mem_of_getElem? hx
    have hxe := hgx hx
    have hxl' := hrm y.e (List.mem_of_getElem? hxe)
    have hol : y.outs.length ≤ 1000 := hpo.outs y.e hxl'
    have hxt : ∀ m ∈ y.outs, 0 ≤ m.To ∧ m.To < x.Feds.length := hto y.e hxl'
    have hts := take_snoc hxe
    refine ixS_rd h6 3 rfl (fun g hg => own_rd hg) (fun _ => rfl) hx fun a ha => fld_of ha fun a1 ha1 => ld1_of h6 3 rfl ha1 (v := .int .i64 y.ahead) rfl ?_
    refine ncP_p (fld_at (stN_at h6 1 rfl (vs := ints [y.ahead]) rfl rfl (Nat.le_of_ble_eq_true rfl) (ints_flat _) (cs' := rws x f y.ahead (undoB (st, sent) (r.take j)).2 q p g cv lv) (by rfl) fun w7 h7 => ?_))
    replace h7 : Sat e w7 (DI t5 ((r.take j).flatMap (antiE x.w)) :: BR n x f y.ahead (undoB (st, sent) (r.take j)).2 q p g cv lv :: IsPR q 64 (((r.take j).map En.m).reverse ++ ql) :: DER v xs :: sepL (xs.map eOwn) :: IsPastR p fl (keepE key l) :: IsGateR g fl gl :: blk t3 35 key.cs :: Q) := h7
    refine ixS_rd h7 3 rfl (fun g hg => own_rd hg) (fun _ => rfl) hx fun a ha => fld_of ha fun a1 ha1 => ld1_of h7 3 rfl ha1 (v := .int .i64 y.sent) rfl ?_
    refine ncP_p (fld_at (stN_at h7 1 rfl (vs := ints [y.sent]) rfl rfl (Nat.le_of_ble_eq_true rfl) (ints_flat _) (cs' := rws x f y.ahead y.sent q p g cv lv) (by rfl) fun w8 h8 => ?_))
    replace h8 : Sat e w8 (DI t5 ((r.take j).flatMap (antiE x.w)) :: BR n x f y.ahead y.sent q p g cv lv :: IsPR q 64 (((r.take j).map En.m).reverse ++ ql) :: DER v xs :: sepL (xs.map eOwn) :: IsPastR p fl (keepE key l) :: IsGateR g fl gl :: blk t3 35 key.cs :: Q) := h8
    obtain ⟨qv, h9⟩ := pr_of (h8.pick 2 rfl)
    replace h9 : Sat e w8 (blk q 134 [.int .i64 64, qv] :: ownS 37 6 Msg.cs qv (((r.take j).map En.m).reverse ++ ql) :: DI t5 ((r.take j).flatMap (antiE x.w)) :: BR n x f y.ahead y.sent q p g cv lv :: DER v xs :: sepL (xs.map eOwn) :: IsPastR p fl (keepE key l) :: IsGateR g fl gl :: blk t3 35 key.cs :: Q) := h9
    refine dr_s h9 fun w9 h10 => ?_
    refine ncP_p (fld_at (ld1_at h10 3 rfl (v := .pointer (some ⟨q, 0, none⟩)) rfl ?_))
    refine ncP_p (fld_at (ld1_at h10 3 rfl (v := .pointer (some ⟨q, 0, none⟩)) rfl ?_))
    refine ncP_p (fld_at (ld1_at h10 0 rfl (v := qv) rfl ?_))
    refine ixS_rd h10 4 rfl (fun g hg => own_rd hg) (fun _ => rfl) hx fun a ha => fld_of ha fun a1 ha1 => ldN_sub h10 4 rfl ha1 (us := y.m.cs) rfl rfl ?_
    have hcl : (((r.take j).map En.m).reverse ++ ql).length ≤ 1000 := by rw [List.length_append, List.length_reverse, List.length_map, List.length_take]; omega
    have hnew : ((r.take (j + 1)).map En.m).reverse ++ ql = y.m :: (((r.take j).map En.m).reverse ++ ql) := by
      rw [hts, List.map_append, List.reverse_append]
      rfl
    have hupj : Upk (((r.take (j + 1)).map En.m).reverse ++ ql) := by
      have h0 : (r.map En.m).reverse ++ ql = ((r.drop (j + 1)).map En.m).reverse ++ (((r.take (j + 1)).map En.m).reverse ++ ql) := by
        conv => lhs; rw [← List.take_append_drop (j + 1) r]
        rw [List.map_append, List.reverse_append, List.append_assoc]
      rw [h0] at hu
      exact hu.right
    rw [hnew] at hupj
    obtain ⟨hlow, hupq⟩ := List.pairwise_cons.1 hupj
    refine ref03_Insert_s (by omega) (h10.pick 1 rfl) (fun g hg => own_rd hg) fun v55 pl w10 hpl h11 => ?_
    rw [ins_place hpl hupq (fun z hz he => KeyLt.irrefl y.m.key (by have := hlow z hz; rwa [he] at this)), insK_low hlow, ← hnew] at h11
    replace h11 : Sat e w10 (ownS 37 6 Msg.cs v55 (((r.take (j + 1)).map En.m).reverse ++ ql) :: ownS 37 6 Msg.cs qv (((r.take j).map En.m).reverse ++ ql) :: blk q 134 [.int .i64 64, qv] :: DI t5 ((r.take j).flatMap (antiE x.w)) :: BR n x f y.ahead y.sent q p g cv lv :: DER v xs :: sepL (xs.map eOwn) :: IsPastR p fl (keepE key l) :: IsGateR g fl gl :: blk t3 35 key.cs :: Q) := h11
    refine ⟨ld1_at h11 4 rfl (v := .pointer (some ⟨q, 0, none⟩)) rfl ⟨rfl, rfl⟩, ?_⟩
    have q1 := h11.own_cells 0 rfl
    refine ncP_p (fld_at (stN_at h11 2 rfl (vs := [v55]) q1.1 rfl (Nat.le_of_ble_eq_true rfl) (fun c hc => by rw [List.mem_singleton.1 hc]; exact q1.2) (cs' := [.int .i64 64, v55]) (by rfl) fun w11 h12 => ?_))
    have h13 := pr_mk (q := q) (room := 64) (v := v55) (l := ((r.take (j + 1)).map En.m).reverse ++ ql) (h12.selR [_, _, _, _, _, _, _, _, _, _] [_, _, _, _, _, _, _, _, _] [2, 0, 3, 4, 5, 6, 7, 8, 9] (by decide) rfl)
    refine lpi2 (fun mm t5' t8 w => ∃ i : Nat, i ≤ y.outs.length ∧ t8 = .int .i64 i ∧ mm = y.outs.length - i ∧ Sat e w (DI t5' ((r.take j).flatMap (antiE x.w) ++ ((y.outs.take i).filter fun m => boldB x.w m.To).map antiI) :: BR n x f y.ahead y.sent q p g cv lv :: IsPR q 64 (((r.take (j + 1)).map En.m).reverse ++ ql) :: DER v xs :: sepL (xs.map eOwn) :: IsPastR p fl (keepE key l) :: IsGateR g fl gl :: blk t3 35 key.cs :: Q)) y.outs.length
      ⟨0, Nat.zero_le _, rfl, rfl, ?_⟩ ?_
    · rw [List.take_zero, List.filter_nil, List.map_nil, List.append_nil]
      exact h13.selR [_, _, _] [_, _, _] [1, 2, 0] (by decide) rfl
    rintro mm t5' _ w g2 ⟨i, hi, rfl, rfl, h14⟩ hg2
    refine ixS_rd h14 3 rfl (fun g hg => own_rd hg) (fun _ => rfl) hx fun a ha => fld_of ha fun a1 ha1 => ld1_of h14 3 rfl ha1 (v := y.ov) rfl ?_
    refine lnS_rd h14 4 rfl (ens_rd hxm) ?_
    refine lt_c (fun c2 => iff_t ?_) (fun c2 => iff_f ?_)
    · obtain ⟨m, hm⟩ := get_of_lt (l := y.outs) (j := i) (by omega)
      have hmt := hxt m (List.mem_of_getElem? hm)
      have hfs := filterA_snoc (p := fun m => boldB x.w m.To) hm
      obtain ⟨tn, fx, htn, hfx, hbo⟩ := bold_at hmt
      refine J1.cut (fun t5'' w => Sat e w (DI t5'' ((r.take j).flatMap (antiE x.w) ++ ((y.outs.take (i + 1)).filter fun m => boldB x.w m.To).map antiI) :: BR n x f y.ahead y.sent q p g cv lv :: IsPR q 64 (((r.take (j + 1)).map En.m).reverse ++ ql) :: DER v xs :: sepL (xs.map eOwn) :: IsPastR p fl (keepE key l) :: IsGateR g fl gl :: blk t3 35 key.cs :: Q)) (fun k4 hcut => ?_) (fun t5'' w15 h15 => ?_)
      · refine ixS_rd h14 3 rfl (fun g hg => own_rd hg) (fun _ => rfl) hx fun a ha => fld_of ha fun a1 ha1 => ld1_of h14 3 rfl ha1 (v := y.ov) rfl ?_
        refine ixS_rd h14 4 rfl (ens_rd hxm) (fun _ => rfl) hm fun a ha => ldN_of h14 4 rfl ha rfl ?_
        rw [zero_37]
        refine al_s (cs := Msg.zero.cs) h14 rfl fun t9 w15 h15 => ?_
        refine stN_at h15 0 rfl (vs := m.cs) rfl rfl (by decide) (ints_flat _) (cs' := m.cs) (by rfl) fun w16 h16 => ?_
        replace h16 : Sat e w16 (blk t9 37 m.cs :: DI t5' ((r.take j).flatMap (antiE x.w) ++ ((y.outs.take i).filter fun m => boldB x.w m.To).map antiI) :: BR n x f y.ahead y.sent q p g cv lv :: IsPR q 64 (((r.take (j + 1)).map En.m).reverse ++ ql) :: DER v xs :: sepL (xs.map eOwn) :: IsPastR p fl (keepE key l) :: IsGateR g fl gl :: blk t3 35 key.cs :: Q) := h16
        refine dr_s h16 fun w17 h17 => ?_
        refine ncP_p (fld_at (fld_at (ld1_at h17 2 rfl (v := x.fv) rfl ?_)))
        refine fld_at (ld1_at h17 0 rfl (v := .int .i64 (tn : Int)) (by rw [← htn]; rfl) ?_)
        refine ixS_rd h17 (i0 + 9) (by simpa using hi0) (fun g hg => (hr g hg).feds) (fun _ => rfl) hfx fun a ha => ?_
        refine fld_of ha fun a1 ha1 => ld1_of h17 (i0 + 9) (by simpa using hi0) ha1 (v := .int .i64 fx.Kind) rfl ?_
        refine eq_d ?_
        rw [← hbo]
        cases hb : boldB x.w m.To with
        | false =>
          refine iff_f (hcut _ _ ?_)
          rw [hfs, hb]
          simp only [Bool.false_eq_true, if_false, List.append_nil]
          exact h17.drop
        | true =>
          refine iff_t (ldN_at h17 0 (vs := m.cs) rfl (by rfl) rfl ?_)
          refine bld_s (antiI m).cs (by kernel_rfl) ?_
          refine push1 te_39 (f := NItem.cs) (fun _ => rfl) (fun _ => ints_flat _) (h17.pick 1 rfl) (x := antiI m) rfl ?_ fun v' w18 h18 => ?_
          · have h0 := hlen j
            have h2 := List.length_filter_le (fun m => boldB x.w m.To) (y.outs.take i)
            rw [List.length_take] at h2
            rw [List.length_append, List.length_map]
            omega
          · refine hcut _ _ ?_
            rw [hfs, hb]
            simp only [if_true, List.map_append, List.map_singleton]
            rw [← List.append_assoc]
            exact h18.selR [_, _, _, _, _, _, _, _, _] [_, _, _, _, _, _, _, _] [0, 2, 3, 4, 5, 6, 7, 8] (by decide) rfl
      · refine inc_s (by omega) ?_
        exact hg2 _ _ _ _ (by omega) ⟨i + 1, by omega, rfl, rfl, h15⟩
    · have ei : i = y.outs.length := by omega
      rw [ei, List.take_length] at h14
      refine inc_s (by omega) ?_
      refine hg1 _ _ _ _ (by omega) ⟨j + 1, by omega, rfl, rfl, ?_⟩
      rw [hts, undoB_snoc, List.flatMap_append, ← hts]
      rw [show [y.e].flatMap (antiE x.w) = (y.outs.filter fun m => boldB x.w m.To).map antiI from List.append_nil _]
      exact h14
  · have ej : j = r.length := by omega
    rw [ej, List.take_length] at h6
    refine dr_s h6 fun w7 h7 => ?_
    refine ncP_p (fld_at (ld1_at h7 1 rfl (v := .pointer (some ⟨g, 0, none⟩)) rfl ?_))
    refine ldN_at h7 7 (vs := key.cs) rfl (by rfl) rfl ?_
    refine ref14_Drop_s key (h7.pick 6 rfl) hgl fun v8 w8 h8 => ?_
    exact hk2 _ _ (h8.selR [_, _, _, _, _, _, _, _, _] [_, _, _, _, _] [2, 3, 4, 7, 1] (by decide) rfl)
end Go.Proofs.YtbopajpmadlmhaaGreat
end
section
namespace Go.Proofs.YtbopajpmadlmhaaGreat
open Go Go.E
set_option maxRecDepth 100000
variable {e w : World} {L Q R : List HP} {K : KV} {S S2 : HP}
variable {n f k : Nat} {fd : Fed} {N : WN} {x : WdX}

theorem pastR_to (h : WOk x.w f fd N k) : ∀ y ∈ N.past x.w f fd, ∀ m ∈ y.outs, 0 ≤ m.To ∧ m.To < x.Feds.length := fun y hy m hm => by
  obtain ⟨b, hb⟩ := (runE_mem hy).2
  rw [hb] at hm
  have := (ent_outs h.may h.hfd b y.m).2 m hm
  rw [wlen]
  exact ⟨this.1, this.2.1⟩
theorem wr_undo_s {st sent : Int} {q p g : Nat} {cv lv : Value} {key : Key} (i0 : Nat) (hi0 : Q[i0]? = some S) (hr : ∀ g, S g → RdWd x g) (hW : WOk x.w f fd N k) (hst : (st, sent) = N.now fd)
    (hS : Sat e w (BR n x f st sent q p g cv lv :: IsPR q 64 N.q :: IsPastR p N.fl (N.past x.w f fd) :: IsGateR g N.fl (gateE x.w (N.past x.w f fd)) :: Q))
    (hk : ∀ v w', Sat e w' (DI v (undoI x.w (goneE x.w f fd N key)) :: BR n x f (endE fd (N.base fd) (lowsM key N.ms)).1 (endE fd (N.base fd) (lowsM key N.ms)).2 q p g cv lv :: IsPR q 64 (highsM key N.ms ++ N.q) :: IsPastR p N.fl (runE x.w f fd (N.base fd) (lowsM key N.ms)) :: IsGateR g N.fl (gateE x.w (runE x.w f fd (N.base fd) (lowsM key N.ms))) :: Q) → K v w') :
    Cl prog 78 #[.pointer (some ⟨n, 0, none⟩), .agg key.cs.toArray] w K := by
  have hg := goneL_past hW key
  have hm : (goneL key (N.past x.w f fd)).map En.m = highsM key N.ms := by rw [hg]; exact runE_map ..
  refine undo13_s i0 hi0 hr (pastR_to hW) (gate_few hW) (by rw [hm]; exact highs_line hW key) (by have := hW.ql; omega) hS fun v w' h => hk v w' ?_
  rw [hm, hg, hst, undoB_now hW key, keepE_past hW key, gate_undone hW key] at h
  exact h
theorem clk_get (h : WOk x.w f fd N k) {j : Nat} (hj : j < x.w.Feds.length) : ∃ t, N.clk[j]? = some t ∧ N.at' (j : Int) = t := by
  obtain ⟨t, ht⟩ := get_of_lt (l := N.clk) (j := j) (by rw [h.clen]; exact hj)
  refine ⟨t, ht, ?_⟩
  unfold WN.at'
  rw [if_pos (by omega), Int.toNat_natCast, List.getD_eq_getElem?_getD, ht]
  rfl
theorem pr_Remove_s {q : Nat} {room : Int} {l : List Msg} {key : Key} (hl : l.length ≤ 1000) (hu : Upk l) (hS : Sat e w (IsPR q room l :: R)) (hk : ∀ v w', Sat e w' (IsPR q room (without l key) :: R) → K v w') : Cl prog 79 #[.pointer (some ⟨q, 0, none⟩), .agg key.cs.toArray] w K := by
  cases hh : hasK key l with
  | false =>
    have hno := hasK_no.1 hh
    refine ref03_Remove_none hl hno hS fun w2 h2 => hk _ _ ?_
    rw [without_none hno]
    exact h2
  | true =>
    obtain ⟨y, hy, rfl⟩ := hasK_iff.1 hh
    exact ref03_Remove_s hl hy hu.nodup hS fun w2 h2 => hk _ _ h2
theorem past_any (key : Key) : ((N.past x.w f fd).any fun y => decide (y.m.key = key)) = hasK key N.ms := by
  have h1 := runE_map x.w f fd N.ms (N.base fd)
  unfold hasK
  conv => rhs; rw [← h1]
  rw [List.any_map]
  rfl
theorem past_gone (h : WOk x.w f fd N k) (key : Key) : (goneL key (N.past x.w f fd)).length = (highsM key N.ms).length := by
  rw [goneL_past h]
  exact runE_len ..
theorem wr_Hear_s {j : Int} {i : NItem} (i0 : Nat) (hi0 : Q[i0]? = some S) (hr : ∀ g, S g → RdWd x g) (hS : Sat e w (IsWR n x f fd N k :: Q)) (hk : ∀ v w', Sat e w' (DI v (hearW x.w f fd N j i).out :: IsWR n x f fd (hearW x.w f fd N j i).N k :: Q) → K (.tuple #[v, .int .i64 (hearW x.w f fd N j i).e]) w') :
    Cl prog 31 #[.pointer (some ⟨n, 0, none⟩), .int .i64 j, .agg i.cs.toArray] w K := by
  have hW := wr_ok 0 hS rfl
  have hN' := hW.hear j i
  generalize hR : hearW x.w f fd N j i = R at hk hN'
  refine pacelineref15_Node_Hear_calls ?_
  unfold pacelineref15_Node_Hear
  rw [zero_35]
  refine al_s (cs := i.cs) hS rfl fun t5 w1 hs1 => ?_
  have bad : ∀ (er : Int) (w' : World), R = ⟨er, [], N⟩ → Sat e w' (IsWR n x f fd N k :: Q) → K (.tuple #[.slice none 0 0, .int .i64 er]) w' := by
    rintro er w' rfl h
    exact hk _ _ (h.own_nil 43 8 NItem.cs)
  have badj : ¬ (0 ≤ j ∧ j < x.w.Feds.length ∧ j ≠ f) → K (.tuple #[.slice none 0 0, .int .i64 1]) w1 := fun hn => bad 1 _ (by rw [← hR]; exact if_pos hn) hs1.drop
  obtain ⟨q, p, g, cv, lv, _, hs2⟩ := wr_of hs1.swap
  have hi7 : ∀ {A1 A2 A3 A4 A5 A6 A7 : HP}, (A1 :: A2 :: A3 :: A4 :: A5 :: A6 :: A7 :: Q)[i0 + 7]? = some S := fun {_ _ _ _ _ _ _} => by simpa using hi0
  by_cases d1 : j < 0
  · refine lt_t d1 ?_
    refine gd_tf (gd_tf (gd_tf (gd_tf (gd_tf (gd_tf (gd_tf (gd_tf (pk_t ?_))))))))
    refine gd_tf (gd_tf (gd_tf (gd_tf (gd_tf (gd_tf (pk_t (iff_t ?_)))))))
    exact badj (fun h => by omega)
  obtain ⟨jn, hjn⟩ : ∃ jn : Nat, j = jn := ⟨j.toNat, by omega⟩
  refine lt_f d1 (gd_ff (gd_ff (gd_ff (nc_p (gd_ff (fld_at (gd_ff (fld_at (gd_ff (ld1_at hs2 0 rfl (v := x.fv) rfl (gd_ff ?_)))))))))))
  refine lnS_rd hs2 (i0 + 7) hi7 (fun g hg => (hr g hg).feds) ?_
  by_cases d2 : (x.Feds.length : Int) ≤ j
  · refine gd_ff (ge_t d2 (pk_f ?_))
    refine gd_tf (gd_tf (gd_tf (gd_tf (gd_tf (gd_tf (pk_t (iff_t ?_)))))))
    exact badj (fun h => by have := wlen (x := x); omega)
  refine gd_ff (ge_f d2 (pk_f ?_))
  refine gd_ff (gd_ff (gd_ff (nc_p (gd_ff (fld_at (gd_ff (ld1_at hs2 0 rfl (v := .int .i64 f) rfl (gd_ff ?_))))))))
  by_cases d3 : j = f
  · exact eq_t d3 (pk_f (iff_t (badj fun h => h.2.2 d3)))
  refine eq_f d3 (pk_f (iff_f ?_))
  have hargs : 0 ≤ j ∧ j < x.w.Feds.length ∧ j ≠ f := ⟨by omega, by have := wlen (x := x); omega, d3⟩
  have hRR := hear_args (fd := fd) (N := N) (i := i) hargs
  rw [hR] at hRR
  obtain ⟨ct, hct, hat⟩ := clk_get hW (j := jn) (by omega)
  rw [← hjn] at hat
  subst hjn
  clear badj hs2
  have hs3 := hs1.swap
  refine fld_at (fld_at (ldN_at hs3 1 (vs := i.m.key.cs) rfl (by rfl) rfl ?_))
  refine al_s (cs := ints [0, 0, 0]) hs3 rfl fun t8 w2 hs4 => ?_
  refine stN_at hs4 0 rfl (vs := i.m.key.cs) rfl rfl (by decide) (ints_flat _) (cs' := i.m.key.cs) (by rfl) fun w3 hs5 => ?_
  replace hs5 : Sat e w3 (IsWR n x f fd N k :: blk t8 35 i.m.key.cs :: blk t5 43 i.cs :: Q) := hs5.swap
  obtain ⟨q, p, g, cv, lv, _, h6⟩ := wr_of hs5
  clear hs1 hs3 hs4
  have hback : ∀ {w'}, Sat e w' (IsWR n x f fd N k :: blk t8 35 i.m.key.cs :: blk t5 43 i.cs :: Q) → Sat e w' (IsWR n x f fd N k :: Q) := fun h => h.selR [_, _, _] [_] [0] (by decide) rfl
  refine fld_at (ld1_at h6 7 rfl (v := .int .i64 i.Kind) rfl ?_)
  refine eq_c (fun c1 => iff_t ?_) (fun c1 => iff_f ?_)
  · -- a bound
    rw [if_pos c1] at hRR
    refine ncP_p (fld_at (ld1_at h6 0 rfl (v := cv) rfl ?_))
    refine ixS_rd h6 4 rfl (fun g hg => own_rd hg) (fun _ => rfl) hct fun a ha => ld1_of h6 4 rfl ha (v := .int .i64 ct) rfl ?_
    refine lt_c (fun c2 => ?_) (fun c2 => ?_)
    · rw [if_pos (.inl (by omega))] at hRR
      exact gd_tf (gd_tf (gd_tf (gd_tf (pk_t (iff_t (bad 1 _ hRR (hback hs5)))))))
    refine gd_ff (fld_at (gd_ff (ld1_at h6 6 rfl (v := .int .i64 i.m.key.T) rfl (gd_ff (ref01_Valid_s (gd_ff ?_))))))
    cases hval : validT i.m.key.T with
    | false =>
      rw [if_pos (.inr hval)] at hRR
      exact not_f (pk_f (iff_t (bad 1 _ hRR (hback hs5))))
    | true =>
      rw [if_neg (fun h => h.elim (fun h => by omega) (fun h => by rw [hval] at h; cases h))] at hRR
      refine not_t (pk_f (iff_f ?_))
      refine dr_s hs5 fun w4 hs6 => ?_
      clear h6
      obtain ⟨q, p, g, cv, lv, _, h6⟩ := wr_of hs6
      refine fld_at (ld1_at h6 6 rfl (v := .int .i64 i.m.key.T) rfl ?_)
      refine ncP_p (fld_at (ld1_at h6 0 rfl (v := cv) rfl ?_))
      refine ixS_rd h6 4 rfl (fun g hg => own_rd hg) (fun _ => rfl) hct fun a ha => ld1_of h6 4 rfl ha (v := .int .i64 ct) rfl ?_
      refine lt_c (fun c3 => iff_t ?_) (fun c3 => iff_f ?_)
      · rw [if_pos (by omega)] at hRR
        exact bad 110 _ hRR (hback hs6)
      · rw [if_neg (by omega)] at hRR
        refine dr_s h6 fun w5 h7 => ?_
        refine ncP_p (fld_at (ld1_at h7 0 rfl (v := cv) rfl ?_))
        refine fld_at (ld1_at h7 6 rfl (v := .int .i64 i.m.key.T) rfl ?_)
        refine st_own' h7 4 rfl (fun _ => rfl) (by rw [hW.clen]; omega) (x := i.m.key.T) rfl (int_flat' _) fun w6 h8 => ?_
        subst hRR
        have h9 := wr_mk (N := ⟨N.old, N.ms, N.q, N.fl, N.clk.set (jn : Int).toNat i.m.key.T⟩) (x := x) (q := q) (p := p) (g := g) (cv := cv) (lv := lv) hN' (h8.selR [_, _, _, _, _, _, _, _] [_, _, _, _, _, _] [0, 1, 2, 3, 4, 5] (by decide) rfl)
        exact hk _ _ (h9.own_nil 43 8 NItem.cs)
  rw [if_neg c1] at hRR
  refine eq_c (fun c2 => iff_t ?_) (fun c2 => iff_f ?_)
  · -- a message
    rw [if_pos c2] at hRR
    refine ldN_at h6 6 (vs := i.m.key.cs) rfl (by rfl) rfl ?_
    refine behind_s (key := i.m.key) (h6.selR [_, _, _] [_, _, _] [0, 2, 1] (by decide) rfl) fun w4 h7 => ?_
    replace h7 : Sat e w4 (BR n x f (N.now fd).1 (N.now fd).2 q p g cv lv :: IsPR q 64 N.q :: IsPastR p N.fl (N.past x.w f fd) :: IsGateR g N.fl (gateE x.w (N.past x.w f fd)) :: DN cv N.clk :: DD lv (N.log x.w f fd) :: blk t8 35 i.m.key.cs :: blk t5 43 i.cs :: Q) := h7.selR [_, _, _] [_, _, _] [0, 2, 1] (by decide) rfl
    rw [past_any, past_gone hW]
    refine xt_02 (xt_12 ?_)
    refine dr_s h7 fun w5 h8 => ?_
    refine fld_at (ld1_at h8 6 rfl (v := .int .i64 i.m.key.T) rfl ?_)
    refine ncP_p (fld_at (ld1_at h8 0 rfl (v := .pointer (some ⟨p, 0, none⟩)) rfl ?_))
    obtain ⟨pv, xs, hp, h9⟩ := pastR_of (h8.pick 2 rfl)
    refine ncP_p (fld_at (ld1_at h9 0 rfl (v := .int .i64 N.fl) rfl ?_))
    have same8 : Sat e w5 (IsWR n x f fd N k :: Q) := hback (wr_mk hW h8)
    refine lt_c (fun c3 => ?_) (fun c3 => ?_)
    · rw [if_pos (.inl c3)] at hRR
      refine gd_tf (gd_tf (gd_tf (gd_tf (gd_tf (gd_tf (gd_tf (gd_tf (gd_tf ?_))))))))
      refine gd_u (gd_u (gd_u (gd_u (gd_u (gd_u (gd_u (gd_u (gd_u (gd_u ?_)))))))))
      exact gd_tf (pk_t (iff_t (bad 110 _ hRR same8)))
    have after : ¬ (0 ≤ N.at' jn ∧ i.m.key.T < N.at' jn) →
        gd (.bool (hasK i.m.key N.ms)) false (fun k => k (.pointer (some ⟨n, 0, none⟩)) w5) w5 fun t116 w => gd (.bool (hasK i.m.key N.ms)) false (fun k => ldN 3 (.pointer (some ⟨t8, 0, none⟩)) w k) w fun t117 w => gd (.bool (hasK i.m.key N.ms)) false (fun k => Cl prog 76 #[t116, t117] w k) w fun t118 w => pk (.bool (hasK i.m.key N.ms)) (Value.bool true) t118 w fun t119 w => iff' t119
        (K (Value.tuple #[(Value.slice none 0 0), (Value.int IntKind.i64 3)]) w)
        (ncP (.pointer (some ⟨n, 0, none⟩)) <| fld 6 (.pointer (some ⟨n, 0, none⟩)) w fun t122 w => ld1 t122 w fun t123 w => Cl prog 77 #[t123] w fun t124 w => bi .add .i64 t124 (.int .i64 ((highsM i.m.key N.ms).length : Int)) w fun t126 w => bi .add .i64 t126 (Value.int IntKind.i64 1) w fun t127 w => bi .gtr .i64 t127 (Value.int IntKind.i64 64) w fun t128 w => iff' t128
        (K (Value.tuple #[(Value.slice none 0 0), (Value.int IntKind.i64 2)]) w)
        (ldN 3 (.pointer (some ⟨t8, 0, none⟩)) w fun t130 w => Cl prog 78 #[.pointer (some ⟨n, 0, none⟩), t130] w fun t131 w => dr w fun w =>
          ncP (.pointer (some ⟨n, 0, none⟩)) <| fld 6 (.pointer (some ⟨n, 0, none⟩)) w fun t134 _ => ld1 t134 w fun t135 _ => ncP (.pointer (some ⟨n, 0, none⟩)) <| fld 6 (.pointer (some ⟨n, 0, none⟩)) w fun t138 _ => ld1 t138 w fun t139 _ => ncP t139 <| fld 1 t139 w fun t141 _ => ld1 t141 w fun t142 _ => fld 1 (.pointer (some ⟨t5, 0, none⟩)) w fun t143 _ => ldN 6 t143 w fun t144 _ => Cl prog 13 #[t142, t144] w fun t145 w =>
          (ld1 t134 w (fun v' w'' => v' = t135 ∧ w'' = w)) ∧ (ncP t135 <| fld 1 t135 w fun t147 _ => stN 1 t147 t145 w fun _ w => K (Value.tuple #[t131, (Value.int IntKind.i64 0)]) w))) := by
      intro cno
      rw [if_neg (show ¬ (i.m.key.T < N.fl ∨ (0 ≤ N.at' jn ∧ i.m.key.T < N.at' jn)) from fun h => h.elim c3 cno)] at hRR
      have happ : hasK i.m.key (N.ms ++ N.q) = (hasK i.m.key N.ms || hasK i.m.key N.q) := List.any_append
      rw [happ] at hRR
      have hql := hW.ql
      have hml : (highsM i.m.key N.ms).length ≤ 64 := Nat.le_trans (List.length_filter_le _ _) hW.ml
      cases hms : hasK i.m.key N.ms with
      | true =>
        rw [hms, Bool.true_or, if_pos rfl] at hRR
        exact gd_tf (gd_tf (gd_tf (pk_t (iff_t (bad 3 _ hRR same8)))))
      | false =>
        rw [hms, Bool.false_or] at hRR
        refine gd_ff (gd_ff (ldN_at h8 6 (vs := i.m.key.cs) rfl (by rfl) rfl (gd_ff (waits_s (by omega) h8 fun w6 h10 => ?_))))
        cases hq : hasK i.m.key N.q with
        | true =>
          rw [hq, if_pos rfl] at hRR
          exact pk_f (iff_t (bad 3 _ hRR (hback (wr_mk hW h10))))
        | false =>
          rw [hq, if_neg (by decide)] at hRR
          refine pk_f (iff_f (ncP_p (fld_at (ld1_at h10 0 rfl (v := .pointer (some ⟨q, 0, none⟩)) rfl ?_))))
          refine ref03_Len_s (h10.pick 1 rfl) (add_s (by omega) (by omega) (add_s (by omega) (by omega) ?_))
          refine gt_c (fun c4 => iff_t ?_) (fun c4 => iff_f ?_)
          · rw [if_pos (by omega)] at hRR
            exact bad 2 _ hRR (hback (wr_mk hW h10))
          · rw [if_neg (by omega)] at hRR
            refine ldN_at h10 6 (vs := i.m.key.cs) rfl (by rfl) rfl ?_
            refine wr_undo_s (key := i.m.key) (i0 + 4) (by simpa using hi0) hr hW rfl h10 fun v w7 h11 => ?_
            refine dr_s h11 fun w8 h12 => ?_
            refine ncP_p (fld_at (ld1_at h12 1 rfl (v := .pointer (some ⟨q, 0, none⟩)) rfl ?_))
            refine ncP_p (fld_at (ld1_at h12 1 rfl (v := .pointer (some ⟨q, 0, none⟩)) rfl ?_))
            obtain ⟨qv, h13⟩ := pr_of (h12.pick 2 rfl)
            replace h13 : Sat e w8 (blk q 134 [.int .i64 64, qv] :: ownS 37 6 Msg.cs qv (highsM i.m.key N.ms ++ N.q) :: DI v (undoI x.w (goneE x.w f fd N i.m.key)) :: BR n x f (endE fd (N.base fd) (lowsM i.m.key N.ms)).1 (endE fd (N.base fd) (lowsM i.m.key N.ms)).2 q p g cv lv :: IsPastR p N.fl (runE x.w f fd (N.base fd) (lowsM i.m.key N.ms)) :: IsGateR g N.fl (gateE x.w (runE x.w f fd (N.base fd) (lowsM i.m.key N.ms))) :: DN cv N.clk :: DD lv (N.log x.w f fd) :: blk t8 35 i.m.key.cs :: blk t5 43 i.cs :: Q) := h13
            refine ncP_p (fld_at (ld1_at h13 0 rfl (v := qv) rfl ?_))
            refine fld_at (ldN_at h13 9 (vs := i.m.cs) rfl (by rfl) rfl ?_)
            refine ref03_Insert_s (by rw [List.length_append]; omega) (h13.pick 1 rfl) (fun g hg => own_rd hg) fun v55 pl w9 hpl h14 => ?_
            have hne : ∀ z ∈ highsM i.m.key N.ms ++ N.q, z.key ≠ i.m.key := fun z hz => by
              rcases List.mem_append.1 hz with hz | hz
              · exact hasK_no.1 hms z (List.mem_filter.1 hz).1
              · exact hasK_no.1 hq z hz
            rw [ins_place hpl (highs_line hW i.m.key) hne] at h14
            replace h14 : Sat e w9 (ownS 37 6 Msg.cs v55 (insK i.m (highsM i.m.key N.ms ++ N.q)) :: ownS 37 6 Msg.cs qv (highsM i.m.key N.ms ++ N.q) :: blk q 134 [.int .i64 64, qv] :: DI v (undoI x.w (goneE x.w f fd N i.m.key)) :: BR n x f (endE fd (N.base fd) (lowsM i.m.key N.ms)).1 (endE fd (N.base fd) (lowsM i.m.key N.ms)).2 q p g cv lv :: IsPastR p N.fl (runE x.w f fd (N.base fd) (lowsM i.m.key N.ms)) :: IsGateR g N.fl (gateE x.w (runE x.w f fd (N.base fd) (lowsM i.m.key N.ms))) :: DN cv N.clk :: DD lv (N.log x.w f fd) :: blk t8 35 i.m.key.cs :: blk t5 43 i.cs :: Q) := h14
            refine ⟨ld1_at h14 4 rfl (v := .pointer (some ⟨q, 0, none⟩)) rfl ⟨rfl, rfl⟩, ?_⟩
            have q1 := h14.own_cells 0 rfl
            refine ncP_p (fld_at (stN_at h14 2 rfl (vs := [v55]) q1.1 rfl (Nat.le_of_ble_eq_true rfl) (fun c hc => by rw [List.mem_singleton.1 hc]; exact q1.2) (cs' := [.int .i64 64, v55]) (by rfl) fun w10 h15 => ?_))
            have h16 := pr_mk (q := q) (room := 64) (v := v55) (l := insK i.m (highsM i.m.key N.ms ++ N.q)) (h15.selR [_, _, _, _, _, _, _, _, _, _, _] [_, _, _, _, _, _, _, _] [2, 0, 3, 4, 5, 6, 7, 8] (by decide) rfl)
            subst hRR
            have h17 := wr_mk (n := n) (N := ⟨N.old, lowsM i.m.key N.ms, insK i.m (highsM i.m.key N.ms ++ N.q), N.fl, N.clk⟩) (x := x) (q := q) (p := p) (g := g) (cv := cv) (lv := lv) hN' (h16.selR [_, _, _, _, _, _, _] [_, _, _, _, _, _, _] [2, 0, 3, 4, 5, 6, 1] (by decide) rfl)
            exact hk _ _ h17.swap
    refine gd_ff (gd_ff (nc_p (gd_ff (fld_at (gd_ff (ld1_at h8 0 rfl (v := cv) rfl (gd_ff (gd_ff ?_))))))))
    refine ixS_rd h8 4 rfl (fun g hg => own_rd hg) (fun _ => rfl) hct fun a ha => gd_ff (ld1_of h8 4 rfl ha (v := .int .i64 ct) rfl (gd_ff ?_))
    refine ge_c (fun c4 => gd_ff ?_) (fun c4 => gd_ff ?_)
    · refine gd_tt (fld_at (gd_tt (ld1_at h8 6 rfl (v := .int .i64 i.m.key.T) rfl (gd_tt (gd_tt (nc_p (gd_tt (fld_at (gd_tt (ld1_at h8 0 rfl (v := cv) rfl (gd_tt (gd_tt ?_))))))))))))
      refine ixS_rd h8 4 rfl (fun g hg => own_rd hg) (fun _ => rfl) hct fun a ha => gd_tt (ld1_of h8 4 rfl ha (v := .int .i64 ct) rfl (gd_tt ?_))
      refine lt_c (fun c5 => gd_ff (pk_t (pk_f (iff_t ?_)))) (fun c5 => gd_ff (pk_t (pk_f (iff_f ?_))))
      · rw [if_pos (.inr ⟨by omega, by omega⟩)] at hRR
        exact bad 110 _ hRR same8
      · exact after fun h => by omega
    · refine gd_ft (gd_ft (gd_ft (gd_ft (gd_ft (gd_ft (gd_ft (gd_ft (gd_ft (gd_ft ?_)))))))))
      exact gd_ff (pk_f (pk_f (iff_f (after fun h => by omega))))
  rw [if_neg c2] at hRR
  refine eq_c (fun c3 => iff_t ?_) (fun c3 => iff_f ?_)
  · rw [if_pos c3] at hRR
    refine ldN_at h6 6 (vs := i.m.key.cs) rfl (by rfl) rfl ?_
    refine behind_s (key := i.m.key) (h6.selR [_, _, _] [_, _, _] [0, 2, 1] (by decide) rfl) fun w4 h7 => ?_
    replace h7 : Sat e w4 (BR n x f (N.now fd).1 (N.now fd).2 q p g cv lv :: IsPR q 64 N.q :: IsPastR p N.fl (N.past x.w f fd) :: IsGateR g N.fl (gateE x.w (N.past x.w f fd)) :: DN cv N.clk :: DD lv (N.log x.w f fd) :: blk t8 35 i.m.key.cs :: blk t5 43 i.cs :: Q) := h7.selR [_, _, _] [_, _, _] [0, 2, 1] (by decide) rfl
    rw [past_any, past_gone hW]
    refine xt_02 (xt_12 ?_)
    refine ncP_p (fld_at (ld1_at h7 0 rfl (v := cv) rfl ?_))
    refine ixS_rd h7 4 rfl (fun g hg => own_rd hg) (fun _ => rfl) hct fun a ha => ld1_of h7 4 rfl ha (v := .int .i64 ct) rfl ?_
    refine ge_c (fun c4 => iff_t ?_) (fun c4 => iff_f ?_)
    · rw [if_pos (by omega)] at hRR
      exact bad 1 _ hRR (hback (wr_mk hW h7))
    rw [if_neg (by omega)] at hRR
    refine dr_s h7 fun w5 h8 => ?_
    refine fld_at (ld1_at h8 6 rfl (v := .int .i64 i.m.key.T) rfl ?_)
    refine ncP_p (fld_at (ld1_at h8 0 rfl (v := .pointer (some ⟨p, 0, none⟩)) rfl ?_))
    obtain ⟨pv, xs, hp, h9⟩ := pastR_of (h8.pick 2 rfl)
    refine ncP_p (fld_at (ld1_at h9 0 rfl (v := .int .i64 N.fl) rfl ?_))
    clear h9
    refine lt_c (fun c5 => iff_t ?_) (fun c5 => iff_f ?_)
    · rw [if_pos c5] at hRR
      exact bad 110 _ hRR (hback (wr_mk hW h8))
    rw [if_neg c5] at hRR
    have hql := hW.ql
    have hml : (highsM i.m.key N.ms).length ≤ 64 := Nat.le_trans (List.length_filter_le _ _) hW.ml
    refine ldN_at h8 6 (vs := i.m.key.cs) rfl (by rfl) rfl ?_
    refine waits_s (by omega) h8 fun w6 h10 => ?_
    cases hq : hasK i.m.key N.q with
    | true =>
      rw [hq, if_pos rfl] at hRR
      refine iff_t (dr_s h10 fun w7 h11 => ?_)
      refine ncP_p (fld_at (ld1_at h11 0 rfl (v := .pointer (some ⟨q, 0, none⟩)) rfl ?_))
      refine ldN_at h11 6 (vs := i.m.key.cs) rfl (by rfl) rfl ?_
      refine pr_Remove_s (by omega) hW.upq (h11.pick 1 rfl) fun _ w8 h12 => ?_
      subst hRR
      have h17 := wr_mk (n := n) (N := ⟨N.old, N.ms, without N.q i.m.key, N.fl, N.clk⟩) (x := x) (q := q) (p := p) (g := g) (cv := cv) (lv := lv) hN' (h12.selR [_, _, _, _, _, _, _, _] [_, _, _, _, _, _] [1, 0, 2, 3, 4, 5] (by decide) rfl)
      exact hk _ _ (h17.own_nil 43 8 NItem.cs)
    | false =>
      rw [hq, if_neg (by decide)] at hRR
      refine iff_f ?_
      cases hms : hasK i.m.key N.ms with
      | false =>
        rw [hms, if_pos rfl] at hRR
        exact not_f (iff_t (bad 4 _ hRR (hback (wr_mk hW h10))))
      | true =>
        rw [hms, if_neg (by decide)] at hRR
        refine not_t (iff_f (ncP_p (fld_at (ld1_at h10 0 rfl (v := .pointer (some ⟨q, 0, none⟩)) rfl ?_))))
        refine ref03_Len_s (h10.pick 1 rfl) (add_s (by omega) (by omega) ?_)
        refine gt_c (fun c6 => iff_t ?_) (fun c6 => iff_f ?_)
        · rw [if_pos (by omega)] at hRR
          exact bad 2 _ hRR (hback (wr_mk hW h10))
        · rw [if_neg (by omega)] at hRR
          refine ldN_at h10 6 (vs := i.m.key.cs) rfl (by rfl) rfl ?_
          refine wr_undo_s (key := i.m.key) (i0 + 4) (by simpa using hi0) hr hW rfl h10 fun v w7 h11 => ?_
          refine dr_s h11 fun w8 h12 => ?_
          refine ncP_p (fld_at (ld1_at h12 1 rfl (v := .pointer (some ⟨q, 0, none⟩)) rfl ?_))
          refine ldN_at h12 7 (vs := i.m.key.cs) rfl (by rfl) rfl ?_
          refine pr_Remove_s (by rw [List.length_append]; omega) (highs_line hW i.m.key) (h12.pick 2 rfl) fun _ w9 h13 => ?_
          subst hRR
          have h17 := wr_mk (n := n) (N := ⟨N.old, lowsM i.m.key N.ms, without (highsM i.m.key N.ms ++ N.q) i.m.key, N.fl, N.clk⟩) (x := x) (q := q) (p := p) (g := g) (cv := cv) (lv := lv) hN' (h13.selR [_, _, _, _, _, _, _, _, _] [_, _, _, _, _, _, _] [2, 0, 3, 4, 5, 6, 1] (by decide) rfl)
          exact hk _ _ h17.swap
  · rw [if_neg c3] at hRR
    exact bad 130 _ hRR (hback hs5)
end Go.Proofs.YtbopajpmadlmhaaGreat
end
section
namespace Go.Proofs.YtbopajpmadlmhaaGreat
open Go Go.E
set_option maxRecDepth 100000
variable {e w : World} {L Q R : List HP} {K : KV} {S S2 : HP}
variable {n f k : Nat} {fd : Fed} {N : WN} {x : WdX}

theorem wr_Commit_s {t : Int} (hk0 : k ≤ 1000) (hS : Sat e w (IsWR n x f fd N k :: Q))
    (hno : commitWE N t ≠ 0 → ∀ w', Sat e w' (IsWR n x f fd N k :: Q) → K (.tuple #[.slice none 0 0, .slice none 0 0, .int .i64 (commitWE N t)]) w')
    (hyes : commitWE N t = 0 → ∀ v u w', Sat e w' (DD v ((settledE x.w f fd N t).map doneE) :: ownS 37 6 Msg.cs u (openedW x.w f fd N t) :: IsWR n x f fd (commitWN N t) k :: Q) → K (.tuple #[v, u, .int .i64 0]) w') :
    Cl prog 33 #[.pointer (some ⟨n, 0, none⟩), .int .i64 t] w K := by
  refine pacelineref15_Node_Commit_calls ?_
  unfold pacelineref15_Node_Commit
  obtain ⟨q, p, g, cv, lv, hok, h1⟩ := wr_of hS
  refine ncP_p (fld_at (ld1_at h1 0 rfl (v := .pointer (some ⟨p, 0, none⟩)) rfl ?_))
  obtain ⟨pv, xs0, hp0, h1p⟩ := pastR_of (h1.pick 2 rfl)
  refine ncP_p (fld_at (ld1_at h1p 0 rfl (v := .int .i64 N.fl) rfl ?_))
  clear h1p hp0
  refine lt_c (fun c => iff_t ?_) (fun c => iff_f ?_)
  · have he : commitWE N t = 110 := if_pos c
    rw [he] at hno
    exact hno (by decide) _ hS
  refine wr_Local_s hS fun w2 h2 => ?_
  refine gt_c (fun c2 => iff_t ?_) (fun c2 => iff_f ?_)
  · have he : commitWE N t = 130 := by unfold commitWE; rw [if_neg c, if_pos c2]
    rw [he] at hno
    exact hno (by decide) _ h2
  have he : commitWE N t = 0 := by unfold commitWE; rw [if_neg c, if_neg c2]
  clear h1 hno
  obtain ⟨q, p, g, cv, lv, _, h1⟩ := wr_of h2
  refine ncP_p (fld_at (ld1_at h1 0 rfl (v := .pointer (some ⟨p, 0, none⟩)) rfl ?_))
  refine ref13_Settle_s (h1.pick 2 rfl) fun v w3 h3 => ?_
  rw [commit_front hok, ← commit_past hok] at h3
  obtain ⟨xs, hxs, h4⟩ := ensR_of h3
  generalize hse : settledE x.w f fd N t = se at hxs hyes
  have hsl : se.length ≤ 64 := by
    rw [← hse]
    unfold settledE
    rw [runE_len]
    exact Nat.le_trans (List.length_filter_le _ _) hok.ml
  have hxl : xs.length = se.length := by rw [← hxs, List.length_map]
  refine bsl0 h4 Done.cs fun t29 w4 h5 => ?_
  replace h5 : Sat e w4 (DD t29 [] :: DER v xs :: sepL (xs.map eOwn) :: IsPastR p (max N.fl t) ((commitWN N t).past x.w f fd) :: BR n x f (N.now fd).1 (N.now fd).2 q p g cv lv :: IsPR q 64 N.q :: IsGateR g N.fl (gateE x.w (N.past x.w f fd)) :: DN cv N.clk :: DD lv (N.log x.w f fd) :: Q) := h5
  refine lpi2 (fun mm t8 t9 w => ∃ j : Nat, j ≤ se.length ∧ t9 = .int .i64 j ∧ mm = se.length - j ∧ Sat e w (DD t8 ((se.take j).map doneE) :: DER v xs :: sepL (xs.map eOwn) :: IsPastR p (max N.fl t) ((commitWN N t).past x.w f fd) :: BR n x f (N.now fd).1 (N.now fd).2 q p g cv lv :: IsPR q 64 N.q :: IsGateR g N.fl (gateE x.w (N.past x.w f fd)) :: DN cv N.clk :: DD lv (N.log x.w f fd) :: Q)) se.length
    ⟨0, Nat.zero_le _, rfl, rfl, h5⟩ ?_
  rintro mm t8 _ w g1 ⟨j, hj, rfl, rfl, h6⟩ hg1
  refine lnS_rd h6 1 rfl (fun g hg => own_rd hg) ?_
  refine lt_c (fun c3 => iff_t ?_) (fun c3 => iff_f ?_)
  · obtain ⟨y, hy⟩ := get_of_lt (l := xs) (j := j) (by omega)
    have hye : se[j]? = some y.e := by rw [← hxs, List.getElem?_map, hy]; rfl
    refine dr_s h6 fun w7 h7 => ?_
    refine ixS_rd h7 1 rfl (fun g hg => own_rd hg) (fun _ => rfl) hy fun a ha => fld_of ha fun a1 ha1 => ldN_sub h7 1 rfl ha1 (us := y.m.cs) rfl rfl ?_
    refine ixS_rd h7 1 rfl (fun g hg => own_rd hg) (fun _ => rfl) hy fun a ha => fld_of ha fun a1 ha1 => ld1_of h7 1 rfl ha1 (v := .int .i64 y.st) rfl ?_
    refine bld_s (doneE y.e).cs (by kernel_rfl) ?_
    refine push1 te_52 (f := Done.cs) (fun _ => rfl) (fun _ => ints_flat _) h7 (x := doneE y.e) rfl (by rw [List.length_map, List.length_take]; omega) fun v' w8 h8 => ?_
    refine inc_s (by omega) ?_
    refine hg1 _ _ _ _ (by omega) ⟨j + 1, by omega, rfl, rfl, ?_⟩
    rw [take_snoc hye, List.map_append]
    exact h8
  · have ej : j = se.length := by omega
    rw [ej, List.take_length] at h6
    refine ncP_p (fld_at (ld1_at h6 4 rfl (v := lv) rfl ?_))
    have hlf := log_few hok
    refine apS_own te_52 te_52.und (f := Done.cs) (l := N.log x.w f fd) (m := se.map doneE) (fun _ => rfl) (fun _ => ints_flat _) (h6.selR [_, _, _, _, _, _, _, _, _] [_, _, _, _, _, _, _, _, _] [8, 0, 1, 2, 3, 4, 5, 6, 7] (by decide) rfl) (fun g hg => own_rd hg) (by rw [List.length_map]; omega) fun lv' w7 h7 => ?_
    have q1 := h7.own_cells 0 rfl
    refine ncP_p (fld_at (stN_at h7 5 rfl (vs := [lv']) q1.1 rfl (Nat.le_of_ble_eq_true rfl) (fun c hc => by rw [List.mem_singleton.1 hc]; exact q1.2) (cs' := rws x f (N.now fd).1 (N.now fd).2 q p g cv lv') (by rfl) fun w8 h8 => ?_))
    replace h8 : Sat e w8 (DD lv' (N.log x.w f fd ++ se.map doneE) :: DD t8 (se.map doneE) :: DER v xs :: sepL (xs.map eOwn) :: IsPastR p (max N.fl t) ((commitWN N t).past x.w f fd) :: BR n x f (N.now fd).1 (N.now fd).2 q p g cv lv' :: IsPR q 64 N.q :: IsGateR g N.fl (gateE x.w (N.past x.w f fd)) :: DN cv N.clk :: Q) := h8
    refine ncP_p (fld_at (ld1_at h8 5 rfl (v := .pointer (some ⟨g, 0, none⟩)) rfl ?_))
    refine ref14_Open_s t (h8.pick 7 rfl) (gate_few hok) fun u w9 h9 => ?_
    obtain ⟨hft, _⟩ := commitE_ok he
    have hmax : max N.fl t = t := by omega
    have hop : openR (gateE x.w (N.past x.w f fd)) t = gateE x.w se := by
      rw [gate_opened (past_up hok), ← hse, ← commit_front hok]
      rfl
    have hleft : openL (gateE x.w (N.past x.w f fd)) t = gateE x.w ((commitWN N t).past x.w f fd) := by
      rw [gate_left, commit_past hok]
      rfl
    rw [hmax, hop, hleft] at h9
    have hlog : N.log x.w f fd ++ se.map doneE = (commitWN N t).log x.w f fd := by rw [commit_log, hse]
    rw [hlog] at h9
    have hnow := commit_now hok t
    rw [← hnow] at h9
    have hop2 : openedW x.w f fd N t = (gateE x.w se).map Kept.m := by unfold openedW; rw [hse]
    rw [hop2] at hyes
    have h10 := wr_mk (N := commitWN N t) (x := x) (q := q) (p := p) (g := g) (cv := cv) (lv := lv') (hok.commit he) (h9.selR [_, _, _, _, _, _, _, _, _, _] [_, _, _, _, _, _, _, _] [7, 8, 6, 1, 9, 2, 3, 0] (by decide) rfl)
    exact hyes he t8 u _ (h10.selR [_, _, _] [_, _, _] [1, 2, 0] (by decide) rfl)
theorem wr_Step_s (hk0 : k ≤ 1000) (i0 : Nat) (hi0 : Q[i0]? = some S) (hr : ∀ g, S g → RdWd x g) (hs : x.short) (hS : Sat e w (IsWR n x f fd N k :: Q))
    (hno : stepWE x.w f fd N ≠ 0 → ∀ w', Sat e w' (IsWR n x f fd N k :: Q) → K (.tuple #[.agg Done.zero.cs.toArray, .slice none 0 0, .int .i64 (stepWE x.w f fd N)]) w')
    (hyes : stepWE x.w f fd N = 0 → ∀ v w', Sat e w' (DI v (stepI x.w (stepEn x.w f fd N)) :: IsWR n x f fd (stepWN N) (k + 1) :: Q) → K (.tuple #[.agg (doneE (stepEn x.w f fd N)).cs.toArray, v, .int .i64 0]) w') :
    Cl prog 32 #[.pointer (some ⟨n, 0, none⟩)] w K := by
  refine pacelineref15_Node_Step_calls ?_
  unfold pacelineref15_Node_Step
  rw [zero_45, zero_37]
  refine al_s (cs := Done.zero.cs) hS rfl fun t2 w1 h1 => ?_
  obtain ⟨q, p, g, cv, lv, hok, h2⟩ := wr_of h1.swap
  refine ncP_p (fld_at (ld1_at h2 0 rfl (v := .pointer (some ⟨q, 0, none⟩)) rfl ?_))
  refine pr_First_s (h2.pick 1 rfl) fun w3 h3 => ?_
  refine xt_02 (xt_12 ?_)
  refine al_s (cs := Msg.zero.cs) h3 rfl fun t5 w4 h4 => ?_
  refine stN_at h4 0 rfl (vs := (hdM N.q).cs) rfl rfl (by decide) (ints_flat _) (cs' := (hdM N.q).cs) (by rfl) fun w5 h5 => ?_
  replace h5 : Sat e w5 (blk t5 37 (hdM N.q).cs :: IsPR q 64 N.q :: BR n x f (N.now fd).1 (N.now fd).2 q p g cv lv :: IsPastR p N.fl (N.past x.w f fd) :: IsGateR g N.fl (gateE x.w (N.past x.w f fd)) :: DN cv N.clk :: DD lv (N.log x.w f fd) :: blk t2 45 Done.zero.cs :: Q) := h5
  refine dr_s h5 fun w6 h6 => ?_
  have refuse : ∀ (er : Int) (w' : World), stepWE x.w f fd N = er → er ≠ 0 → Sat e w' (blk t5 37 (hdM N.q).cs :: IsPR q 64 N.q :: BR n x f (N.now fd).1 (N.now fd).2 q p g cv lv :: IsPastR p N.fl (N.past x.w f fd) :: IsGateR g N.fl (gateE x.w (N.past x.w f fd)) :: DN cv N.clk :: DD lv (N.log x.w f fd) :: blk t2 45 Done.zero.cs :: Q) →
      bld (zeroD prog 45) #[(0, 6), (6, 1)] [] w' fun t35 w => stN 7 (.pointer (some ⟨t2, 0, none⟩)) t35 w fun _ w => ldN 7 (.pointer (some ⟨t2, 0, none⟩)) w fun r0 _ => K (Value.tuple #[r0, (Value.slice none 0 0), (Value.int IntKind.i64 er)]) w := by
    intro er w' he hne h
    refine bld_s Done.zero.cs (by kernel_rfl) ?_
    refine stN_at h 7 rfl (vs := Done.zero.cs) rfl rfl (by decide) (ints_flat _) (cs' := Done.zero.cs) (by kernel_rfl) fun w7 h7 => ?_
    refine ldN_at h7 7 (vs := Done.zero.cs) rfl (by rfl) rfl ?_
    subst he
    exact hno hne _ (wr_mk hok (h7.selR [_, _, _, _, _, _, _, _] [_, _, _, _, _, _] [2, 1, 3, 4, 5, 6] (by decide) rfl))
  cases hq : hasM N.q with
  | false =>
    refine not_f (gd_tf (gd_tf (gd_tf (gd_tf (gd_tf (gd_tf (gd_tf (gd_tf (gd_tf (pk_t (iff_t ?_)))))))))))
    exact refuse 150 _ (if_pos (fun h => by rw [hq] at h; cases h.1)) (by decide) h6
  | true =>
    refine not_t (gd_ff (fld_at (gd_ff (fld_at (gd_ff (ld1_at h6 0 rfl (v := .int .i64 (hdM N.q).key.T) rfl ?_))))))
    refine gd_ff (gd_ff (nc_p (gd_ff (fld_at (gd_ff (fld_at (gd_ff (ld1_at h6 2 rfl (v := .int .i64 x.End) rfl (gd_ff ?_)))))))))
    have hEnd : x.End = x.w.End := rfl
    refine ge_c (fun c1 => pk_f (iff_t ?_)) (fun c1 => pk_f (iff_f ?_))
    · exact refuse 150 _ (if_pos (fun h => by have := h.2; omega)) (by decide) h6
    have hc : ¬ ¬ (hasM N.q = true ∧ (hdM N.q).key.T < x.w.End) := fun h => h ⟨hq, by omega⟩
    refine ncP_p (fld_at (ld1_at h6 2 rfl (v := .pointer (some ⟨p, 0, none⟩)) rfl ?_))
    obtain ⟨pv, xs, hp, h6p⟩ := pastR_of (h6.pick 3 rfl)
    have hpl : (N.past x.w f fd).length = N.ms.length := runE_len ..
    have hxl : xs.length = N.ms.length := by rw [← hpl, ← hp.1, List.length_map]
    refine ncP_p (fld_at (ld1_at h6p 0 rfl (v := pv) rfl ?_))
    refine lnS_rd h6p 1 rfl (fun g hg => own_rd hg) ?_
    rw [hxl]
    clear h6p
    have hml := hok.ml
    have hgl := gate_few hok
    by_cases c2 : (64 : Int) ≤ N.ms.length
    · refine ge_t c2 (gd_tf (gd_tf (gd_tf (gd_tf (gd_tf (gd_tf (gd_tf (gd_tf (gd_tf (pk_t (iff_t ?_)))))))))))
      exact refuse 2 _ (by unfold stepWE; rw [if_neg hc, if_pos (.inl (by omega))]) (by decide) h6
    refine ge_f c2 (gd_ff (gd_ff (nc_p (gd_ff (fld_at (gd_ff (ld1_at h6 2 rfl (v := .pointer (some ⟨g, 0, none⟩)) rfl (gd_ff (nc_p ?_)))))))))
    obtain ⟨gv, h6g⟩ := gateR_open (h6.pick 4 rfl)
    refine gd_ff (fld_at (gd_ff (ld1_at h6g 0 rfl (v := gv) rfl (gd_ff ?_))))
    refine lnS_rd h6g 1 rfl (fun g hg => own_rd hg) (gd_ff ?_)
    clear h6g
    refine gt_c (fun c3 => pk_f (iff_t ?_)) (fun c3 => pk_f (iff_f ?_))
    · exact refuse 2 _ (by unfold stepWE; rw [if_neg hc, if_pos (.inr (by omega))]) (by decide) h6
    have he : stepWE x.w f fd N = 0 := by unfold stepWE; rw [if_neg hc, if_neg (by omega)]
    obtain ⟨m, r, hmr⟩ := hasM_yes hq
    have hhd : hdM N.q = m := by rw [hmr]; rfl
    rw [hhd] at h6
    obtain ⟨⟨m', r', hmr', hmt⟩, _, _⟩ := stepE_ok he
    rw [hmr] at hmr'
    obtain ⟨rfl, rfl⟩ := List.cons.inj hmr'
    clear h1 h2 h3 h4 h5 refuse hmr' hno hp hxl
    obtain ⟨fx, hfx, rfl⟩ := wfed hok
    have hfxm := List.mem_of_getElem? hfx
    have hsf := hs.fed fx hfxm
    refine ncP_p (fld_at (ld1_at h6 2 rfl (v := .pointer (some ⟨q, 0, none⟩)) rfl ?_))
    refine pr_Pop_s hok.upq (by have := hok.ql; omega) (h6.pick 1 rfl) fun w9 h9 => ?_
    rw [show N.q.tail = r from by rw [hmr]; rfl] at h9
    replace h9 : Sat e w9 (IsPR q 64 r :: blk t5 37 m.cs :: BR n x f (N.now fx.f).1 (N.now fx.f).2 q p g cv lv :: IsPastR p N.fl (N.past x.w f fx.f) :: IsGateR g N.fl (gateE x.w (N.past x.w f fx.f)) :: DN cv N.clk :: DD lv (N.log x.w f fx.f) :: blk t2 45 Done.zero.cs :: Q) := h9
    refine dr_s h9 fun w10 h10 => ?_
    have j8 : ∀ {A1 A2 A3 A4 A5 A6 A7 A8 : HP}, (A1 :: A2 :: A3 :: A4 :: A5 :: A6 :: A7 :: A8 :: Q)[i0 + 8]? = some S := fun {_ _ _ _ _ _ _ _} => by simpa using hi0
    refine ncP_p (fld_at (fld_at (ld1_at h10 2 rfl (v := x.fv) rfl ?_)))
    refine ncP_p (fld_at (ld1_at h10 2 rfl (v := .int .i64 f) rfl ?_))
    refine ixS_rd h10 (i0 + 8) j8 (fun g hg => (hr g hg).feds) (fun _ => rfl) hfx fun a ha => ?_
    refine fld_of ha fun a1 ha1 => ld1_of h10 (i0 + 8) j8 ha1 (v := fx.rv) rfl ?_
    refine ncP_p (fld_at (ld1_at h10 2 rfl (v := .int .i64 (N.now fx.f).1) rfl ?_))
    refine fld_at (ld1_at h10 1 rfl (v := .int .i64 m.Class) rfl ?_)
    refine ref07_Step_s (l := fx.Rules) (s := (N.now fx.f).1) (c := m.Class) (h10.pick (i0 + 8) j8) (fun g hg => ((hr g hg).fed fx hfxm).rules) hsf.rules hsf.sends fun ov w11 h11 => ?_
    replace h11 := Sat.unpick (i0 + 8) j8 h11
    obtain ⟨so, hso⟩ : ∃ so, so = stepR fx.f.Rules (N.now fx.f).1 m.Class := ⟨_, rfl⟩
    have hso2 : stepR (fx.Rules.map RuleX.r) (N.now fx.f).1 m.Class = so := hso.symm
    rw [hso2] at h11 ⊢
    have houts := step_outs hok.may (List.mem_of_getElem? hok.hfd) (N.now fx.f).1 m.Class
    rw [← hso] at houts
    refine xt_02 (xt_12 ?_)
    replace h11 : Sat e w11 (ownS 87 3 Out.cs ov so.2 :: IsPR q 64 r :: blk t5 37 m.cs :: BR n x f (N.now fx.f).1 (N.now fx.f).2 q p g cv lv :: IsPastR p N.fl (N.past x.w f fx.f) :: IsGateR g N.fl (gateE x.w (N.past x.w f fx.f)) :: DN cv N.clk :: DD lv (N.log x.w f fx.f) :: blk t2 45 Done.zero.cs :: Q) := h11
    refine dr_s h11 fun w12 h12 => ?_
    refine ncP_p (fld_at (ldN_at h12 3 (vs := x.cs) rfl (by rfl) rfl ?_))
    refine ncP_p (fld_at (ld1_at h12 3 rfl (v := .int .i64 f) rfl ?_))
    refine ncP_p (fld_at (ld1_at h12 3 rfl (v := .int .i64 (N.now fx.f).2) rfl ?_))
    refine fld_at (fld_at (ld1_at h12 2 rfl (v := .int .i64 m.key.T) rfl ?_))
    refine fld_at (ld1_at h12 2 rfl (v := .int .i64 m.Body) rfl ?_)
    have hsu := hok.sent
    refine ref08_Spread_s (x := x) (outs := so.2) (i0 + 9) 0 (by simpa using hi0) rfl h12 hr (fun g hg => own_rd hg) hs hok.may.tree (fun o ho => (houts.2 o ho).1) (by omega) ⟨by omega, by omega⟩ fun mv w13 h13 => ?_
    obtain ⟨en, hen⟩ : ∃ en, en = entB x.w f fx.f (N.now fx.f) m := ⟨_, rfl⟩
    have hsp : spreadL x.w.Parents x.w.Feds f (N.now fx.f).2 m.key.T m.Body so.2 = en.outs := by rw [hso, hen]; rfl
    rw [hsp] at h13
    have hent := ent_outs hok.may hok.hfd (N.now fx.f) m
    rw [← hen] at hent
    replace h13 : Sat e w13 (ownS 37 6 Msg.cs mv en.outs :: ownS 87 3 Out.cs ov so.2 :: IsPR q 64 r :: blk t5 37 m.cs :: BR n x f (N.now fx.f).1 (N.now fx.f).2 q p g cv lv :: IsPastR p N.fl (N.past x.w f fx.f) :: IsGateR g N.fl (gateE x.w (N.past x.w f fx.f)) :: DN cv N.clk :: DD lv (N.log x.w f fx.f) :: blk t2 45 Done.zero.cs :: Q) := h13
    refine dr_s h13 fun w14 h14 => ?_
    refine ncP_p (fld_at (ld1_at h14 4 rfl (v := .pointer (some ⟨p, 0, none⟩)) rfl ?_))
    refine ldN_at h14 3 (vs := m.cs) rfl (by rfl) rfl ?_
    refine ncP_p (fld_at (ld1_at h14 4 rfl (v := .int .i64 (N.now fx.f).1) rfl ?_))
    refine ncP_p (fld_at (ld1_at h14 4 rfl (v := .int .i64 (N.now fx.f).2) rfl ?_))
    obtain ⟨A, cp, hmv, _⟩ := h14.shape 0 rfl (fun g hg => own_rd hg)
    subst hmv
    generalize hmv : Value.slice A en.outs.length cp = mv at h14
    refine bld_s (EnX.cs ⟨m, (N.now fx.f).1, (N.now fx.f).2, so.1, .slice A en.outs.length cp, en.outs⟩) (by kernel_rfl) ?_
    rw [hmv]
    have qm := h14.own_cells 0 rfl
    refine ⟨ld1_at h14 4 rfl (v := .pointer (some ⟨p, 0, none⟩)) rfl ⟨rfl, rfl⟩, ?_⟩
    have hfl : ¬ m.key.T < N.fl := by
      have := hok.hi m (by rw [hmr]; simp)
      omega
    have hup : Upk (N.ms ++ [m]) := by
      have := hok.line
      rw [hmr, show N.ms ++ m :: r = (N.ms ++ [m]) ++ r from by simp] at this
      exact this.left
    obtain ⟨y, hy⟩ : ∃ y : EnX, y = ⟨m, (N.now fx.f).1, (N.now fx.f).2, so.1, mv, en.outs⟩ := ⟨_, rfl⟩
    rw [← hy]
    have hye : y.e = en := by rw [hy, hso, hen]; rfl
    obtain ⟨pv, xs, hp, h15⟩ := pastR_of (h14.pick 5 rfl)
    replace h15 : Sat e w14 (PB p N.fl pv :: DER pv xs :: sepL (xs.map eOwn) :: ownS 37 6 Msg.cs mv en.outs :: ownS 87 3 Out.cs ov so.2 :: IsPR q 64 r :: blk t5 37 m.cs :: BR n x f (N.now fx.f).1 (N.now fx.f).2 q p g cv lv :: IsGateR g N.fl (gateE x.w (N.past x.w f fx.f)) :: DN cv N.clk :: DD lv (N.log x.w f fx.f) :: blk t2 45 Done.zero.cs :: Q) := h15
    have hxl : xs.length = (N.past x.w f fx.f).length := by rw [← hp.1, List.length_map]
    have hlast : ∀ z, xs.getLast? = some z → KeyLt z.m.key y.m.key := fun z hz => by
      have h1 := last_lt (wd := x.w) (f := f) (fd := fx.f) (b := N.base fx.f) hup
      have h2 : (N.past x.w f fx.f).getLast? = some z.e := by rw [← hp.1, List.getLast?_map, hz]; rfl
      rw [hy]
      exact h1 z.e h2
    refine ref13_Push_s (x := y) (by rw [hy]; exact qm.2) (fun z hz => en_flat 2 h15 rfl hz) (by rw [hy]; exact hfl) hlast (by omega) h15 fun pv' w15 h16 => ?_
    replace h16 : Sat e w15 (PB p N.fl pv' :: DER pv' (xs ++ [y]) :: sepL (xs.map eOwn) :: ownS 37 6 Msg.cs mv en.outs :: ownS 87 3 Out.cs ov so.2 :: IsPR q 64 r :: blk t5 37 m.cs :: BR n x f (N.now fx.f).1 (N.now fx.f).2 q p g cv lv :: IsGateR g N.fl (gateE x.w (N.past x.w f fx.f)) :: DN cv N.clk :: DD lv (N.log x.w f fx.f) :: blk t2 45 Done.zero.cs :: Q) := h16
    have hpok : PastOk (N.past x.w f fx.f ++ [en]) := by
      refine ⟨?_, by rw [List.length_append, List.length_singleton]; omega, fun z hz => ?_⟩
      · have h1 := past_up (hok.step he)
        rw [step_past hmr, ← hen] at h1
        exact h1
      · rcases List.mem_append.1 hz with hz | hz
        · exact hp.2.outs z hz
        · rw [List.mem_singleton.1 hz]; omega
    refine ncP_p (fld_at (stN_at h16 7 rfl (vs := ints [so.1]) rfl rfl (Nat.le_of_ble_eq_true rfl) (ints_flat _) (cs' := rws x f so.1 (N.now fx.f).2 q p g cv lv) (by rfl) fun w16 h17 => ?_))
    refine ncP_p (fld_at (ld1_at h17 7 rfl (v := .int .i64 (N.now fx.f).2) rfl ?_))
    refine lnS_rd h17 4 rfl (fun g hg => own_rd hg) (add_s (by omega) (by omega) ?_)
    have hnb : nextB fx.f (N.now fx.f) m = (so.1, (N.now fx.f).2 + so.2.length) := by rw [hso]; rfl
    refine ncP_p (fld_at (stN_at h17 7 rfl (vs := ints [(N.now fx.f).2 + so.2.length]) rfl rfl (Nat.le_of_ble_eq_true rfl) (ints_flat _) (cs' := rws x f so.1 ((N.now fx.f).2 + so.2.length) q p g cv lv) (by rfl) fun w17 h18 => ?_))
    replace h18 : Sat e w17 (PB p N.fl pv' :: DER pv' (xs ++ [y]) :: sepL (xs.map eOwn) :: ownS 37 6 Msg.cs mv en.outs :: ownS 87 3 Out.cs ov so.2 :: IsPR q 64 r :: blk t5 37 m.cs :: BR n x f so.1 ((N.now fx.f).2 + so.2.length) q p g cv lv :: IsGateR g N.fl (gateE x.w (N.past x.w f fx.f)) :: DN cv N.clk :: DD lv (N.log x.w f fx.f) :: blk t2 45 Done.zero.cs :: Q) := h18
    have h19 : Sat e w17 (sepL ((xs ++ [y]).map eOwn) :: PB p N.fl pv' :: DER pv' (xs ++ [y]) :: IsPR q 64 r :: blk t5 37 m.cs :: BR n x f so.1 ((N.now fx.f).2 + so.2.length) q p g cv lv :: IsGateR g N.fl (gateE x.w (N.past x.w f fx.f)) :: DN cv N.clk :: DD lv (N.log x.w f fx.f) :: blk t2 45 Done.zero.cs :: Q) := by
      have h1 := h18.selR [_, _, _, _, _, _, _, _, _, _, _, _] [_, _, _, _, _, _, _, _, _, _, _] [3, 2, 0, 1, 5, 6, 7, 8, 9, 10, 11] (by decide) rfl
      have h2 := (Sat.join (l' := [_]) h1).swap
      have h3 := sepL_both h2
      rw [show xs.map eOwn ++ [ownS 37 6 Msg.cs mv en.outs] = (xs ++ [y]).map eOwn from by rw [List.map_append, hy]; rfl] at h3
      exact h3
    have hym : y ∈ xs ++ [y] := List.mem_append_right _ (List.mem_singleton.2 rfl)
    have hyr : ∀ g, sepL ((xs ++ [y]).map eOwn) g → rdS 6 Msg.cs mv en.outs g := fun g hg => by
      have h1 := ens_rd hym g hg
      rw [hy] at h1
      exact h1
    refine bsl0 h19 NItem.cs fun t132 w18 h20 => ?_
    refine lpi2 (fun q' t10 t11 w => ∃ i : Nat, i ≤ en.outs.length ∧ t11 = .int .i64 i ∧ q' = en.outs.length - i ∧ Sat e w (DI t10 (((en.outs.take i).filter fun m => boldB x.w m.To).map plainI) :: IsGateR g N.fl (gateE x.w (N.past x.w f fx.f) ++ ((en.outs.take i).filter fun m => !boldB x.w m.To).map fun o => ⟨m.key, o⟩) :: sepL ((xs ++ [y]).map eOwn) :: PB p N.fl pv' :: DER pv' (xs ++ [y]) :: IsPR q 64 r :: blk t5 37 m.cs :: BR n x f so.1 ((N.now fx.f).2 + so.2.length) q p g cv lv :: DN cv N.clk :: DD lv (N.log x.w f fx.f) :: blk t2 45 Done.zero.cs :: Q)) en.outs.length
      ⟨0, Nat.zero_le _, rfl, rfl, ?_⟩ ?_
    · rw [List.take_zero, List.filter_nil, List.filter_nil, List.map_nil, List.map_nil, List.append_nil]
      exact h20.selR [_, _, _, _, _, _, _, _, _, _, _] [_, _, _, _, _, _, _, _, _, _, _] [0, 7, 1, 2, 3, 4, 5, 6, 8, 9, 10] (by decide) rfl
    rintro q' t10 _ w g1 ⟨i, hi, rfl, rfl, h21⟩ hg1
    refine lnS_rd h21 2 rfl hyr ?_
    refine lt_c (fun d => iff_t ?_) (fun d => iff_f ?_)
    · obtain ⟨o, ho⟩ := get_of_lt (l := en.outs) (j := i) (by omega)
      have hot := hent.2 o (List.mem_of_getElem? ho)
      have hfs1 := filterA_snoc (p := fun m => boldB x.w m.To) ho
      have hfs2 := filterA_snoc (p := fun m => !boldB x.w m.To) ho
      have hl1 := List.length_filter_le (fun m => boldB x.w m.To) (en.outs.take i)
      have hl2 := List.length_filter_le (fun m => !boldB x.w m.To) (en.outs.take i)
      rw [List.length_take] at hl1 hl2
      obtain ⟨tn, fy, htn, hfy, hbo⟩ := bold_at (x := x) (t := o.To) ⟨hot.1, by rw [wlen]; exact hot.2.1⟩
      refine J1.cut (fun t10' w => Sat e w (DI t10' (((en.outs.take (i + 1)).filter fun m => boldB x.w m.To).map plainI) :: IsGateR g N.fl (gateE x.w (N.past x.w f fx.f) ++ ((en.outs.take (i + 1)).filter fun m => !boldB x.w m.To).map fun o => ⟨m.key, o⟩) :: sepL ((xs ++ [y]).map eOwn) :: PB p N.fl pv' :: DER pv' (xs ++ [y]) :: IsPR q 64 r :: blk t5 37 m.cs :: BR n x f so.1 ((N.now fx.f).2 + so.2.length) q p g cv lv :: DN cv N.clk :: DD lv (N.log x.w f fx.f) :: blk t2 45 Done.zero.cs :: Q)) (fun k2 hk2 => ?_) ?_
      · refine dr_s h21 fun w20 h22 => ?_
        refine ncP_p (fld_at (fld_at (ld1_at h22 7 rfl (v := x.fv) rfl ?_)))
        refine ixS_rd h22 2 rfl hyr (fun _ => rfl) ho fun a ha => fld_of ha fun a1 ha1 => ld1_of h22 2 rfl ha1 (v := .int .i64 (tn : Int)) (by rw [← htn]; rfl) ?_
        refine ixS_rd h22 (i0 + 11) (by simpa using hi0) (fun g hg => (hr g hg).feds) (fun _ => rfl) hfy fun a ha => ?_
        refine fld_of ha fun a1 ha1 => ld1_of h22 (i0 + 11) (by simpa using hi0) ha1 (v := .int .i64 fy.Kind) rfl ?_
        refine eq_d ?_
        rw [← hbo]
        cases hb : boldB x.w o.To with
        | true =>
          refine iff_t (ixS_rd h22 2 rfl hyr (fun _ => rfl) ho fun a ha => ldN_of h22 2 rfl ha rfl ?_)
          refine bld_s (plainI o).cs (by kernel_rfl) ?_
          refine push1 te_39 (f := NItem.cs) (fun _ => rfl) (fun _ => ints_flat _) h22 (x := plainI o) rfl (by rw [List.length_map]; omega) fun v' w21 h23 => ?_
          refine hk2 _ _ ?_
          rw [hfs1, hfs2, hb]
          simp only [if_true, List.map_append, List.map_singleton, Bool.not_true, Bool.false_eq_true, if_false, List.append_nil]
          have hmo : (xs ++ [y]).map eOwn = xs.map eOwn ++ [eOwn y] := by rw [List.map_append]; rfl
          rw [hmo] at h23
          exact h23
        | false =>
          refine iff_f (dr_s h22 fun w21 h23 => ?_)
          refine ncP_p (fld_at (ld1_at h23 7 rfl (v := .pointer (some ⟨g, 0, none⟩)) rfl ?_))
          refine fld_at (ldN_at h23 6 (vs := m.key.cs) rfl (by rfl) rfl ?_)
          refine ixS_rd h23 2 rfl hyr (fun _ => rfl) ho fun a ha => ldN_of h23 2 rfl ha rfl ?_
          have hgl2 : (gateE x.w (N.past x.w f fx.f) ++ ((en.outs.take i).filter fun m => !boldB x.w m.To).map fun o => (⟨m.key, o⟩ : Kept)).length < 256 := by
            rw [List.length_append, List.length_map]
            omega
          refine ref14_Hold_s m.key o (h23.pick 1 rfl) (by omega) fun w22 h24 => ?_
          have hhold : holdL N.fl (gateE x.w (N.past x.w f fx.f) ++ ((en.outs.take i).filter fun m => !boldB x.w m.To).map fun o => (⟨m.key, o⟩ : Kept)) m.key o = gateE x.w (N.past x.w f fx.f) ++ (((en.outs.take i).filter fun m => !boldB x.w m.To).map fun o => (⟨m.key, o⟩ : Kept)) ++ [⟨m.key, o⟩] := by
            unfold holdL
            rw [if_neg hfl, if_neg (by omega)]
          rw [hhold] at h24
          refine hk2 _ _ ?_
          rw [hfs1, hfs2, hb]
          simp only [Bool.not_false, if_true, List.map_append, List.map_singleton, Bool.false_eq_true, if_false, List.append_nil]
          rw [← List.append_assoc]
          have hmo : (xs ++ [y]).map eOwn = xs.map eOwn ++ [eOwn y] := by rw [List.map_append]; rfl
          have h25 := h24.swap
          rw [hmo] at h25
          exact h25
      · intro t10' w19 h19
        refine inc_s (by omega) ?_
        exact hg1 _ _ _ _ (by omega) ⟨i + 1, by omega, rfl, rfl, h19⟩
    · have ei : i = en.outs.length := by omega
      rw [ei, List.take_length] at h21
      refine ldN_at h21 6 (vs := m.cs) rfl (by rfl) rfl ?_
      refine bld_s (⟨m, so.1⟩ : Done).cs (by kernel_rfl) ?_
      refine stN_at h21 10 rfl (vs := (⟨m, so.1⟩ : Done).cs) rfl rfl (Nat.le_of_ble_eq_true rfl) (ints_flat _) (cs' := (⟨m, so.1⟩ : Done).cs) (by rfl) fun w19 h22 => ?_
      refine ldN_at h22 10 (vs := (⟨m, so.1⟩ : Done).cs) rfl (by rfl) rfl ?_
      have hsE : stepEn x.w f fx.f N = en := by rw [hen]; unfold stepEn; rw [hhd]
      have hdE : doneE en = ⟨m, so.1⟩ := by rw [hen, hso]; rfl
      rw [hsE, hdE] at hyes
      refine hyes he t10 _ ?_
      have hn2 : (stepWN N).now fx.f = (so.1, (N.now fx.f).2 + so.2.length) := by rw [step_now hmr, hnb]
      have hp2 : (stepWN N).past x.w f fx.f = N.past x.w f fx.f ++ [en] := by rw [step_past hmr, hen]
      have hg2 : gateE x.w ((stepWN N).past x.w f fx.f) = gateE x.w (N.past x.w f fx.f) ++ (en.outs.filter fun m => !boldB x.w m.To).map fun o => ⟨m.key, o⟩ := by rw [step_gate hmr, ← hen]; congr 1; unfold keptE; rw [hen]; rfl
      have hq2 : (stepWN N).q = r := by rw [step_line hmr]
      replace h22 : Sat e w19 (DI t10 ((en.outs.filter fun m => boldB x.w m.To).map plainI) :: IsGateR g N.fl (gateE x.w (N.past x.w f fx.f) ++ (en.outs.filter fun m => !boldB x.w m.To).map fun o => ⟨m.key, o⟩) :: sepL ((xs ++ [y]).map eOwn) :: PB p N.fl pv' :: DER pv' (xs ++ [y]) :: IsPR q 64 r :: blk t5 37 m.cs :: BR n x f so.1 ((N.now fx.f).2 + so.2.length) q p g cv lv :: DN cv N.clk :: DD lv (N.log x.w f fx.f) :: blk t2 45 (⟨m, so.1⟩ : Done).cs :: Q) := h22
      have h23 := pastR_mk (p := p) (fl := N.fl) (l := N.past x.w f fx.f ++ [en]) (lv := pv') (xs := xs ++ [y]) ⟨by rw [List.map_append, hp.1]; show _ ++ [y.e] = _; rw [hye], hpok⟩ (h22.selR [_, _, _, _, _, _, _, _, _, _, _] [_, _, _, _, _, _, _, _, _] [3, 4, 2, 0, 1, 5, 7, 8, 9] (by decide) rfl)
      have h24 := wr_mk (N := stepWN N) (x := x) (q := q) (p := p) (g := g) (cv := cv) (lv := lv) (k := k + 1) (n := n) (f := f) (fd := fx.f) (hok.step he) (Q := DI t10 ((en.outs.filter fun m => boldB x.w m.To).map plainI) :: Q) (e := e) (w := w19) (by
        rw [hn2, hg2, hp2, hq2]
        exact h23.selR [_, _, _, _, _, _, _] [_, _, _, _, _, _, _] [4, 3, 0, 2, 5, 6, 1] (by decide) rfl)
      exact h24.swap
end Go.Proofs.YtbopajpmadlmhaaGreat
end
section
namespace Go.Proofs.YtbopajpmadlmhaaGreat
open Go Go.E
set_option maxRecDepth 100000
variable {e w : World} {L Q R : List HP} {K : KV} {S S2 : HP}

def boundI : NItem := ⟨2, ⟨⟨Inf, 0, 0⟩, 0, 0, 0⟩, 0⟩
def boundedB (N : WN) : WN := ⟨N.old, N.ms, N.q, N.fl, [-1, -1, Inf]⟩
theorem BInv.bound {all : List Msg} {N : WN} (h : BInv all N) : hearB N 2 boundI = ⟨0, [], boundedB N⟩ := by
  unfold hearB
  rw [hear_args (by refine ⟨by omega, ?_, by omega⟩; show (2 : Int) < ((3 : Nat) : Int); omega)]
  have h2 : N.at' 2 = 0 := by unfold WN.at'; rw [h.clk]; rfl
  show (if N.at' 2 < 0 ∨ validT Inf = false then _ else if Inf < N.at' 2 then _ else _) = _
  rw [h2, if_neg (by decide), if_neg (by decide), h.clk]
  rfl
theorem hear_early {N : WN} (h1 : N.at' 1 = -1) {m : Msg} {c : Int} (hm : m.key.T < N.fl) : hearB N 1 ⟨0, m, c⟩ = ⟨110, [], N⟩ ∧ hearB N 1 ⟨1, m, c⟩ = ⟨110, [], N⟩ := by
  have hj : (0 : Int) ≤ 1 ∧ (1 : Int) < boldW.Feds.length ∧ (1 : Int) ≠ ((0 : Nat) : Int) := ⟨by omega, by show (1 : Int) < ((3 : Nat) : Int); omega, by omega⟩
  constructor
  · unfold hearB
    rw [hear_args hj]
    show (if m.key.T < N.fl ∨ (0 ≤ N.at' 1 ∧ m.key.T < N.at' 1) then _ else _) = _
    rw [if_pos (.inl hm)]
  · unfold hearB
    rw [hear_args hj]
    show (if 0 ≤ N.at' 1 then _ else if m.key.T < N.fl then _ else _) = _
    rw [if_neg (by omega), if_pos hm]
theorem BInv.twice {all : List Msg} {N : WN} (h : BInv all N) {m : Msg} {c : Int} (hm : 0 ≤ m.key.T) (hin : ∃ y ∈ all, y.key = m.key) : hearB N 1 ⟨0, m, c⟩ = ⟨3, [], N⟩ := by
  unfold hearB
  rw [hear_args (by refine ⟨by omega, ?_, by omega⟩; show (1 : Int) < ((3 : Nat) : Int); omega)]
  show (if m.key.T < N.fl ∨ (0 ≤ N.at' 1 ∧ m.key.T < N.at' 1) then _ else if hasK m.key (N.ms ++ N.q) = true then _ else _) = _
  have h1 := h.at1
  have h2 := h.fl
  rw [if_neg (by omega), h.line, if_pos (hasK_iff.2 hin)]
end Go.Proofs.YtbopajpmadlmhaaGreat
end
section
namespace Go.Proofs.YtbopajpmadlmhaaGreat
open Go Go.E
set_option maxRecDepth 100000
variable {e w : World} {L Q R : List HP} {K : KV} {S S2 : HP}

theorem same15_s {u v : Value} {l : List Msg} (i j : Nat) (hi : L[i]? = some S) (hj : L[j]? = some S2) (hS : Sat e w L) (hr : ∀ g, S g → rdS 6 Msg.cs u l g) (hr2 : ∀ g, S2 g → rdS 6 Msg.cs v l g) (hl : l.length ≤ 1000000)
    (hk : ∀ w', Sat e w' L → K (.bool true) w') : Cl prog 23 #[u, v] w K := by
  refine pacelinelaw15_same_calls ?_
  unfold pacelinelaw15_same
  refine lnS_rd hS i hi hr ?_
  refine lnS_rd hS j hj hr2 ?_
  refine ne_f rfl (iff_f ?_)
  refine lpi1 (fun q t w => ∃ n : Nat, n ≤ l.length ∧ t = .int .i64 n ∧ q = l.length - n ∧ Sat e w L) l.length ⟨0, Nat.zero_le _, rfl, rfl, hS⟩ ?_
  rintro q _ w g ⟨n, hn, rfl, rfl, h1⟩ hg
  refine lnS_rd h1 i hi hr ?_
  refine lt_c (fun c => iff_t ?_) (fun c => iff_f (hk _ h1))
  obtain ⟨y, hy⟩ := get_of_lt (l := l) (j := n) (by omega)
  refine dr_s h1 fun w2 h2 => ?_
  refine ixS_rd h2 i hi hr (fun _ => rfl) hy fun p hp => ldN_of h2 i hi hp rfl ?_
  refine ixS_rd h2 j hj hr2 (fun _ => rfl) hy fun p hp => ldN_of h2 j hj hp rfl ?_
  refine bO_ne (ns := y.ns) (ms := y.ns) eqT_37 agg_37 egt_37 (by decide) rfl ?_
  rw [beq_self_eq_true]
  refine iff_f (inc_s (by omega) ?_)
  exact hg _ _ _ (by omega) ⟨n + 1, by omega, rfl, rfl, h2⟩
theorem Same15_s {u v : Value} {l : List Done} (i j : Nat) (hi : L[i]? = some S) (hj : L[j]? = some S2) (hS : Sat e w L) (hr : ∀ g, S g → rdS 7 Done.cs u l g) (hr2 : ∀ g, S2 g → rdS 7 Done.cs v l g) (hl : l.length ≤ 1000000)
    (hk : ∀ w', Sat e w' L → K (.bool true) w') : Cl prog 22 #[u, v] w K := by
  refine pacelineref09_Same_calls ?_
  unfold pacelineref09_Same
  refine lnS_rd hS i hi hr ?_
  refine lnS_rd hS j hj hr2 ?_
  refine ne_f rfl (iff_f ?_)
  refine lpi1 (fun q t w => ∃ n : Nat, n ≤ l.length ∧ t = .int .i64 n ∧ q = l.length - n ∧ Sat e w L) l.length ⟨0, Nat.zero_le _, rfl, rfl, hS⟩ ?_
  rintro q _ w g ⟨n, hn, rfl, rfl, h1⟩ hg
  refine lnS_rd h1 i hi hr ?_
  refine lt_c (fun c => iff_t ?_) (fun c => iff_f (hk _ h1))
  obtain ⟨y, hy⟩ := get_of_lt (l := l) (j := n) (by omega)
  refine dr_s h1 fun w2 h2 => ?_
  refine ixS_rd h2 i hi hr (fun _ => rfl) hy fun p hp => ldN_of h2 i hi hp rfl ?_
  refine ixS_rd h2 j hj hr2 (fun _ => rfl) hy fun p hp => ldN_of h2 j hj hp rfl ?_
  refine bO_ne (ns := y.ns) (ms := y.ns) eqT_45 agg_45 egt_45 (by decide) rfl ?_
  rw [beq_self_eq_true]
  refine iff_f (inc_s (by omega) ?_)
  exact hg _ _ _ (by omega) ⟨n + 1, by omega, rfl, rfl, h2⟩

theorem hj1 : (0 : Int) ≤ 1 ∧ (1 : Int) < boldW.Feds.length ∧ (1 : Int) ≠ ((0 : Nat) : Int) := ⟨by omega, by show (1 : Int) < ((3 : Nat) : Int); omega, by omega⟩
theorem hasK_app (k : Key) (a b : List Msg) : hasK k (a ++ b) = (hasK k a || hasK k b) := List.any_append
theorem BInv.none {all : List Msg} {N : WN} (h : BInv all N) {m : Msg} {c : Int} (hm : 0 ≤ m.key.T) (hin : hasK m.key all = false) : hearB N 1 ⟨1, m, c⟩ = ⟨4, [], N⟩ := by
  have h1 := h.at1
  have h2 := h.fl
  rw [← h.line, hasK_app] at hin
  have hq : hasK m.key N.q = false := by cases hq : hasK m.key N.q with | false => rfl | true => rw [hq, Bool.or_true] at hin; cases hin
  have hms : hasK m.key N.ms = false := by cases hms : hasK m.key N.ms with | false => rfl | true => rw [hms] at hin; cases hin
  unfold hearB
  rw [hear_args hj1]
  rw [if_neg (show ¬ (1 : Int) = 2 by decide), if_neg (show ¬ (1 : Int) = 0 by decide), if_pos rfl]
  show (if 0 ≤ N.at' 1 then _ else if m.key.T < N.fl then _ else if hasK m.key N.q = true then _ else if hasK m.key N.ms = false then _ else _) = _
  rw [if_neg (by omega), if_neg (by omega), hq, if_neg (by decide), hms, if_pos rfl]
end Go.Proofs.YtbopajpmadlmhaaGreat
end
section
namespace Go.Proofs.YtbopajpmadlmhaaGreat
open Go Go.E
set_option maxRecDepth 100000
variable {e w : World} {L Q R : List HP} {K : KV} {S S2 : HP}

structure WOp where
  Kind : Int
  From' : Int
  T : Int
  I : NItem
def WOp.ns (o : WOp) : List Int := [o.Kind, o.From', o.T, o.I.Kind, o.I.m.key.T, o.I.m.key.From, o.I.m.key.Seq, o.I.m.To, o.I.m.Class, o.I.m.Body, o.I.Colour]
abbrev WOp.cs (o : WOp) : List Value := ints o.ns
def WOp.of (l : List Int) : WOp := ⟨l.getD 0 0, l.getD 1 0, l.getD 2 0, ⟨l.getD 3 0, ⟨⟨l.getD 4 0, l.getD 5 0, l.getD 6 0⟩, l.getD 7 0, l.getD 8 0, l.getD 9 0⟩, l.getD 10 0⟩⟩
theorem WOp.of_ns {l : List Int} (h : l.length = 11) : (WOp.of l).ns = l := by
  match l, h with
  | [_, _, _, _, _, _, _, _, _, _, _], _ => rfl
theorem WOp.of_cs {l : List Int} (h : l.length = 11) : (WOp.of l).cs = ints l := congrArg ints (WOp.of_ns h)
def WOp.wf (o : WOp) : Prop := ∀ m ∈ o.ns, (Lit.int .i64 m).wf = true
theorem WOp.wf.t {o : WOp} (h : o.wf) : In64 o.I.m.key.T := In64.of_wf (h _ (by simp [WOp.ns]))

section
variable {wd : Wd} {f : Nat} {fd : Fed} {N : WN} {k : Nat}
end
end Go.Proofs.YtbopajpmadlmhaaGreat
end
section
namespace Go.Proofs.YtbopajpmadlmhaaGreat
open Go Go.E
set_option maxRecDepth 100000
variable {e w : World} {L Q R : List HP} {K : KV} {S S2 : HP}

theorem small15_s {x : WdX} (i : Nat) (hi : L[i]? = some S) (hS : Sat e w L) (hr : ∀ g, S g → RdWd x g) (hk : ∀ w' (b : Bool), Sat e w' L → (b = true → x.short) → K (.bool b) w') : Cl prog 36 #[.agg x.cs.toArray] w K := by
  refine pacelinelaw15_small_calls ?_
  unfold pacelinelaw15_small
  refine al_s (cs := x.cs) hS rfl fun b w1 h1 => ?_
  have hno : ∀ w', Sat e w' (blk b 27 x.cs :: L) → K (.bool false) w' := fun w' h' => hk w' false h'.drop (fun h => by cases h)
  refine fld_at (ld1_at h1 0 rfl (v := x.pv) rfl ?_)
  refine lnS_rd h1 (i + 1) (by simpa using hi) (fun g hg => (hr g hg).par) ?_
  by_cases c1 : (50 : Int) < x.Parents.length
  · repeat (first | refine gd_tt ?_ | refine gd_ff ?_ | refine gd_tf ?_ | refine gd_ft ?_ | refine gd_u ?_ | refine pk_t ?_ | refine pk_f ?_ | refine iff_t ?_ | refine iff_f ?_ | refine not_t ?_ | refine not_f ?_ | refine beq_s ?_ | refine bne_s ?_ | refine ncP_p ?_ | refine nc_p ?_ | refine fld_at ?_ | refine xt_02 ?_ | refine xt_12 ?_ | refine xt_03 ?_ | refine xt_13 ?_ | refine xt_23 ?_ | refine eq_t (by omega) ?_ | refine eq_f (by omega) ?_ | refine ne_t (by omega) ?_ | refine ne_f (by omega) ?_ | refine lt_t (by omega) ?_ | refine lt_f (by omega) ?_ | refine gt_t (by omega) ?_ | refine gt_f (by omega) ?_ | refine ge_t (by omega) ?_ | refine ge_f (by omega) ?_ | refine le_t (by omega) ?_ | refine le_f (by omega) ?_)
    exact hno _ h1
  refine gt_f c1 (gd_ff (fld_at (gd_ff (ld1_at h1 0 rfl (v := x.fv) rfl (gd_ff ?_)))))
  refine lnS_rd h1 (i + 1) (by simpa using hi) (fun g hg => (hr g hg).feds) ?_
  by_cases c2 : (20 : Int) < x.Feds.length
  · repeat (first | refine gd_tt ?_ | refine gd_ff ?_ | refine gd_tf ?_ | refine gd_ft ?_ | refine gd_u ?_ | refine pk_t ?_ | refine pk_f ?_ | refine iff_t ?_ | refine iff_f ?_ | refine not_t ?_ | refine not_f ?_ | refine beq_s ?_ | refine bne_s ?_ | refine ncP_p ?_ | refine nc_p ?_ | refine fld_at ?_ | refine xt_02 ?_ | refine xt_12 ?_ | refine xt_03 ?_ | refine xt_13 ?_ | refine xt_23 ?_ | refine eq_t (by omega) ?_ | refine eq_f (by omega) ?_ | refine ne_t (by omega) ?_ | refine ne_f (by omega) ?_ | refine lt_t (by omega) ?_ | refine lt_f (by omega) ?_ | refine gt_t (by omega) ?_ | refine gt_f (by omega) ?_ | refine ge_t (by omega) ?_ | refine ge_f (by omega) ?_ | refine le_t (by omega) ?_ | refine le_f (by omega) ?_)
    exact hno _ h1
  refine gd_ff (gt_f c2 (pk_f (iff_f ?_)))
  rw [zero_66]
  refine lpi1 (fun q t w => ∃ j : Nat, j ≤ x.Feds.length ∧ t = .int .i64 j ∧ q = x.Feds.length - j ∧ (∀ f ∈ x.Feds.take j, f.short) ∧ Sat e w (blk b 27 x.cs :: L)) x.Feds.length ⟨0, Nat.zero_le _, rfl, rfl, by simp, h1⟩ ?_
  rintro q _ w g ⟨j, hj, rfl, rfl, hall, h2⟩ hg
  refine fld_at (ld1_at h2 0 rfl (v := x.fv) rfl ?_)
  refine lnS_rd h2 (i + 1) (by simpa using hi) (fun g hg => (hr g hg).feds) ?_
  refine lt_c (fun c => iff_t ?_) (fun c => iff_f ?_)
  · obtain ⟨fd, hf⟩ := get_of_lt (l := x.Feds) (j := j) (by omega)
    have hfm := List.mem_of_getElem? hf
    refine fld_at (ld1_at h2 0 rfl (v := x.fv) rfl ?_)
    refine ixS_rd h2 (i + 1) (by simpa using hi) (fun g hg => (hr g hg).feds) (fun _ => rfl) hf fun a ha => ?_
    refine ldN_of h2 (i + 1) (by simpa using hi) ha rfl ?_
    refine al_s (cs := [.int .i64 0, .int .i64 0, .int .i64 0, .slice none 0 0, .slice none 0 0, .slice none 0 0, .slice none 0 0]) h2 rfl fun t w5 h5 => ?_
    refine stN_at h5 0 rfl (vs := fd.cs) rfl rfl (by simp) (fed_cells i hi hS fun g hg => (hr g hg).fed fd hfm) (cs' := fd.cs) (by rfl) fun w6 h6 => ?_
    have hi6 : (blk t 66 fd.cs :: blk b 27 x.cs :: L)[i + 2]? = some S := by simpa using hi
    refine fld_at (ld1_at h6 0 rfl (v := fd.rv) rfl ?_)
    refine lnS_rd h6 (i + 2) hi6 (fun g hg => ((hr g hg).fed fd hfm).rules.s) ?_
    by_cases d1 : (60 : Int) < fd.Rules.length
    · repeat (first | refine gd_tt ?_ | refine gd_ff ?_ | refine gd_tf ?_ | refine gd_ft ?_ | refine gd_u ?_ | refine pk_t ?_ | refine pk_f ?_ | refine iff_t ?_ | refine iff_f ?_ | refine not_t ?_ | refine not_f ?_ | refine beq_s ?_ | refine bne_s ?_ | refine ncP_p ?_ | refine nc_p ?_ | refine fld_at ?_ | refine xt_02 ?_ | refine xt_12 ?_ | refine xt_03 ?_ | refine xt_13 ?_ | refine xt_23 ?_ | refine eq_t (by omega) ?_ | refine eq_f (by omega) ?_ | refine ne_t (by omega) ?_ | refine ne_f (by omega) ?_ | refine lt_t (by omega) ?_ | refine lt_f (by omega) ?_ | refine gt_t (by omega) ?_ | refine gt_f (by omega) ?_ | refine ge_t (by omega) ?_ | refine ge_f (by omega) ?_ | refine le_t (by omega) ?_ | refine le_f (by omega) ?_)
      exact hno _ h6.drop
    refine gt_f d1 (gd_ff (fld_at (gd_ff (ld1_at h6 0 rfl (v := fd.pv) rfl (gd_ff ?_)))))
    refine lnS_rd h6 (i + 2) hi6 (fun g hg => ((hr g hg).fed fd hfm).pubs) ?_
    by_cases d2 : (50 : Int) < fd.Pubs.length
    · repeat (first | refine gd_tt ?_ | refine gd_ff ?_ | refine gd_tf ?_ | refine gd_ft ?_ | refine gd_u ?_ | refine pk_t ?_ | refine pk_f ?_ | refine iff_t ?_ | refine iff_f ?_ | refine not_t ?_ | refine not_f ?_ | refine beq_s ?_ | refine bne_s ?_ | refine ncP_p ?_ | refine nc_p ?_ | refine fld_at ?_ | refine xt_02 ?_ | refine xt_12 ?_ | refine xt_03 ?_ | refine xt_13 ?_ | refine xt_23 ?_ | refine eq_t (by omega) ?_ | refine eq_f (by omega) ?_ | refine ne_t (by omega) ?_ | refine ne_f (by omega) ?_ | refine lt_t (by omega) ?_ | refine lt_f (by omega) ?_ | refine gt_t (by omega) ?_ | refine gt_f (by omega) ?_ | refine ge_t (by omega) ?_ | refine ge_f (by omega) ?_ | refine le_t (by omega) ?_ | refine le_f (by omega) ?_)
      exact hno _ h6.drop
    refine gd_ff (gt_f d2 (pk_f (gd_ff (fld_at (gd_ff (ld1_at h6 0 rfl (v := fd.sv) rfl (gd_ff ?_)))))))
    refine lnS_rd h6 (i + 2) hi6 (fun g hg => ((hr g hg).fed fd hfm).subs) ?_
    by_cases d3 : (50 : Int) < fd.Subs.length
    · repeat (first | refine gd_tt ?_ | refine gd_ff ?_ | refine gd_tf ?_ | refine gd_ft ?_ | refine gd_u ?_ | refine pk_t ?_ | refine pk_f ?_ | refine iff_t ?_ | refine iff_f ?_ | refine not_t ?_ | refine not_f ?_ | refine beq_s ?_ | refine bne_s ?_ | refine ncP_p ?_ | refine nc_p ?_ | refine fld_at ?_ | refine xt_02 ?_ | refine xt_12 ?_ | refine xt_03 ?_ | refine xt_13 ?_ | refine xt_23 ?_ | refine eq_t (by omega) ?_ | refine eq_f (by omega) ?_ | refine ne_t (by omega) ?_ | refine ne_f (by omega) ?_ | refine lt_t (by omega) ?_ | refine lt_f (by omega) ?_ | refine gt_t (by omega) ?_ | refine gt_f (by omega) ?_ | refine ge_t (by omega) ?_ | refine ge_f (by omega) ?_ | refine le_t (by omega) ?_ | refine le_f (by omega) ?_)
      exact hno _ h6.drop
    refine gd_ff (gt_f d3 (pk_f (gd_ff (fld_at (gd_ff (ld1_at h6 0 rfl (v := fd.iv) rfl (gd_ff ?_)))))))
    refine lnS_rd h6 (i + 2) hi6 (fun g hg => ((hr g hg).fed fd hfm).init) ?_
    by_cases d4 : (20 : Int) < fd.Init.length
    · repeat (first | refine gd_tt ?_ | refine gd_ff ?_ | refine gd_tf ?_ | refine gd_ft ?_ | refine gd_u ?_ | refine pk_t ?_ | refine pk_f ?_ | refine iff_t ?_ | refine iff_f ?_ | refine not_t ?_ | refine not_f ?_ | refine beq_s ?_ | refine bne_s ?_ | refine ncP_p ?_ | refine nc_p ?_ | refine fld_at ?_ | refine xt_02 ?_ | refine xt_12 ?_ | refine xt_03 ?_ | refine xt_13 ?_ | refine xt_23 ?_ | refine eq_t (by omega) ?_ | refine eq_f (by omega) ?_ | refine ne_t (by omega) ?_ | refine ne_f (by omega) ?_ | refine lt_t (by omega) ?_ | refine lt_f (by omega) ?_ | refine gt_t (by omega) ?_ | refine gt_f (by omega) ?_ | refine ge_t (by omega) ?_ | refine ge_f (by omega) ?_ | refine le_t (by omega) ?_ | refine le_f (by omega) ?_)
      exact hno _ h6.drop
    refine gd_ff (gt_f d4 (pk_f (iff_f ?_)))
    refine lpi1 (fun q t' w => ∃ n : Nat, n ≤ fd.Rules.length ∧ t' = .int .i64 n ∧ q = fd.Rules.length - n ∧ (∀ r ∈ fd.Rules.take n, r.Sends.length ≤ 1000) ∧ Sat e w (blk t 66 fd.cs :: blk b 27 x.cs :: L)) fd.Rules.length ⟨0, Nat.zero_le _, rfl, rfl, by simp, h6⟩ ?_
    rintro q _ w g2 ⟨n, hn, rfl, rfl, hall2, h7⟩ hg2
    refine fld_at (ld1_at h7 0 rfl (v := fd.rv) rfl ?_)
    refine lnS_rd h7 (i + 2) hi6 (fun g hg => ((hr g hg).fed fd hfm).rules.s) ?_
    refine lt_c (fun c3 => iff_t ?_) (fun c3 => iff_f ?_)
    · obtain ⟨r, hrn⟩ := get_of_lt (l := fd.Rules) (j := n) (by omega)
      have hrm := List.mem_of_getElem? hrn
      refine fld_at (ld1_at h7 0 rfl (v := fd.rv) rfl ?_)
      refine ixS_rd h7 (i + 2) hi6 (fun g hg => ((hr g hg).fed fd hfm).rules.s) (fun _ => rfl) hrn fun a ha => ?_
      refine fld_of ha fun a1 ha1 => ?_
      refine ld1_of h7 (i + 2) hi6 ha1 (v := r.sv) rfl ?_
      refine lnS_rd h7 (i + 2) hi6 (fun g hg => ((hr g hg).fed fd hfm).rules.e r hrm) ?_
      refine gt_c (fun c4 => iff_t (hno _ h7.drop)) (fun c4 => iff_f (inc_s (by omega) ?_))
      refine hg2 _ _ _ (by omega) ⟨n + 1, by omega, rfl, rfl, fun y hy => ?_, h7⟩
      rw [take_snoc hrn] at hy
      rcases List.mem_append.1 hy with h | h
      · exact hall2 y h
      · rw [List.mem_singleton.1 h]; omega
    · have en : n = fd.Rules.length := by omega
      rw [en, List.take_length] at hall2
      refine inc_s (by omega) ?_
      refine hg _ _ _ (by omega) ⟨j + 1, by omega, rfl, rfl, fun y hy => ?_, h7.drop⟩
      rw [take_snoc hf] at hy
      rcases List.mem_append.1 hy with h | h
      · exact hall y h
      · rw [List.mem_singleton.1 h]
        exact ⟨by omega, by omega, by omega, by omega, hall2⟩
  · have ej : j = x.Feds.length := by omega
    rw [ej, List.take_length] at hall
    exact hk _ true h2.drop fun _ => ⟨by omega, by omega, hall⟩

theorem sameItems_s {u v : Value} {l : List NItem} (i j : Nat) (hi : L[i]? = some S) (hj : L[j]? = some S2) (hS : Sat e w L) (hr : ∀ g, S g → rdS 8 NItem.cs u l g) (hr2 : ∀ g, S2 g → rdS 8 NItem.cs v l g) (hl : l.length ≤ 1000000)
    (hk : ∀ w', Sat e w' L → K (.bool true) w') : Cl prog 34 #[u, v] w K := by
  refine pacelinelaw15_sameItems_calls ?_
  unfold pacelinelaw15_sameItems
  refine lnS_rd hS i hi hr ?_
  refine lnS_rd hS j hj hr2 ?_
  refine ne_f rfl (iff_f ?_)
  refine lpi1 (fun q t w => ∃ n : Nat, n ≤ l.length ∧ t = .int .i64 n ∧ q = l.length - n ∧ Sat e w L) l.length ⟨0, Nat.zero_le _, rfl, rfl, hS⟩ ?_
  rintro q _ w g ⟨n, hn, rfl, rfl, h1⟩ hg
  refine lnS_rd h1 i hi hr ?_
  refine lt_c (fun c => iff_t ?_) (fun c => iff_f (hk _ h1))
  obtain ⟨y, hy⟩ := get_of_lt (l := l) (j := n) (by omega)
  refine dr_s h1 fun w2 h2 => ?_
  refine ixS_rd h2 i hi hr (fun _ => rfl) hy fun p hp => ldN_of h2 i hi hp rfl ?_
  refine ixS_rd h2 j hj hr2 (fun _ => rfl) hy fun p hp => ldN_of h2 j hj hp rfl ?_
  refine bO_ne (ns := [y.Kind, y.m.key.T, y.m.key.From, y.m.key.Seq, y.m.To, y.m.Class, y.m.Body, y.Colour]) (ms := [y.Kind, y.m.key.T, y.m.key.From, y.m.key.Seq, y.m.To, y.m.Class, y.m.Body, y.Colour]) eqT_43 agg_43 egt_43 (by decide) rfl ?_
  rw [beq_self_eq_true]
  refine iff_f (inc_s (by omega) ?_)
  exact hg _ _ _ (by omega) ⟨n + 1, by omega, rfl, rfl, h2⟩
theorem clkR_snoc {l : List Fed} {g : Fed} (hk : ¬ g.Kind = 0) : clkUp (l ++ [g]) = clkUp l ++ [-1] := by
  unfold clkUp
  rw [List.map_append, List.map_singleton, if_neg hk]
theorem clkR_snoc0 {l : List Fed} {g : Fed} (hk : g.Kind = 0) : clkUp (l ++ [g]) = (clkUp l ++ [-1]).set l.length 0 := by
  unfold clkUp
  rw [List.map_append, List.map_singleton, if_pos hk, List.set_append_right _ _ (by rw [List.length_map]; exact Nat.le_refl _), List.length_map, Nat.sub_self]
  rfl
theorem wr_New_s {x : WdX} {f : Int} (i : Nat) (hi : L[i]? = some S) (hS : Sat e w L) (hr : ∀ g, S g → RdWd x g) (hs : x.short)
    (hbad : (checkW x.w).2 ≠ 0 → ∀ w', Sat e w' L → K (.tuple #[.pointer none, .int .i64 (checkW x.w).2]) w')
    (harg : (checkW x.w).2 = 0 → warpMay x.w f = none → ∀ w', Sat e w' L → K (.tuple #[.pointer none, .int .i64 1]) w')
    (hok : (checkW x.w).2 = 0 → ∀ (n : Nat) fd, f = n → x.w.Feds[n]? = some fd → warpMay x.w f = some fd → ∀ r w', Sat e w' (IsWR r x n fd (nodeWI x.w) 0 :: L) → K (.tuple #[.pointer (some ⟨r, 0, none⟩), .int .i64 0]) w') :
    Cl prog 30 #[.agg x.cs.toArray, .int .i64 f] w K := by
  refine pacelineref15_New_calls ?_
  unfold pacelineref15_New
  refine al_s (cs := x.cs) hS rfl fun b w1 h1 => ?_
  refine ldN_at h1 0 (vs := x.cs) rfl (by rfl) rfl ?_
  refine ref08_Check_s (x := x) (i + 1) (by simpa using hi) h1 hr hs fun w2 h2 => ?_
  refine xt_02 (xt_12 ?_)
  refine ne_c (fun c1 => iff_t (hbad c1 _ h2.drop)) (fun c1 => iff_f ?_)
  have hwd := checkW_ok c1
  have hi2 : (blk b 27 x.cs :: L)[i + 1]? = some S := by simpa using hi
  have hwl : x.w.Feds.length = x.Feds.length := by simp [WdX.w]
  by_cases d1 : f < 0
  · refine lt_t d1 ?_
    repeat (first | refine gd_tt ?_ | refine gd_ff ?_ | refine gd_tf ?_ | refine gd_ft ?_ | refine gd_u ?_ | refine pk_t ?_ | refine pk_f ?_ | refine iff_t ?_ | refine iff_f ?_ | refine not_t ?_ | refine not_f ?_ | refine beq_s ?_ | refine bne_s ?_ | refine ncP_p ?_ | refine nc_p ?_ | refine fld_at ?_ | refine xt_02 ?_ | refine xt_12 ?_ | refine xt_03 ?_ | refine xt_13 ?_ | refine xt_23 ?_ | refine eq_t (by omega) ?_ | refine eq_f (by omega) ?_ | refine ne_t (by omega) ?_ | refine ne_f (by omega) ?_ | refine lt_t (by omega) ?_ | refine lt_f (by omega) ?_ | refine gt_t (by omega) ?_ | refine gt_f (by omega) ?_ | refine ge_t (by omega) ?_ | refine ge_f (by omega) ?_ | refine le_t (by omega) ?_ | refine le_f (by omega) ?_)
    exact harg c1 (if_neg (by omega)) _ h2.drop
  refine lt_f d1 (gd_ff (gd_ff (fld_at (gd_ff (ld1_at h2 0 rfl (v := x.fv) rfl (gd_ff ?_))))))
  refine lnS_rd h2 (i + 1) hi2 (fun g hg => (hr g hg).feds) ?_
  by_cases d2 : (x.Feds.length : Int) ≤ f
  · repeat (first | refine gd_tt ?_ | refine gd_ff ?_ | refine gd_tf ?_ | refine gd_ft ?_ | refine gd_u ?_ | refine pk_t ?_ | refine pk_f ?_ | refine iff_t ?_ | refine iff_f ?_ | refine not_t ?_ | refine not_f ?_ | refine beq_s ?_ | refine bne_s ?_ | refine ncP_p ?_ | refine nc_p ?_ | refine fld_at ?_ | refine xt_02 ?_ | refine xt_12 ?_ | refine xt_03 ?_ | refine xt_13 ?_ | refine xt_23 ?_ | refine eq_t (by omega) ?_ | refine eq_f (by omega) ?_ | refine ne_t (by omega) ?_ | refine ne_f (by omega) ?_ | refine lt_t (by omega) ?_ | refine lt_f (by omega) ?_ | refine gt_t (by omega) ?_ | refine gt_f (by omega) ?_ | refine ge_t (by omega) ?_ | refine ge_f (by omega) ?_ | refine le_t (by omega) ?_ | refine le_f (by omega) ?_)
    refine harg c1 ?_ _ h2.drop
    unfold warpMay
    rw [if_pos (by omega), List.getElem?_eq_none (by omega)]
    rfl
  refine gd_ff (ge_f (by omega) (pk_f ?_))
  obtain ⟨n, rfl⟩ : ∃ n : Nat, f = n := ⟨f.toNat, by omega⟩
  obtain ⟨fd, hfd⟩ := get_of_lt (l := x.Feds) (j := n) (by omega)
  have hfdm := List.mem_of_getElem? hfd
  have hwf' : x.w.Feds[n]? = some fd.f := by simp only [WdX.w]; rw [List.getElem?_map, hfd]; rfl
  have hmay : warpMay x.w n = if fd.Kind = 1 then some fd.f else none := by
    unfold warpMay
    rw [if_pos (by omega), Int.toNat_natCast, hwf']
    rfl
  refine gd_ff (fld_at (gd_ff (ld1_at h2 0 rfl (v := x.fv) rfl (gd_ff (gd_ff ?_)))))
  refine ixS_rd h2 (i + 1) hi2 (fun g hg => (hr g hg).feds) (fun _ => rfl) hfd fun p hp => ?_
  refine gd_ff (fld_of hp fun p1 hp1 => gd_ff (ld1_of h2 (i + 1) hi2 hp1 (v := .int .i64 fd.Kind) rfl ?_))
  refine gd_ff (ne_c (fun d3 => pk_f (iff_t (harg c1 (by rw [hmay, if_neg d3]) _ h2.drop))) (fun d3 => pk_f (iff_f ?_)))
  rw [if_pos d3] at hmay
  refine dr_s h2 fun w4 h4 => ?_
  refine ldN_at h4 0 (vs := x.cs) rfl (by rfl) rfl ?_
  refine fld_at (ld1_at h4 0 rfl (v := x.fv) rfl ?_)
  refine ixS_rd h4 (i + 1) hi2 (fun g hg => (hr g hg).feds) (fun _ => rfl) hfd fun p2 hp2 => ?_
  refine fld_of hp2 fun p3 hp3 => ld1_of h4 (i + 1) hi2 hp3 (v := .int .i64 fd.Start) rfl ?_
  refine fld_at (ld1_at h4 0 rfl (v := x.fv) rfl ?_)
  refine ixS_rd h4 (i + 1) hi2 (fun g hg => (hr g hg).feds) (fun _ => rfl) hfd fun p4 hp4 => ?_
  refine fld_of hp4 fun p5 hp5 => ld1_of h4 (i + 1) hi2 hp5 (v := fd.iv) rfl ?_
  refine lnS_rd h4 (i + 1) hi2 (fun g hg => ((hr g hg).fed fd hfdm).init) ?_
  have hn := hwd.n
  have o5 : ∀ {l' : List HP} {w'} {A : Prop} (j jb : Nat), Sat e w' l' → l'[j]? = some S → l'[jb]? = some (blk b 27 x.cs) → A →
      ((ld1 (.pointer (some p5)) w' (fun v' w'' => v' = fd.iv ∧ w'' = w')) ∧ ((ld1 (.pointer (some ⟨b, 0 + 1, none⟩)) w' (fun v' w'' => v' = x.fv ∧ w'' = w')) ∧ ((ld1 (.pointer (some p3)) w' (fun v' w'' => v' = .int .i64 fd.Start ∧ w'' = w')) ∧ ((ld1 (.pointer (some ⟨b, 0 + 1, none⟩)) w' (fun v' w'' => v' = x.fv ∧ w'' = w')) ∧ ((ldN 3 (.pointer (some ⟨b, 0, none⟩)) w' (fun v' w'' => v' = .agg x.cs.toArray ∧ w'' = w')) ∧ A))))) := fun j jb h' hj hb hA =>
    ⟨ld1_of h' j hj hp5 (v := fd.iv) rfl ⟨rfl, rfl⟩, ld1_at h' jb hb (v := x.fv) rfl ⟨rfl, rfl⟩, ld1_of h' j hj hp3 (v := .int .i64 fd.Start) rfl ⟨rfl, rfl⟩, ld1_at h' jb hb (v := x.fv) rfl ⟨rfl, rfl⟩, ldN_at h' jb hb (vs := x.cs) rfl (by rfl) ⟨rfl, rfl⟩, hA⟩
  refine ref03_New_s h4 fun q w5 h5 => o5 (i + 2) 1 h5 (by simpa using hi) rfl ?_
  refine ref13_New_s h5 fun p w6 h6 => o5 (i + 3) 2 h6 (by simpa using hi) rfl ?_
  refine ref14_New_s h6 fun g w7 h7 => o5 (i + 4) 3 h7 (by simpa using hi) rfl ?_
  refine bld_s (rws x n fd.Start fd.Init.length q p g (.slice none 0 0) (.slice none 0 0)) (by kernel_rfl) ?_
  refine al_s (cs := rws x n fd.Start fd.Init.length q p g (.slice none 0 0) (.slice none 0 0)) h7 rfl fun r w8 h8 => ?_
  have hxl : x.Feds.length ≤ 8 := by have := hn.2; omega
  have h9 := h8.own_nil 3 1 (intsK .i64)
  refine lpi1 (fun mm t9 w => ∃ (j : Nat) (cv : Value), j ≤ x.Feds.length ∧ t9 = .int .i64 j ∧ mm = x.Feds.length - j ∧ Sat e w (DN cv (clkUp ((x.Feds.take j).map FedX.f)) :: BR r x n fd.Start fd.Init.length q p g cv (.slice none 0 0) :: IsGateR g 0 [] :: IsPastR p 0 [] :: IsPR q 64 [] :: blk b 27 x.cs :: L)) x.Feds.length
    ⟨0, .slice none 0 0, Nat.zero_le _, rfl, rfl, h9⟩ ?_
  rintro mm _ w9 g1 ⟨j, cv, hj, rfl, rfl, h10⟩ hg1
  have hi6 : ∀ {A1 A2 A3 A4 A5 A6 : HP}, (A1 :: A2 :: A3 :: A4 :: A5 :: A6 :: L)[i + 6]? = some S := fun {_ _ _ _ _ _} => by simpa using hi
  refine fld_at (ld1_at h10 5 rfl (v := x.fv) rfl ?_)
  refine lnS_rd h10 (i + 6) hi6 (fun g hg => (hr g hg).feds) ?_
  refine lt_c (fun c => iff_t ?_) (fun c => iff_f ?_)
  · obtain ⟨fj, hfj⟩ := get_of_lt (l := x.Feds) (j := j) (by omega)
    have htl : ((x.Feds.take j).map FedX.f).length = j := by rw [List.length_map, List.length_take]; omega
    have htk : (x.Feds.take (j + 1)).map FedX.f = (x.Feds.take j).map FedX.f ++ [fj.f] := by rw [take_snoc hfj, List.map_append]; rfl
    have hcl : (clkUp ((x.Feds.take j).map FedX.f)).length = j := by unfold clkUp; rw [List.length_map]; exact htl
    refine J0.cut (fun w => ∃ cv', Sat e w (DN cv' (clkUp ((x.Feds.take (j + 1)).map FedX.f)) :: BR r x n fd.Start fd.Init.length q p g cv' (.slice none 0 0) :: IsGateR g 0 [] :: IsPastR p 0 [] :: IsPR q 64 [] :: blk b 27 x.cs :: L)) (fun k2 hk2 => ?_) ?_
    · refine ncP_p (fld_at (ld1_at h10 1 rfl (v := cv) rfl ?_))
      refine push1 te_24 (f := intsK .i64) (fun _ => rfl) int_flat' h10 (x := -1) rfl (by omega) fun cv' w10 h11 => ?_
      have q1 := h11.own_cells 0 rfl
      refine ncP_p (fld_at (stN_at h11 1 rfl (vs := [cv']) q1.1 rfl (Nat.le_of_ble_eq_true rfl) (fun c hc => by rw [List.mem_singleton.1 hc]; exact q1.2) (cs' := rws x n fd.Start fd.Init.length q p g cv' (.slice none 0 0)) (by rfl) fun w11 h12 => ?_))
      replace h12 : Sat e w11 (DN cv' (clkUp ((x.Feds.take j).map FedX.f) ++ [-1]) :: BR r x n fd.Start fd.Init.length q p g cv' (.slice none 0 0) :: IsGateR g 0 [] :: IsPastR p 0 [] :: IsPR q 64 [] :: blk b 27 x.cs :: L) := h12
      refine fld_at (ld1_at h12 5 rfl (v := x.fv) rfl ?_)
      refine ixS_rd h12 (i + 6) hi6 (fun g hg => (hr g hg).feds) (fun _ => rfl) hfj fun a ha => fld_of ha fun a1 ha1 => ld1_of h12 (i + 6) hi6 ha1 (v := .int .i64 fj.Kind) rfl ?_
      refine eq_c (fun c2 => iff_t ?_) (fun c2 => iff_f ?_)
      · refine ncP_p (fld_at (ld1_at h12 1 rfl (v := cv') rfl ?_))
        refine st_own' h12 0 rfl (fun _ => rfl) (by rw [List.length_append, hcl]; simp) (x := 0) rfl (int_flat' _) fun w12 h13 => ?_
        refine hk2 _ ⟨cv', ?_⟩
        rw [htk, clkR_snoc0 (show fj.f.Kind = 0 from c2), htl]
        exact h13
      · refine hk2 _ ⟨cv', ?_⟩
        rw [htk, clkR_snoc (show ¬ fj.f.Kind = 0 from c2)]
        exact h12
    · rintro w10 ⟨cv', h11⟩
      refine inc_s (by omega) ?_
      exact hg1 _ _ _ (by omega) ⟨j + 1, cv', by omega, rfl, rfl, h11⟩
  · have ej : j = x.Feds.length := by omega
    rw [ej, List.take_length] at h10
    have h11 := h10.own_nil 45 7 Done.cs
    refine hok c1 n fd.f rfl hwf' hmay r _ (wr_mk (N := nodeWI x.w) (x := x) (q := q) (p := p) (g := g) (cv := cv) (lv := .slice none 0 0) (WOk.init hwd hwf' d3) ?_)
    exact h11.selR [_, _, _, _, _, _, _] [_, _, _, _, _, _] [2, 5, 4, 3, 1, 0] (by decide) rfl
end Go.Proofs.YtbopajpmadlmhaaGreat
end
section
namespace Go.Proofs.YtbopajpmadlmhaaGreat
open Go Go.E
set_option maxRecDepth 100000
variable {e w : World} {L Q R : List HP} {K : KV} {S S2 : HP}

theorem stepI_few {x : WdX} {n k : Nat} {fd : Fed} {N : WN} (h : WOk x.w n fd N k) : (stepI x.w (stepEn x.w n fd N)).length ≤ 1000 := by
  unfold stepI
  rw [List.length_map]
  have h1 := (ent_outs h.may h.hfd (N.now fd) (hdM N.q)).1
  have h2 := List.length_filter_le (fun m => boldB x.w m.To) (stepEn x.w n fd N).outs
  unfold stepEn at h2 ⊢
  omega
theorem stepW_both {a b n k i : Nat} {x : WdX} {fd : Fed} {N : WN} {K1 : KV} (hk0 : k ≤ 1000) (hi : Q[i]? = some S) (hr : ∀ g, S g → RdWd x g) (hs : x.short) (hS : Sat e w (IsWarp a x.w n fd N k :: IsWR b x n fd N k :: Q))
    (hK : ∀ (d : Done) (c : Int) (ms : List NItem) (S1 : HP) v (N' : WN) (k' : Nat) (w' : World), ms.length ≤ 1000 → k' ≤ k + 1 → (∀ g, S1 g → rdS 8 NItem.cs v ms g) → Sat e w' (S1 :: IsWarp a x.w n fd N' k' :: IsWR b x n fd N k :: Q) →
      (∀ (w2 : World) (X : List HP) (K2 : KV), Sat e w2 (IsWR b x n fd N k :: X ++ Q) → (∀ (S2 : HP) u w3, (∀ g, S2 g → rdS 8 NItem.cs u ms g) → Sat e w3 (S2 :: IsWR b x n fd N' k' :: X ++ Q) → K2 (.tuple #[.agg d.cs.toArray, u, .int .i64 c]) w3) → Cl prog 32 #[.pointer (some ⟨b, 0, none⟩)] w2 K2) →
      K1 (.tuple #[.agg d.cs.toArray, v, .int .i64 c]) w') : Cl prog 15 #[.pointer (some ⟨a, 0, none⟩)] w K1 := by
  have hok := warp_ok 0 hS rfl
  refine warp_Step_s hk0 hS (fun hno w1 h1 => ?_) (fun hyes v w1 h1 => ?_)
  · refine hK Done.zero _ [] (ownS 43 8 NItem.cs (.slice none 0 0) []) _ N k w1 (by simp) (by omega) (fun g hg => own_rd hg) (h1.own_nil 43 8 NItem.cs) fun w2 X K2 h2 hk2 => ?_
    refine wr_Step_s hk0 (X.length + i) (by show (X ++ Q)[X.length + i]? = some S; rw [List.getElem?_append_right (by omega)]; simpa using hi) hr hs h2 (fun _ w3 h3 => ?_) (fun h => absurd h hno)
    exact hk2 (ownS 43 8 NItem.cs (.slice none 0 0) []) _ _ (fun g hg => own_rd hg) (h3.own_nil 43 8 NItem.cs)
  · refine hK (doneE (stepEn x.w n fd N)) 0 (stepI x.w (stepEn x.w n fd N)) _ v (stepWN N) (k + 1) w1 (stepI_few hok) (Nat.le_refl _) (fun g hg => own_rd hg) h1 fun w2 X K2 h2 hk2 => ?_
    refine wr_Step_s hk0 (X.length + i) (by show (X ++ Q)[X.length + i]? = some S; rw [List.getElem?_append_right (by omega)]; simpa using hi) hr hs h2 (fun h => absurd hyes h) (fun _ u w3 h3 => ?_)
    exact hk2 _ u _ (fun g hg => own_rd hg) h3
theorem commitW_both {a b n k : Nat} {t : Int} {x : WdX} {fd : Fed} {N : WN} {K1 : KV} (hk0 : k ≤ 1000) (hS : Sat e w (IsWarp a x.w n fd N k :: IsWR b x n fd N k :: Q))
    (hK : ∀ (ds : List Done) (c : Int) (ms : List Msg) (S1 S2 : HP) v u (N' : WN) (w' : World), ds.length ≤ 1000 → ms.length ≤ 1000000 → (∀ g, S1 g → rdS 7 Done.cs v ds g) → (∀ g, S2 g → rdS 6 Msg.cs u ms g) → Sat e w' (S1 :: S2 :: IsWarp a x.w n fd N' k :: IsWR b x n fd N k :: Q) →
      (∀ (w2 : World) (X : List HP) (K2 : KV), Sat e w2 (IsWR b x n fd N k :: X ++ Q) → (∀ (S3 S4 : HP) v' u' w3, (∀ g, S3 g → rdS 7 Done.cs v' ds g) → (∀ g, S4 g → rdS 6 Msg.cs u' ms g) → Sat e w3 (S3 :: S4 :: IsWR b x n fd N' k :: X ++ Q) → K2 (.tuple #[v', u', .int .i64 c]) w3) → Cl prog 33 #[.pointer (some ⟨b, 0, none⟩), .int .i64 t] w2 K2) →
      K1 (.tuple #[v, u, .int .i64 c]) w') : Cl prog 20 #[.pointer (some ⟨a, 0, none⟩), .int .i64 t] w K1 := by
  have hok := warp_ok 0 hS rfl
  refine warp_Commit_s hk0 hS (fun hno w1 h1 => ?_) (fun hyes v u w1 h1 => ?_)
  · refine hK [] _ [] (ownS 45 7 Done.cs (.slice none 0 0) []) (ownS 37 6 Msg.cs (.slice none 0 0) []) _ _ N w1 (by simp) (by simp) (fun g hg => own_rd hg) (fun g hg => own_rd hg) ((h1.own_nil 37 6 Msg.cs).own_nil 45 7 Done.cs) fun w2 X K2 h2 hk2 => ?_
    refine wr_Commit_s hk0 h2 (fun _ w3 h3 => ?_) (fun h => absurd h hno)
    exact hk2 (ownS 45 7 Done.cs (.slice none 0 0) []) (ownS 37 6 Msg.cs (.slice none 0 0) []) _ _ _ (fun g hg => own_rd hg) (fun g hg => own_rd hg) ((h3.own_nil 37 6 Msg.cs).own_nil 45 7 Done.cs)
  · have hl : ((settledE x.w n fd N t).map doneE).length ≤ 1000 := by
      unfold settledE
      rw [List.length_map, runE_len]
      have := hok.ml
      exact Nat.le_trans (List.length_filter_le _ _) (by omega)
    have hl2 : (openedW x.w n fd N t).length ≤ 1000000 := by
      unfold openedW settledE
      rw [List.length_map]
      have h1 := gate_le hok.may hok.hfd (earlyM t N.ms) (N.base fd)
      have h2 : (earlyM t N.ms).length ≤ N.ms.length := List.length_filter_le _ _
      have := hok.ml
      omega
    refine hK _ 0 _ _ _ v u (commitWN N t) w1 hl hl2 (fun g hg => own_rd hg) (fun g hg => own_rd hg) h1 fun w2 X K2 h2 hk2 => ?_
    refine wr_Commit_s hk0 h2 (fun h => absurd hyes h) (fun _ v' u' w3 h3 => ?_)
    exact hk2 _ _ v' u' _ (fun g hg => own_rd hg) (fun g hg => own_rd hg) h3
theorem hear_few {x : WdX} {n k : Nat} {fd : Fed} {N : WN} (h : WOk x.w n fd N k) (j : Int) (i : NItem) : (hearW x.w n fd N j i).out.length ≤ 1000000 := by
  have h1 : (undoI x.w (goneE x.w n fd N i.m.key)).length ≤ 100000 := by
    unfold undoI
    have h2 := flat_le (antiE x.w) 24 (goneE x.w n fd N i.m.key).reverse fun y hy => by
      have h3 := antiE_len x.w y
      obtain ⟨b', he⟩ := (runE_mem (List.mem_reverse.1 hy)).2
      have h4 := (ent_outs h.may h.hfd b' y.m).1
      rw [← he] at h4
      omega
    have h5 : (goneE x.w n fd N i.m.key).reverse.length ≤ 64 := by
      rw [List.length_reverse]
      unfold goneE
      rw [runE_len]
      exact Nat.le_trans (List.length_filter_le _ _) h.ml
    omega
  have h6 : ∀ {c : Prop} [Decidable c] {a b : HR}, a.out.length ≤ 1000000 → b.out.length ≤ 1000000 → (if c then a else b).out.length ≤ 1000000 := by
    intro c _ a b ha hb
    split
    · exact ha
    · exact hb
  have z : ∀ {er : Int} {N : WN}, (⟨er, [], N⟩ : HR).out.length ≤ 1000000 := fun {_ _} => Nat.zero_le _
  have u : ∀ {er : Int} {N' : WN}, (⟨er, undoI x.w (goneE x.w n fd N i.m.key), N'⟩ : HR).out.length ≤ 1000000 := fun {_ _} => Nat.le_trans h1 (by omega)
  unfold hearW
  exact h6 z (h6 (h6 z (h6 z z)) (h6 (h6 z (h6 z (h6 z u))) (h6 (h6 z (h6 z (h6 z (h6 z (h6 z u))))) z)))

theorem warpScript_s {x : WdX} {f : Int} {v : Value} {l : List WOp} (hS : Sat e w (S :: Q)) (hr : ∀ g, S g → RdWd x g) (hwf : x.wf) (_hf : (Lit.int .i64 f).wf = true) (hr1 : ∀ g, S g → rdS 11 WOp.cs v l g) (hw : ∀ x ∈ l, ∀ m ∈ x.ns, (Lit.int .i64 m).wf = true) (hk : ∀ w', Sat e w' (S :: Q) → K (.bool true) w') :
    Cl prog 9 #[.agg x.cs.toArray, .int .i64 f, v] w K := by
  refine pacelinelaw15_WarpScript_calls ?_
  unfold pacelinelaw15_WarpScript
  refine al_s (cs := x.cs) hS rfl fun b w1 h1 => ?_
  refine ldN_at h1 0 (vs := x.cs) rfl (by rfl) rfl ?_
  refine small15_s (x := x) 1 rfl h1 hr fun w2 q h2 hq => ?_
  cases q with
  | false =>
    refine not_f ?_
    repeat (first | refine gd_tt ?_ | refine gd_ff ?_ | refine gd_tf ?_ | refine gd_ft ?_ | refine gd_u ?_ | refine pk_t ?_ | refine pk_f ?_ | refine iff_t ?_ | refine iff_f ?_ | refine not_t ?_ | refine not_f ?_ | refine beq_s ?_ | refine bne_s ?_ | refine ncP_p ?_ | refine nc_p ?_ | refine fld_at ?_ | refine xt_02 ?_ | refine xt_12 ?_ | refine xt_03 ?_ | refine xt_13 ?_ | refine xt_23 ?_ | refine eq_t (by omega) ?_ | refine eq_f (by omega) ?_ | refine ne_t (by omega) ?_ | refine ne_f (by omega) ?_ | refine lt_t (by omega) ?_ | refine lt_f (by omega) ?_ | refine gt_t (by omega) ?_ | refine gt_f (by omega) ?_ | refine ge_t (by omega) ?_ | refine ge_f (by omega) ?_ | refine le_t (by omega) ?_ | refine le_f (by omega) ?_)
    exact shown15_s h2 fun w3 h3 => hk _ h3.drop
  | true =>
    have hs := hq rfl
    refine not_t (gd_ff (gd_ff (lnS_rd h2 1 rfl hr1 (gd_ff (gt_c (fun c8 => ?_) (fun c8 => ?_))))))
    · repeat (first | refine gd_tt ?_ | refine gd_ff ?_ | refine gd_tf ?_ | refine gd_ft ?_ | refine gd_u ?_ | refine pk_t ?_ | refine pk_f ?_ | refine iff_t ?_ | refine iff_f ?_ | refine not_t ?_ | refine not_f ?_ | refine beq_s ?_ | refine bne_s ?_ | refine ncP_p ?_ | refine nc_p ?_ | refine fld_at ?_ | refine xt_02 ?_ | refine xt_12 ?_ | refine xt_03 ?_ | refine xt_13 ?_ | refine xt_23 ?_ | refine eq_t (by omega) ?_ | refine eq_f (by omega) ?_ | refine ne_t (by omega) ?_ | refine ne_f (by omega) ?_ | refine lt_t (by omega) ?_ | refine lt_f (by omega) ?_ | refine gt_t (by omega) ?_ | refine gt_f (by omega) ?_ | refine ge_t (by omega) ?_ | refine ge_f (by omega) ?_ | refine le_t (by omega) ?_ | refine le_f (by omega) ?_)
      exact shown15_s h2 fun w3 h3 => hk _ h3.drop
    refine pk_f (iff_f ?_)
    refine ldN_at h2 0 (vs := x.cs) rfl (by rfl) rfl ?_
    refine warp_New_s (x := x) (f := f) 1 rfl h2 hr hwf hs (fun hbad w3 h3 => ?_) (fun hok hno w3 h3 => ?_) (fun hok n fd hfn hfd hmay r w3 h3 => ?_)
    · refine xt_02 (xt_12 ?_)
      refine ldN_at h3 0 (vs := x.cs) rfl (by rfl) rfl ?_
      refine wr_New_s (x := x) (f := f) 1 rfl h3 hr hs (fun _ w4 h4 => ?_) (fun hok _ _ _ => absurd hok hbad) (fun hok _ _ _ _ _ _ _ _ => absurd hok hbad)
      refine xt_02 (xt_12 (ne_f rfl (gd_ff (gd_ff (bnp_n (gd_ff (gd_ff (bnp_n (gd_ff (bne_s (pk_f (gd_ff (shown15_s h4 fun w5 h5 => ?_)))))))))))))
      repeat (first | refine gd_tt ?_ | refine gd_ff ?_ | refine gd_tf ?_ | refine gd_ft ?_ | refine gd_u ?_ | refine pk_t ?_ | refine pk_f ?_ | refine iff_t ?_ | refine iff_f ?_ | refine not_t ?_ | refine not_f ?_ | refine beq_s ?_ | refine bne_s ?_ | refine ncP_p ?_ | refine nc_p ?_ | refine fld_at ?_ | refine xt_02 ?_ | refine xt_12 ?_ | refine xt_03 ?_ | refine xt_13 ?_ | refine xt_23 ?_ | refine eq_t (by omega) ?_ | refine eq_f (by omega) ?_ | refine ne_t (by omega) ?_ | refine ne_f (by omega) ?_ | refine lt_t (by omega) ?_ | refine lt_f (by omega) ?_ | refine gt_t (by omega) ?_ | refine gt_f (by omega) ?_ | refine ge_t (by omega) ?_ | refine ge_f (by omega) ?_ | refine le_t (by omega) ?_ | refine le_f (by omega) ?_)
      refine bnp_n (iff_t ?_)
      exact hk _ h5.drop
    · refine xt_02 (xt_12 ?_)
      refine ldN_at h3 0 (vs := x.cs) rfl (by rfl) rfl ?_
      refine wr_New_s (x := x) (f := f) 1 rfl h3 hr hs (fun hbad => absurd hok hbad) (fun _ _ w4 h4 => ?_) (fun _ n fd _ _ hm _ _ _ => by rw [hno] at hm; cases hm)
      refine xt_02 (xt_12 (ne_f rfl (gd_ff (gd_ff (bnp_n (gd_ff (gd_ff (bnp_n (gd_ff (bne_s (pk_f (gd_ff (shown15_s h4 fun w5 h5 => ?_)))))))))))))
      repeat (first | refine gd_tt ?_ | refine gd_ff ?_ | refine gd_tf ?_ | refine gd_ft ?_ | refine gd_u ?_ | refine pk_t ?_ | refine pk_f ?_ | refine iff_t ?_ | refine iff_f ?_ | refine not_t ?_ | refine not_f ?_ | refine beq_s ?_ | refine bne_s ?_ | refine ncP_p ?_ | refine nc_p ?_ | refine fld_at ?_ | refine xt_02 ?_ | refine xt_12 ?_ | refine xt_03 ?_ | refine xt_13 ?_ | refine xt_23 ?_ | refine eq_t (by omega) ?_ | refine eq_f (by omega) ?_ | refine ne_t (by omega) ?_ | refine ne_f (by omega) ?_ | refine lt_t (by omega) ?_ | refine lt_f (by omega) ?_ | refine gt_t (by omega) ?_ | refine gt_f (by omega) ?_ | refine ge_t (by omega) ?_ | refine ge_f (by omega) ?_ | refine le_t (by omega) ?_ | refine le_f (by omega) ?_)
      refine bnp_n (iff_t ?_)
      exact hk _ h5.drop
    · refine xt_02 (xt_12 ?_)
      refine ldN_at h3 1 (vs := x.cs) rfl (by rfl) rfl ?_
      refine wr_New_s (x := x) (f := f) 2 rfl h3 hr hs (fun hbad => absurd hok hbad) (fun _ hno => by rw [hmay] at hno; cases hno) (fun _ n2 fd2 hfn2 hfd2 _ r2 w4 h4 => ?_)
      have hn2 : n2 = n := by omega
      subst hn2
      rw [hfd] at hfd2
      cases hfd2
      refine xt_02 (xt_12 (ne_f rfl (gd_ff (gd_ff (bnp_s _ (gd_ff (gd_ff (bnp_s _ (gd_ff (bne_s (pk_f (gd_ff (shown15_s h4 fun w5 h5 => ?_)))))))))))))
      repeat (first | refine gd_tt ?_ | refine gd_ff ?_ | refine gd_tf ?_ | refine gd_ft ?_ | refine gd_u ?_ | refine pk_t ?_ | refine pk_f ?_ | refine iff_t ?_ | refine iff_f ?_ | refine not_t ?_ | refine not_f ?_ | refine beq_s ?_ | refine bne_s ?_ | refine ncP_p ?_ | refine nc_p ?_ | refine fld_at ?_ | refine xt_02 ?_ | refine xt_12 ?_ | refine xt_03 ?_ | refine xt_13 ?_ | refine xt_23 ?_ | refine eq_t (by omega) ?_ | refine eq_f (by omega) ?_ | refine ne_t (by omega) ?_ | refine ne_f (by omega) ?_ | refine lt_t (by omega) ?_ | refine lt_f (by omega) ?_ | refine gt_t (by omega) ?_ | refine gt_f (by omega) ?_ | refine ge_t (by omega) ?_ | refine ge_f (by omega) ?_ | refine le_t (by omega) ?_ | refine le_f (by omega) ?_)
      refine bnp_s _ (iff_f ?_)
      generalize nodeWI x.w = N at h5
      refine lpi1 (fun q t11 w => ∃ (j : Nat) (N : WN) (k : Nat), j ≤ l.length ∧ t11 = .int .i64 j ∧ q = l.length - j ∧ k ≤ j ∧ Sat e w (IsWarp r x.w n2 fd N k :: IsWR r2 x n2 fd N k :: blk b 27 x.cs :: S :: Q)) l.length ⟨0, N, 0, Nat.zero_le _, rfl, rfl, Nat.le_refl _, h5.swap⟩ ?_
      rintro q _ w g1 ⟨j, N, k, hj, rfl, rfl, hkj, h6⟩ hg1
      refine lnS_rd h6 3 rfl hr1 ?_
      refine lt_c (fun c2 => iff_t ?_) (fun c2 => iff_f ?_)
      · obtain ⟨o, ho⟩ := get_of_lt (l := l) (j := j) (by omega)
        have hom := List.mem_of_getElem? ho
        have ht64 : In64 o.I.m.key.T := WOp.wf.t (hw o hom)
        refine ixS_rd h6 3 rfl hr1 (fun _ => rfl) ho fun p hp => ldN_of h6 3 rfl hp rfl ?_
        rw [zero_70, zero_45]
        refine al_s (cs := ints [0, 0, 0, 0, 0, 0, 0, 0, 0, 0, 0]) h6 rfl fun t12 w7 h7 => ?_
        refine stN_at h7 0 rfl (vs := o.cs) rfl rfl (by decide) (ints_flat _) (cs' := o.cs) (by rfl) fun w8 h8 => ?_
        replace h8 : Sat e w8 (blk t12 70 o.cs :: IsWarp r x.w n2 fd N k :: IsWR r2 x n2 fd N k :: blk b 27 x.cs :: S :: Q) := h8
        have hWk := warp_ok 1 h8 rfl
        refine fld_at (ld1_at h8 0 rfl (v := .int .i64 o.Kind) rfl ?_)
        refine J0.cut (fun w => ∃ (N : WN) (k : Nat), k ≤ j + 1 ∧ Sat e w (IsWarp r x.w n2 fd N k :: IsWR r2 x n2 fd N k :: blk b 27 x.cs :: S :: Q)) (fun k2 hcut => ?_) ?_
        · refine eq_c (fun c3 => iff_t ?_) (fun c3 => iff_f (eq_c (fun c4 => iff_t ?_) (fun c4 => iff_f (eq_c (fun c5 => iff_t ?_) (fun c5 => iff_f ?_)))))
          · refine fld_at (ld1_at h8 0 rfl (v := .int .i64 o.From') rfl ?_)
            refine fld_at (ldN_at h8 0 (vs := o.I.cs) rfl (by rfl) rfl ?_)
            refine warp_Hear_s (i := o.I) ht64 (h8.pick 1 rfl) fun v1 w10 h10 => ?_
            refine xt_02 (xt_12 ?_)
            replace h10 : Sat e w10 (DI v1 (hearW x.w n2 fd N o.From' o.I).out :: IsWarp r x.w n2 fd (hearW x.w n2 fd N o.From' o.I).N k :: blk t12 70 o.cs :: IsWR r2 x n2 fd N k :: blk b 27 x.cs :: S :: Q) := h10
            refine fld_at (ld1_at h10 2 rfl (v := .int .i64 o.From') rfl ?_)
            refine fld_at (ldN_at h10 2 (vs := o.I.cs) rfl (by rfl) rfl ?_)
            refine wr_Hear_s (i := o.I) 4 rfl hr (h10.pick 3 rfl) fun v2 w11 h11 => ?_
            refine xt_02 (xt_12 (ne_f rfl (gd_ff (gd_ff (gd_ff ?_)))))
            replace h11 : Sat e w11 (DI v2 (hearW x.w n2 fd N o.From' o.I).out :: IsWR r2 x n2 fd (hearW x.w n2 fd N o.From' o.I).N k :: DI v1 (hearW x.w n2 fd N o.From' o.I).out :: IsWarp r x.w n2 fd (hearW x.w n2 fd N o.From' o.I).N k :: blk t12 70 o.cs :: blk b 27 x.cs :: S :: Q) := h11
            refine sameItems_s 2 0 rfl rfl h11 (fun g hg => own_rd hg) (fun g hg => own_rd hg) (hear_few hWk _ _) fun w12 h12 => ?_
            refine gd_ff (not_t (pk_f (iff_f (hcut _ ⟨(hearW x.w n2 fd N o.From' o.I).N, k, by omega, ?_⟩))))
            exact h12.selR [_, _, _, _, _] [_, _] [3, 1] (by decide) rfl
          · refine stepW_both (i := 2) (by omega) rfl hr hs (h8.selR [_, _, _, _] [_, _, _, _] [1, 2, 0, 3] (by decide) rfl) fun d c ms S1 v1 N' k' w9 hms hk' hrd h9 href => ?_
            refine xt_03 (xt_13 (xt_23 ?_))
            refine al_s (cs := Done.zero.cs) h9 rfl fun t17 w10 h10 => ?_
            refine stN_at h10 0 rfl (vs := d.cs) rfl rfl (Nat.le_of_ble_eq_true rfl) (ints_flat _) (cs' := d.cs) (by rfl) fun w11 h11 => ?_
            replace h11 : Sat e w11 (blk t17 45 d.cs :: S1 :: IsWarp r x.w n2 fd N' k' :: IsWR r2 x n2 fd N k :: blk t12 70 o.cs :: blk b 27 x.cs :: S :: Q) := h11
            refine href _ [_, _, _] _ (h11.selR [_, _, _, _] [_, _, _, _] [3, 0, 1, 2] (by decide) rfl) fun S2 u w12 hrd2 h12 => ?_
            replace h12 : Sat e w12 (S2 :: IsWR r2 x n2 fd N' k' :: blk t17 45 d.cs :: S1 :: IsWarp r x.w n2 fd N' k' :: blk t12 70 o.cs :: blk b 27 x.cs :: S :: Q) := h12
            refine xt_03 (xt_13 (xt_23 ?_))
            refine al_s (cs := Done.zero.cs) h12 rfl fun t20 w13 h13 => ?_
            refine stN_at h13 0 rfl (vs := d.cs) rfl rfl (Nat.le_of_ble_eq_true rfl) (ints_flat _) (cs' := d.cs) (by rfl) fun w14 h14 => ?_
            refine ldN_at h14 3 (vs := d.cs) rfl (by rfl) rfl ?_
            refine ldN_at h14 0 (vs := d.cs) rfl (by rfl) rfl ?_
            refine bO_ne (ns := d.ns) (ms := d.ns) eqT_45 agg_45 egt_45 (by decide) rfl ?_
            rw [beq_self_eq_true]
            refine gd_ff (gd_ff (gd_ff (ne_f rfl (pk_f (gd_ff (gd_ff (gd_ff ?_)))))))
            refine sameItems_s 4 1 rfl rfl h14 hrd hrd2 (by omega) fun w15 h15 => ?_
            refine gd_ff (not_t (pk_f (iff_f (hcut _ ⟨N', k', by omega, ?_⟩))))
            exact h15.selR [_, _, _, _, _, _, _] [_, _] [5, 2] (by decide) rfl
          · refine fld_at (ld1_at h8 0 rfl (v := .int .i64 o.T) rfl ?_)
            refine commitW_both (by omega) (h8.selR [_, _, _] [_, _, _] [1, 2, 0] (by decide) rfl) fun ds c ms S1 S1' v1 u1 N' w9 hds hms hrd hrd' h9 href => ?_
            refine xt_03 (xt_13 (xt_23 ?_))
            replace h9 : Sat e w9 (S1 :: S1' :: IsWarp r x.w n2 fd N' k :: IsWR r2 x n2 fd N k :: blk t12 70 o.cs :: blk b 27 x.cs :: S :: Q) := h9
            refine fld_at (ld1_at h9 4 rfl (v := .int .i64 o.T) rfl ?_)
            refine href _ [_, _, _] _ (h9.selR [_, _, _, _] [_, _, _, _] [3, 0, 1, 2] (by decide) rfl) fun S2 S2' v2 u2 w12 hrd2 hrd2' h12 => ?_
            replace h12 : Sat e w12 (S2 :: S2' :: IsWR r2 x n2 fd N' k :: S1 :: S1' :: IsWarp r x.w n2 fd N' k :: blk t12 70 o.cs :: blk b 27 x.cs :: S :: Q) := h12
            refine xt_03 (xt_13 (xt_23 ?_))
            refine ne_f rfl (gd_ff (gd_ff (gd_ff ?_)))
            refine Same15_s 3 0 rfl rfl h12 hrd hrd2 (by omega) fun w13 h13 => ?_
            refine gd_ff (not_t (pk_f (gd_ff (gd_ff (gd_ff ?_)))))
            refine same15_s 4 1 rfl rfl h13 hrd' hrd2' hms fun w14 h14 => ?_
            refine gd_ff (not_t (pk_f (iff_f (hcut _ ⟨N', k, by omega, ?_⟩))))
            exact h14.selR [_, _, _, _, _, _, _] [_, _] [5, 2] (by decide) rfl
          · exact hcut _ ⟨N, k, by omega, h8.drop⟩
        · rintro w' ⟨N', k', hk', h'⟩
          have hok' := warp_ok 0 h' rfl
          have hq64 := hok'.ql
          refine dr_s h' fun w9 h9 => ?_
          obtain ⟨q, p, g, cv, lv, hWk, h10⟩ := wr_of h9.swap
          refine ncP_p (fld_at (ld1_at h10 0 rfl (v := .int .i64 (N'.now fd).1) rfl ?_))
          refine warp_State_s h9 ?_
          refine ⟨ld1_at h10 0 rfl (v := .int .i64 (N'.now fd).1) rfl ⟨rfl, rfl⟩, ?_⟩
          refine ne_f rfl (gd_ff (gd_ff (gd_ff (warp_Floor_s h9 (gd_ff (wr_Floor_s h9.swap (gd_ff (ne_f rfl (pk_f ?_)))))))))
          refine gd_ff (gd_ff (gd_ff (warp_Ahead_s h9 (gd_ff (wr_Ahead_s h9.swap (gd_ff (ne_f rfl (pk_f ?_))))))))
          refine gd_ff (gd_ff (gd_ff (warp_Local_s h9 fun w10 h11 => gd_ff (wr_Local_s h11.swap fun w11 h12 => gd_ff (ne_f rfl (pk_f ?_))))))
          refine gd_ff (gd_ff (gd_ff (warp_Promise_s h12.swap fun w12 h13 => gd_ff (wr_Promise_s 2 rfl hr h13.swap fun w13 h14 => gd_ff (ne_f rfl (pk_f ?_))))))
          refine gd_ff (gd_ff (gd_ff (warp_Waiting_s h14.swap fun v1 w14 h15 => gd_ff (wr_Waiting_s (h15.pick 2 rfl) fun v2 w15 h16 => ?_))))
          refine gd_ff (same15_s 2 0 rfl rfl h16 (fun g hg => own_rd hg) (fun g hg => own_rd hg) (by omega) fun w16 h17 => ?_)
          refine gd_ff (not_t (pk_f (iff_f (inc_s (by omega) ?_))))
          refine hg1 _ _ _ (by omega) ⟨j + 1, N', k', by omega, rfl, rfl, hk', ?_⟩
          exact h17.selR [_, _, _, _] [_, _] [3, 1] (by decide) rfl
      · have hWk := warp_ok 0 h6 rfl
        have hlf := log_few hWk
        refine warp_Log_s (by omega) h6 fun v1 w7 h7 => ?_
        refine wr_Log_s (by omega) (h7.pick 2 rfl) fun v2 w8 h8 => ?_
        refine Same15_s 2 0 rfl rfl h8 (fun g hg => own_rd hg) (fun g hg => own_rd hg) (by omega) fun w9 h9 => ?_
        exact hk _ (h9.selR [_, _, _, _, _, _] [_] [5] (by decide) rfl)
end Go.Proofs.YtbopajpmadlmhaaGreat
end
