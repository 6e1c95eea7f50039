/- Runs: Next, Steps, Log, State. Conditions: at most a thousand steps. -/
import Derived.Test.YtfcnjbannejchaaSoloP
namespace Go.Proofs.Ytfcnjbannejchaa
open Go Go.E
set_option maxRecDepth 100000
variable {e w : World} {L Q : List HP} {K : KV} {S S2 : HP}

def Done.zero : Done := ⟨Msg.zero, 0⟩
theorem head_min {arr : List Msg} {m z : Msg} {rest : List Msg} (hp : arr.Perm (m :: rest)) (hs : (m :: rest).Pairwise MLt) (hh : Heapy arr arr.length) (hz : arr[0]? = some z) : z = m := by
  have hzm : z ∈ m :: rest := hp.mem_iff.1 (List.mem_of_getElem? hz)
  rcases List.mem_cons.1 hzm with h | h
  · exact h
  · have h1 := (List.pairwise_cons.1 hs).1 z h
    have hm : m ∈ arr := hp.mem_iff.2 (by simp)
    obtain ⟨i, hi⟩ := List.getElem?_of_mem hm
    exact absurd h1 (hh.min (Nat.le_refl _) hz i m (List.getElem?_eq_some_iff.1 hi).1 hi)
theorem set_map {α β : Type} {f : α → β} {l : List α} {i : Nat} {x : α} : (l.set i x).map f = (l.map f).set i (f x) := List.map_set

theorem solo_Next_s {r k : Nat} {wd : Wd} {R : RS} (hk0 : k ≤ 1000) (hS : Sat e w (IsSolo r wd R k :: Q))
    (hno : nextR wd R = none → ∀ w', Sat e w' (IsSolo r wd R k :: Q) → K (.tuple #[.agg Done.zero.cs.toArray, .bool false]) w')
    (hyes : ∀ d R', nextR wd R = some (d, R') → ∀ w', Sat e w' (IsSolo r wd R' (k + 1) :: Q) → K (.tuple #[.agg d.cs.toArray, .bool true]) w') :
    Cl prog 12 #[.pointer (some ⟨r, 0, none⟩)] w K := by
  refine solo_Run_Next_calls ?_
  unfold solo_Run_Next
  obtain ⟨X, hX, hS1⟩ := solo_of hS
  have hEnd : X.End = wd.End := congrArg Wd.End hX.eq
  obtain ⟨fv, fs, arr, ⟨hfs, hpa, hhp⟩, hS2⟩ := run_of hS1
  rw [zero_39, zero_37]
  refine al_s (cs := Done.zero.cs) hS2 rfl fun t2 w1 h1 => ?_
  refine dr_s h1 fun w2 h2 => ?_
  obtain ⟨wv, hpre, h3⟩ := isW_of (h2.pick 1 rfl)
  have hnone : nextR wd R = none → ∀ w', Sat e w' (blk t2 39 Done.zero.cs :: IsW r (X.cs ++ [fv]) arr :: ownS 70 3 FedS.cs fv fs :: sepL (fs.map logOwn) :: WdOwn X :: Q) →
      bld (zeroD prog 39) #[(0, 6), (6, 1)] [] w' fun t31 w => stN 7 (.pointer (some ⟨t2, 0, none⟩)) t31 w fun _ w => ldN 7 (.pointer (some ⟨t2, 0, none⟩)) w fun r0 _ => K (.tuple #[r0, .bool false]) w := by
    intro hn w' h'
    refine bld_s Done.zero.cs (by kernel_rfl) ?_
    refine stN_at h' 0 rfl (vs := Done.zero.cs) rfl rfl (by decide) (ints_flat _) (cs' := Done.zero.cs) (by kernel_rfl) fun w3 h3 => ?_
    refine ldN_at h3 0 (vs := Done.zero.cs) rfl (by rfl) rfl ?_
    exact hno hn _ (solo_mk hX (run_mk ⟨hfs, hpa, hhp⟩ h3.drop))
  rw [zero_39] at hnone
  refine ncP_p (fld_at (ld1_at h3 0 rfl (pre_get hpre) ?_))
  refine lnS_rd h3 1 rfl (fun g hg => own_rd hg) ?_
  cases hwait : R.wait with
  | nil =>
    rw [hwait] at hpa
    have ha0 : arr = [] := List.length_eq_zero_iff.1 (by rw [hpa.length_eq]; rfl)
    refine eq_t (by rw [ha0]; rfl) ?_
    repeat (first | refine gd_tt ?_ | refine gd_ff ?_ | refine gd_tf ?_ | refine gd_ft ?_ | refine gd_u ?_ | refine pk_t ?_ | refine pk_f ?_ | refine iff_t ?_ | refine iff_f ?_ | refine not_t ?_ | refine not_f ?_ | refine beq_s ?_ | refine bne_s ?_ | refine ncP_p ?_ | refine nc_p ?_ | refine fld_at ?_ | refine xt_02 ?_ | refine xt_12 ?_ | refine xt_03 ?_ | refine xt_13 ?_ | refine xt_23 ?_ | refine eq_t (by omega) ?_ | refine eq_f (by omega) ?_ | refine ne_t (by omega) ?_ | refine ne_f (by omega) ?_ | refine lt_t (by omega) ?_ | refine lt_f (by omega) ?_ | refine gt_t (by omega) ?_ | refine gt_f (by omega) ?_ | refine ge_t (by omega) ?_ | refine ge_f (by omega) ?_ | refine le_t (by omega) ?_ | refine le_f (by omega) ?_)
    exact hnone (nextR_none (.inl hwait)) _ h2
  | cons m rest =>
    have hs0 := hX.run.sorted
    rw [hwait] at hpa hs0
    have hal := hpa.length_eq
    simp only [List.length_cons] at hal
    obtain ⟨z, hz⟩ := get_of_lt (l := arr) (j := 0) (by omega)
    have hzm := head_min hpa hs0 hhp hz
    subst hzm
    refine eq_f (by omega) (gd_ff (gd_ff (nc_p ?_)))
    refine gd_ff (fld_at (gd_ff (ld1_at h3 0 rfl (pre_get hpre) ?_)))
    refine gd_ff (ixS_rd (j := 0) h3 1 rfl (fun g hg => own_rd hg) (fun _ => rfl) hz fun p hp => ?_)
    refine gd_ff (fld_of hp fun p1 hp1 => gd_ff (fld_of hp1 fun p2 hp2 => gd_ff ?_))
    refine ld1_of h3 1 rfl hp2 (v := .int .i64 z.key.T) rfl ?_
    refine gd_ff (gd_ff (nc_p ?_))
    refine gd_ff (fld_at (gd_ff (fld_at (gd_ff (ldW h2 1 rfl (u := .int .i64 X.End) rfl ?_)))))
    rw [hEnd]
    refine gd_ff (ge_c (fun c1 => ?_) (fun c1 => ?_))
    · refine pk_f (iff_t ?_)
      exact hnone (nextR_none (.inr ⟨z, rest, hwait, c1⟩)) _ h2
    refine pk_f (iff_f (ncP_p (fld_at ?_)))
    have hcnt := hX.run.cnt
    rw [hwait, List.length_cons] at hcnt
    refine heapPop_s (q := r) hz (by omega) (h2.pick 1 rfl) fun arr' w4 hp4 hh4 h4 => ?_
    refine tyA_ok (by kernel_rfl) ?_
    refine al_s (cs := Msg.zero.cs) h4 rfl fun t4 w5 h5 => ?_
    refine stN_at h5 0 rfl (vs := z.cs) rfl rfl (by decide) (ints_flat _) (cs' := z.cs) (by rfl) fun w6 h6 => ?_
    have hpr : arr'.Perm rest := by
      have h7 : (z :: arr').Perm (z :: rest) := (List.perm_append_singleton z arr').symm.trans (hp4.trans hpa)
      exact (List.perm_cons z).1 h7
    have hh5 : Heapy arr' arr'.length := hh4 hhp
    replace h6 : Sat e w6 (blk t4 37 z.cs :: IsW r (X.cs ++ [fv]) arr' :: blk t2 39 Done.zero.cs :: ownS 70 3 FedS.cs fv fs :: sepL (fs.map logOwn) :: WdOwn X :: Q) := h6
    clear h1 h2 h3 h4 h5 hnone
    obtain ⟨t1, t2', t3, t4'⟩ := hX.run.to z (by rw [hwait]; simp)
    obtain ⟨n, hn⟩ : ∃ n : Nat, z.To = n := ⟨z.To.toNat, by omega⟩
    have hnl : n < wd.Feds.length := by omega
    have hfl : fs.length = wd.Feds.length := by
      have := congrArg List.length hfs
      rw [List.length_map, hX.run.len] at this
      exact this
    obtain ⟨a, ha⟩ := get_of_lt (l := fs) (j := n) (by omega)
    have hXf : X.Feds.map FedX.f = wd.Feds := congrArg Wd.Feds hX.eq
    have hXp : X.Parents = wd.Parents := congrArg Wd.Parents hX.eq
    have hXl : X.Feds.length = wd.Feds.length := by rw [← hXf, List.length_map]
    obtain ⟨fd, hfd⟩ := get_of_lt (l := X.Feds) (j := n) (by omega)
    have hfdm := List.mem_of_getElem? hfd
    have hwf : wd.Feds[z.To.toNat]? = some fd.f := by rw [hn, Int.toNat_natCast, ← hXf, List.getElem?_map, hfd]; rfl
    have hRa : R.feds[z.To.toNat]? = some a.a := by rw [hn, Int.toNat_natCast, ← hfs, List.getElem?_map, ha]; rfl
    have hnext := nextR_take (wd := wd) hwait (by omega) hwf hRa
    have hsent := hX.run.sent a.a (List.mem_of_getElem? hRa)
    have hsf := hX.short.fed fd hfdm
    refine dr_s h6 fun w7 h7 => ?_
    refine ncP_p (fld_at (ldW h7 1 rfl (u := fv) rfl ?_))
    refine fld_at (ld1_at h7 0 rfl (v := .int .i64 z.To) rfl ?_)
    rw [hn]
    refine ixS_own h7 3 rfl ha fun bf cf hfv => ?_
    refine dr_s h7 fun w8 h8 => ?_
    refine ncP_p (fld_at (fld_at (ldW h8 1 rfl (u := X.fv) rfl ?_)))
    refine fld_at (ld1_at h8 0 rfl (v := .int .i64 z.To) rfl ?_)
    rw [hn]
    refine ixS_rd h8 5 rfl (fun g hg => (wdOwn_rd hg).feds) (fun _ => rfl) hfd fun p hp => ?_
    refine fld_of hp fun p1 hp1 => ?_
    refine ld1_of h8 5 rfl hp1 (v := fd.rv) rfl ?_
    refine ncP_p (fld_at (ldF_own h8 3 rfl (fun _ => rfl) hfv ha (u := .int .i64 a.st) rfl ?_))
    refine fld_at (ld1_at h8 0 rfl (v := .int .i64 z.Class) rfl ?_)
    refine table_Step_s (l := fd.Rules) (s := a.st) (c := z.Class) (h8.pick 5 rfl) (fun g hg => ((wdOwn_rd hg).fed fd hfdm).rules) hsf.rules hsf.sends fun ov w9 h9 => ?_
    generalize hso : stepR (fd.Rules.map RuleX.r) a.st z.Class = so at h9 ⊢
    have hso' : stepR fd.f.Rules a.a.st z.Class = so := hso
    have houts := step_outs hX.may (List.mem_of_getElem? hwf) a.a.st z.Class
    rw [hso'] at houts
    refine xt_02 (xt_12 ?_)
    replace h9 : Sat e w9 (ownS 63 3 Out.cs ov so.2 :: WdOwn X :: blk t4 37 z.cs :: IsW r (X.cs ++ [fv]) arr' :: blk t2 39 Done.zero.cs :: ownS 70 3 FedS.cs fv fs :: sepL (fs.map logOwn) :: Q) := h9
    refine dr_s h9 fun w10 h10 => ?_
    refine ncP_p (fld_at (ldNW h10 3 rfl (us := X.cs) rfl rfl ?_))
    refine fld_at (ld1_at h10 2 rfl (v := .int .i64 z.To) rfl ?_)
    refine ncP_p (fld_at (ldF_own h10 5 rfl (fun _ => rfl) hfv ha (u := .int .i64 a.sent) rfl ?_))
    refine fld_at (fld_at (ld1_at h10 2 rfl (v := .int .i64 z.key.T) rfl ?_))
    refine fld_at (ld1_at h10 2 rfl (v := .int .i64 z.Body) rfl ?_)
    refine spread_s (x := X) (outs := so.2) 1 0 rfl rfl h10 (fun g hg => wdOwn_rd hg) (fun g hg => own_rd hg) hX.short (by rw [hXp]; exact hX.may.tree) (fun o ho => by rw [hXp]; exact (houts.2 o ho).1) (by omega) t3 ⟨hsent.1, by have := hsent.2.1; simp only [FedS.a] at this; omega⟩ fun mv w11 h11 => ?_
    have hsp : spreadL X.w.Parents X.w.Feds z.To a.sent z.key.T z.Body so.2 = spreadL wd.Parents wd.Feds z.To a.a.sent z.key.T z.Body so.2 := by rw [hX.eq]; rfl
    rw [hsp] at h11
    generalize hms : spreadL wd.Parents wd.Feds z.To a.a.sent z.key.T z.Body so.2 = ms at h11
    have hmsl : ms.length ≤ 24 := by
      have h12 := spreadL_len wd.Parents wd.Feds z.To a.a.sent z.key.T z.Body so.2
      have h13 : so.2.length * wd.Feds.length ≤ 3 * 8 := Nat.mul_le_mul houts.1 hX.may.n.2
      rw [hms] at h12
      omega
    have hrl := hpr.length_eq
    have h12 := h11.selR [_, _, _, _, _, _, _, _] [_, _, _, _, _, _, _, _] [4, 0, 1, 2, 3, 5, 6, 7] (by decide) rfl
    refine each_s (ms := ms) 0 rfl h12 (fun g hg => own_rd hg) (by omega) fun arr2 w13 hp13 hh13 h13 => ?_
    have ha2 : fs.length = (fs.map FedS.a).length := by simp
    refine ncP_p (fld_at (stF_own h13 6 rfl (fun _ => rfl) hfv ha (x' := { a with st := so.1 }) (us := [.int .i64 so.1]) rfl rfl (by decide) (by simp [flat]) rfl fun w14 h14 => ?_))
    have hset : ∀ (b c : FedS), (fs.set n b).set n c = fs.set n c := fun b c => List.set_set _
    have hg1 : ∀ b : FedS, (fs.set n b)[n]? = some b := fun b => List.getElem?_set_self (by omega)
    have hln : ∀ b : FedS, (fs.set n b).length = fs.length := fun b => List.length_set
    replace h14 : Sat e w14 (IsW r (X.cs ++ [fv]) arr2 :: ownS 37 6 Msg.cs mv ms :: ownS 63 3 Out.cs ov so.2 :: WdOwn X :: blk t4 37 z.cs :: blk t2 39 Done.zero.cs :: ownS 70 3 FedS.cs fv (fs.set n { a with st := so.1 }) :: sepL (fs.map logOwn) :: Q) := h14
    refine ncP_p (fld_at (ldF_own h14 6 rfl (fun _ => rfl) (by rw [hln]; exact hfv) (hg1 _) (u := .int .i64 a.sent) rfl ?_))
    refine lnS_rd h14 2 rfl (fun g hg => own_rd hg) ?_
    have hsu := hsent.2.1
    have hsl := hsent.1
    simp only [FedS.a] at hsu hsl
    refine add_s (by omega) (by omega) ?_
    refine ncP_p (fld_at (stF_own h14 6 rfl (fun _ => rfl) (by rw [hln]; exact hfv) (hg1 _) (x' := { a with st := so.1, sent := a.sent + so.2.length }) (us := [.int .i64 (a.sent + so.2.length)]) rfl rfl (by decide) (by simp [flat]) rfl fun w15 h15 => ?_))
    rw [hset] at h15
    replace h15 : Sat e w15 (IsW r (X.cs ++ [fv]) arr2 :: ownS 37 6 Msg.cs mv ms :: ownS 63 3 Out.cs ov so.2 :: WdOwn X :: blk t4 37 z.cs :: blk t2 39 Done.zero.cs :: ownS 70 3 FedS.cs fv (fs.set n { a with st := so.1, sent := a.sent + so.2.length }) :: sepL (fs.map logOwn) :: Q) := h15
    refine ldN_at h15 4 (vs := z.cs) rfl (by rfl) rfl ?_
    refine bld_s (⟨z, so.1⟩ : Done).cs (by kernel_rfl) ?_
    refine al_s (cs := Done.zero.cs) h15 rfl fun t8 w16 h16 => ?_
    refine stN_at h16 0 rfl (vs := (⟨z, so.1⟩ : Done).cs) rfl rfl (Nat.le_of_ble_eq_true rfl) (ints_flat _) (cs' := (⟨z, so.1⟩ : Done).cs) (by rfl) fun w17 h17 => ?_
    refine dr_s h17 fun w18 h18 => ?_
    refine ncP_p (fld_at (ldF_own h18 7 rfl (fun _ => rfl) (by rw [hln]; exact hfv) (hg1 _) (u := a.lv) rfl ?_))
    refine ldN_at h18 0 (vs := (⟨z, so.1⟩ : Done).cs) rfl (by rfl) rfl ?_
    refine bsl1 (vs := (⟨z, so.1⟩ : Done).cs) rfl rfl h18 fun bb w19 h19 => ?_
    refine ⟨ldF_own h19 8 rfl (fun _ => rfl) (by rw [hln]; exact hfv) (hg1 _) (u := a.lv) rfl ⟨rfl, rfl⟩, ?_⟩
    have h20 := (h19.pick 9 rfl).focus n (by rw [List.getElem?_map, ha]; rfl : (fs.map logOwn)[n]? = some (logOwn a))
    have hlog := hsent.2.2
    simp only [FedS.a] at hlog
    replace h20 : Sat e w19 (logOwn a :: sepL ((fs.map logOwn).eraseIdx n) :: blk bb 39 (⟨z, so.1⟩ : Done).cs :: blk t8 39 (⟨z, so.1⟩ : Done).cs :: IsW r (X.cs ++ [fv]) arr2 :: ownS 37 6 Msg.cs mv ms :: ownS 63 3 Out.cs ov so.2 :: WdOwn X :: blk t4 37 z.cs :: blk t2 39 Done.zero.cs :: ownS 70 3 FedS.cs fv (fs.set n { a with st := so.1, sent := a.sent + so.2.length }) :: Q) := h20
    refine apS_own te_42 te_42.und (f := Done.cs) (l := a.log) (m := [⟨z, so.1⟩]) (fun _ => rfl) (fun _ => ints_flat _) (h20.selR [_, _, _] [_, _, _] [0, 2, 1] (by decide) rfl) (blk_rd1 (f := Done.cs) (x := ⟨z, so.1⟩) (Nat.le_refl _)) (by simp; omega) fun lv' w21 h21 => ?_
    have q1 := h21.own_cells 0 rfl
    refine ncP_p (fld_at (stF_own h21 10 rfl (fun _ => rfl) (by rw [hln]; exact hfv) (hg1 _) (x' := ⟨so.1, a.sent + so.2.length, lv', a.log ++ [⟨z, so.1⟩]⟩) (us := [lv']) q1.1 rfl (by decide) (fun c hc => by rw [List.mem_singleton.1 hc]; exact q1.2) rfl fun w22 h22 => ?_))
    rw [hset] at h22
    replace h22 : Sat e w22 (logOwn ⟨so.1, a.sent + so.2.length, lv', a.log ++ [⟨z, so.1⟩]⟩ :: blk bb 39 (⟨z, so.1⟩ : Done).cs :: sepL ((fs.map logOwn).eraseIdx n) :: blk t8 39 (⟨z, so.1⟩ : Done).cs :: IsW r (X.cs ++ [fv]) arr2 :: ownS 37 6 Msg.cs mv ms :: ownS 63 3 Out.cs ov so.2 :: WdOwn X :: blk t4 37 z.cs :: blk t2 39 Done.zero.cs :: ownS 70 3 FedS.cs fv (fs.set n ⟨so.1, a.sent + so.2.length, lv', a.log ++ [⟨z, so.1⟩]⟩) :: Q) := h22
    refine ldN_at h22 3 (vs := (⟨z, so.1⟩ : Done).cs) rfl (by rfl) rfl ?_
    refine stN_at h22 9 rfl (vs := (⟨z, so.1⟩ : Done).cs) rfl rfl (Nat.le_of_ble_eq_true rfl) (ints_flat _) (cs' := (⟨z, so.1⟩ : Done).cs) (by rfl) fun w23 h23 => ?_
    refine ldN_at h23 9 (vs := (⟨z, so.1⟩ : Done).cs) rfl (by rfl) rfl ?_
    have h24 := (h23.selR [_, _, _, _, _, _, _, _, _, _, _] [_, _, _, _, _] [0, 2, 4, 7, 10] (by decide) rfl).unfocus n (by rw [List.getElem?_map, ha]; rfl : (fs.map logOwn)[n]? = some (logOwn a))
    have hT : takeM wd fd.f a.a z rest R = (⟨z, so.1⟩, ⟨R.feds.set n ⟨so.1, a.sent + so.2.length, a.log ++ [⟨z, so.1⟩]⟩, putL rest ms⟩) := by
      unfold takeM
      rw [hso', hms, hn, Int.toNat_natCast]
      rfl
    rw [hT] at hnext
    refine hyes _ _ hnext _ (solo_mk (X := X) ⟨hX.eq, hX.short, hX.may, runOk_next hX.may hX.run hnext⟩ (run_mk (fv := fv) (fs := fs.set n ⟨so.1, a.sent + so.2.length, lv', a.log ++ [⟨z, so.1⟩]⟩) (arr := arr2) ⟨?_, ?_, hh13 hh5⟩ ?_))
    · rw [set_map, hfs]
      rfl
    · refine hp13.trans ?_
      refine (hpr.append_left ms).trans ?_
      exact (putL_perm ms rest).symm
    · rw [set_map]
      exact h24.selR [_, _, _, _] [_, _, _, _] [1, 3, 0, 2] (by decide) rfl
end Go.Proofs.Ytfcnjbannejchaa
