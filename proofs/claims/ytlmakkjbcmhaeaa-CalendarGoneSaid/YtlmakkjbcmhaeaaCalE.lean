/- Calendars: Remove, Pop, List, Below, Days. Conditions: at most a thousand messages. -/
import Derived.Test.YtlmakkjbcmhaeaaCalD
namespace Go.Proofs.Ytlmakkjbcmhaeaa
open Go Go.E
set_option maxRecDepth 100000
variable {e w : World} {R : List HP} {K : KV}

theorem cal_Remove_s {q : Nat} {room day : Int} {pg : List (List Msg)} {k : Key} (hok : CalOk day pg) (hd : 1 ≤ day) (ht : In64 k.T) (hm : pg.flatten.length ≤ 1000) (hS : Sat e w (IsCal q room day pg :: R))
    (hno : (∀ y ∈ pg.flatten, y.key ≠ k) → ∀ w', Sat e w' (IsCal q room day pg :: R) → K (.tuple #[.agg Msg.zero.cs.toArray, .bool false]) w')
    (hyes : ∀ x pg' w', x ∈ pg.flatten → x.key = k → CalOk day pg' → (x :: pg'.flatten).Perm pg.flatten → Sat e w' (IsCal q room day pg' :: R) → K (.tuple #[.agg x.cs.toArray, .bool true]) w') :
    Cl prog 14 #[.pointer (some ⟨q, 0, none⟩), .agg k.cs.toArray] w K := by
  refine calendar_Queue_Remove_calls ?_
  unfold calendar_Queue_Remove
  rw [zero_32]
  refine al_s (cs := k.cs) hS rfl fun c w2 k2 => ?_
  refine al_s (cs := Msg.zero.cs) k2 rfl fun d w3 k3 => ?_
  refine fld_at (ld1_at k3 1 rfl (v := .int .i64 k.T) rfl ?_)
  refine vtime_Valid_s ht ?_
  cases hv : validT k.T with
  | false =>
    refine not_f (iff_t ?_)
    refine bld_s Msg.zero.cs (by kernel_rfl) ?_
    refine stN_at k3 0 rfl (vs := Msg.zero.cs) rfl rfl (Nat.le_of_ble_eq_true rfl) (ints_flat _) (cs' := Msg.zero.cs) (by kernel_rfl) fun w4 k4 => ?_
    refine ldN_at k4 0 rfl (vs := Msg.zero.cs) (by rfl) rfl ?_
    refine hno (fun y hy he => ?_) _ (k4.selR [_, _, _] [_] [2] (by decide) rfl)
    obtain ⟨l, hl, hyl⟩ := List.mem_flatten.1 hy
    obtain ⟨p, hp⟩ := List.mem_iff_getElem?.1 hl
    have := (hok.at' p l hp y hyl).1
    rw [he, hv] at this
    cases this
  | true =>
    refine not_t (iff_f ?_)
    have hvn := valid_nonneg hv
    obtain ⟨l, hl⟩ := hok.page k.T
    have hul := hok.up l (List.mem_of_getElem? hl)
    have hpl : pageN day k.T < pg.length := (List.getElem?_eq_some_iff.1 hl).1
    have hll : l.length ≤ 1000000 := by
      have := (List.sublist_flatten_of_mem (List.mem_of_getElem? hl)).length_le
      omega
    obtain ⟨vs, hvs, hpg, k4⟩ := cal_of (k3.selR [_, _, _] [_, _, _] [2, 0, 1] (by decide) rfl)
    replace k4 : Sat e w3 (blk q 58 (.int .i64 room :: .int .i64 day :: .int .i64 (pg.flatten.length : Int) :: vs) :: sepL (rows vs pg) :: blk d 32 Msg.zero.cs :: blk c 30 k.cs :: R) := k4
    obtain ⟨v, hv1⟩ : ∃ v, vs[pageN day k.T]? = some v := ⟨_, List.getElem?_eq_getElem (by omega)⟩
    refine fld_at (ld1_at k4 3 rfl (v := .int .i64 k.T) rfl ?_)
    refine cal_of_s hd hvn k4 rfl fun w5 k5 => ?_
    refine dr_s k5 fun w6 k6 => ?_
    refine ncP_p (ld1_at k6 0 rfl (cell3.trans hv1) ?_)
    refine ldN_at k6 3 rfl (vs := k.cs) (by rfl) rfl ?_
    refine place_s hll hul k6.swap (rows_rd hv1 hl) fun i w7 hp k7 => ?_
    refine xt_02 (xt_12 ?_)
    have hfnd := fnd_iff hp hul
    have hmem := hok.mem (k := k) hl
    cases hf : fnd l i k with
    | false =>
      refine not_f (iff_t ?_)
      refine bld_s Msg.zero.cs (by kernel_rfl) ?_
      refine stN_at k7 2 rfl (vs := Msg.zero.cs) rfl rfl (Nat.le_of_ble_eq_true rfl) (ints_flat _) (cs' := Msg.zero.cs) (by kernel_rfl) fun w8 k8 => ?_
      refine ldN_at k8 2 rfl (vs := Msg.zero.cs) (by rfl) rfl ?_
      refine hno (fun y hy hk => ?_) _ (cal_mk hvs hpg (k8.selR [_, _, _, _] [_, _] [1, 0] (by decide) rfl))
      have := hfnd.2 (hmem.1 ⟨y, hy, hk⟩)
      rw [hf] at this
      cases this
    | true =>
      refine not_t (iff_f ?_)
      obtain ⟨x, hx, hxk⟩ : ∃ x, l[i]? = some x ∧ x.key = k := by
        unfold fnd at hf
        cases hx : l[i]? with
        | none => rw [hx] at hf; cases hf
        | some x => rw [hx] at hf; exact ⟨x, rfl, of_decide_eq_true hf⟩
      have hil := (List.getElem?_eq_some_iff.1 hx).1
      refine ncP_p (ld1_at k7 1 rfl (cell3.trans hv1) ?_)
      refine ixS_rd k7 0 rfl (rows_rd hv1 hl) (fun _ => rfl) hx fun a ha => ?_
      refine ldN_of k7 0 rfl ha rfl ?_
      refine al_s (cs := Msg.zero.cs) k7 rfl fun d9 w8 k8 => ?_
      refine stN_at k8 0 rfl (vs := x.cs) rfl rfl (Nat.le_of_ble_eq_true rfl) (ints_flat _) (cs' := x.cs) (by kernel_rfl) fun w9 k9 => ?_
      refine ncP_p (ld1_at k9 2 rfl (cell3.trans hv1) ?_)
      refine inc_s (by omega) ?_
      have k10 := Sat.focus (Sat.swap k9) (pageN day k.T) (rows_get hv1 hl)
      refine delete_s hil hll k10 fun v' w11 k11 => ?_
      have hvc := k11.own_cells 0 rfl
      refine ncP_p (st1_at k11 3 rfl hvc (by rw [List.length_cons, List.length_cons, List.length_cons]; omega) set3 fun w12 k12 => ?_)
      replace k12 : Sat e w12 (ownS 32 6 Msg.cs v' (l.take i ++ l.drop (i + 1)) :: sepL ((rows vs pg).eraseIdx (pageN day k.T)) :: blk d9 32 x.cs :: blk q 58 (.int .i64 room :: .int .i64 day :: .int .i64 (pg.flatten.length : Int) :: vs.set (pageN day k.T) v') :: blk d 32 Msg.zero.cs :: blk c 30 k.cs :: R) := k12
      have hperm := del_flat hl hx
      have hlen := hperm.length_eq
      rw [List.length_cons] at hlen
      refine ncP_p (fld_at (ld1_at k12 3 rfl (v := .int .i64 (pg.flatten.length : Int)) rfl ?_))
      refine dec_s (by omega) (by omega) ?_
      refine ncP_p (fld_at (st1_at k12 3 rfl ⟨rfl, rfl⟩ (by rw [List.length_cons, List.length_cons, List.length_cons]; omega) rfl fun w13 k13 => ?_))
      refine ldN_at k13 2 rfl (vs := x.cs) (by rfl) rfl ?_
      refine stN_at k13 4 rfl (vs := x.cs) rfl rfl (Nat.le_of_ble_eq_true rfl) (ints_flat _) (cs' := x.cs) (by kernel_rfl) fun w14 k14 => ?_
      refine ldN_at k14 4 rfl (vs := x.cs) (by rfl) rfl ?_
      have hsub : (l.take i ++ l.drop (i + 1)).Sublist l := by
        have e1 : l = l.take i ++ l.drop i := (List.take_append_drop i l).symm
        conv => rhs; rw [e1]
        exact List.Sublist.append_left (by rw [drop_cons hx]; exact List.sublist_cons_self _ _) _
      refine hyes x (pg.set (pageN day k.T) (l.take i ++ l.drop (i + 1))) _ (List.mem_flatten.2 ⟨l, List.mem_of_getElem? hl, List.mem_of_getElem? hx⟩) hxk (hok.set (List.Pairwise.sublist hsub hul) fun m hm => hok.at' _ l hl m (hsub.subset hm)) hperm ?_
      refine cal_mk (vs := vs.set (pageN day k.T) v') (by rw [List.length_set]; exact hvs) (by rw [List.length_set]; exact hpg) ?_
      rw [show ((pg.set (pageN day k.T) (l.take i ++ l.drop (i + 1))).flatten.length) = pg.flatten.length - 1 from by omega]
      have k15 := Sat.unfocus (pageN day k.T) (rows_get hv1 hl) k14
      rw [rows_set (by omega) hpl] at k15
      exact k15.selR [_, _, _, _, _] [_, _] [2, 0] (by decide) rfl

theorem cal_Pop_s {q : Nat} {room day : Int} {pg : List (List Msg)} (hok : CalOk day pg) (hd : 1 ≤ day) (hm : pg.flatten.length ≤ 1000) (hS : Sat e w (IsCal q room day pg :: R))
    (hno : pg.flatten = [] → ∀ w', Sat e w' (IsCal q room day pg :: R) → K (.tuple #[.agg Msg.zero.cs.toArray, .bool false]) w')
    (hyes : ∀ x pg' w', x ∈ pg.flatten → (∀ y ∈ pg.flatten, ¬ KeyLt y.key x.key) → CalOk day pg' → (x :: pg'.flatten).Perm pg.flatten → Sat e w' (IsCal q room day pg' :: R) → K (.tuple #[.agg x.cs.toArray, .bool true]) w') :
    Cl prog 20 #[.pointer (some ⟨q, 0, none⟩)] w K := by
  refine calendar_Queue_Pop_calls ?_
  unfold calendar_Queue_Pop
  rw [zero_32]
  refine al_s (cs := Msg.zero.cs) hS rfl fun d w2 k2 => ?_
  refine cal_First_s hok k2.swap (fun h0 w3 k3 => ?_) (fun x hx hmin w3 k3 => ?_)
  · refine xt_02 (xt_12 ?_)
    refine al_s (cs := Msg.zero.cs) k3 rfl fun d4 w4 k4 => ?_
    refine stN_at k4 0 rfl (vs := Msg.zero.cs) rfl rfl (Nat.le_of_ble_eq_true rfl) (ints_flat _) (cs' := Msg.zero.cs) (by kernel_rfl) fun w5 k5 => ?_
    refine iff_f ?_
    refine ldN_at k5 0 rfl (vs := Msg.zero.cs) (by rfl) rfl ?_
    refine stN_at k5 2 rfl (vs := Msg.zero.cs) rfl rfl (Nat.le_of_ble_eq_true rfl) (ints_flat _) (cs' := Msg.zero.cs) (by kernel_rfl) fun w6 k6 => ?_
    refine ldN_at k6 2 rfl (vs := Msg.zero.cs) (by rfl) rfl ?_
    exact hno h0 _ (k6.selR [_, _, _] [_] [1] (by decide) rfl)
  · refine xt_02 (xt_12 ?_)
    refine al_s (cs := Msg.zero.cs) k3 rfl fun d4 w4 k4 => ?_
    refine stN_at k4 0 rfl (vs := x.cs) rfl rfl (Nat.le_of_ble_eq_true rfl) (ints_flat _) (cs' := x.cs) (by kernel_rfl) fun w5 k5 => ?_
    refine iff_t ?_
    refine fld_at (ldN_at k5 0 rfl (vs := x.key.cs) (by rfl) rfl ?_)
    obtain ⟨l, hl, hxl⟩ := List.mem_flatten.1 hx
    obtain ⟨p, hp⟩ := List.mem_iff_getElem?.1 hl
    have hxv := valid_nonneg (hok.at' p l hp x hxl).1
    refine cal_Remove_s hok hd (by unfold In64; omega) hm (Sat.swap k5) (fun h0 => absurd rfl (h0 x hx)) (fun z pg' w6 hz hzk hok' hperm k6 => ?_)
    have hzx : z = x := by
      have hn := hok.nodup
      rw [List.nodup_iff_pairwise_ne, List.pairwise_map] at hn
      obtain ⟨i, hi⟩ := List.mem_iff_getElem.1 hz
      obtain ⟨j, hj⟩ := List.mem_iff_getElem.1 hx
      obtain ⟨hi, ei⟩ := hi
      obtain ⟨hj, ej⟩ := hj
      rw [List.pairwise_iff_getElem] at hn
      rcases Nat.lt_trichotomy i j with h | h | h
      · have := hn i j hi hj h; rw [ei, ej] at this; exact absurd hzk this
      · subst h; rw [← ei, ej]
      · have := hn j i hj hi h; rw [ei, ej] at this; exact absurd hzk.symm this
    subst hzx
    refine ldN_at k6 1 rfl (vs := z.cs) (by rfl) rfl ?_
    refine stN_at k6 2 rfl (vs := z.cs) rfl rfl (Nat.le_of_ble_eq_true rfl) (ints_flat _) (cs' := z.cs) (by kernel_rfl) fun w7 k7 => ?_
    refine ldN_at k7 2 rfl (vs := z.cs) (by rfl) rfl ?_
    exact hyes z pg' _ hx hmin hok' hperm (k7.selR [_, _, _] [_] [0] (by decide) rfl)

/-! ### List, Below, Days -/
theorem clist1_s {e W : World} {R : List HP} {K : KV} (x y : Msg) (hS : Sat e W R) (hk : ∀ w', Sat e w' R → K (.int .i64 (cfM x y)) w') : Cl prog 44 (#[.agg x.cs.toArray, .agg y.cs.toArray] ++ #[]) W K := by
  refine calendar_Queue_List_1_calls (t0 := .agg x.cs.toArray) (t1 := .agg y.cs.toArray) ?_
  unfold calendar_Queue_List_1
  refine al_s (cs := x.cs) hS rfl fun b2 w1 h1 => ?_
  refine al_s (cs := y.cs) h1 rfl fun b3 w2 h2 => ?_
  refine fld_at (ldN_at h2 1 rfl (vs := x.key.cs) (by rfl) rfl ?_)
  refine fld_at (ldN_at h2 0 rfl (vs := y.key.cs) (by rfl) rfl ?_)
  exact vtime_Cmp_s h2 fun w3 h3 => hk _ h3.drop.drop
theorem csortM_s {v : Value} {l : List Msg} (hl : l.length ≤ 1000000) (hS : Sat e w (ownS 32 6 Msg.cs v l :: R))
    (hk : ∀ l' w', l'.Perm l → (l'.Pairwise fun a b => Go.Proofs.ltOf cfM b a = false) → Sat e w' (ownS 32 6 Msg.cs v l' :: R) → K (.tuple #[]) w') :
    Cl prog 43 #[v, .func (.func 44) #[] #[]] w K :=
  sortF_s (P := prog) (size := 6) (f := Msg.cs) Try.sortMsg (fun w => Try.isAgg32 w) (fun w => Try.sizeOf32 w) (fun _ => rfl) (fun _ => oneCell_ints _) cfM swoM (by kernel_rfl) (by kernel_rfl) (fun _ _ _ _ x y h hk => clist1_s x y h hk) (by omega) hS hk
theorem cal_List_s {q : Nat} {room day : Int} {pg : List (List Msg)} (hok : CalOk day pg) (hm : pg.flatten.length ≤ 1000) (hS : Sat e w (IsCal q room day pg :: R))
    (hk : ∀ v l' w', l'.Perm pg.flatten → Upk l' → Sat e w' (ownS 32 6 Msg.cs v l' :: IsCal q room day pg :: R) → K v w') : Cl prog 18 #[.pointer (some ⟨q, 0, none⟩)] w K := by
  refine calendar_Queue_List_calls ?_
  unfold calendar_Queue_List
  obtain ⟨vs, hvs, hpg, h1⟩ := cal_of hS
  refine ncP_p (fld_at (ldN_at h1 0 rfl (vs := vs) (by show List.take 8 vs = vs; exact List.take_of_length_le (by omega)) hvs ?_))
  refine lpi2 (fun z t3 t10 w => ∃ j : Nat, t10 = .int .i64 (j : Int) ∧ z = 8 - j ∧ j ≤ 8 ∧ Sat e w (ownS 32 6 Msg.cs t3 (pg.take j).flatten :: sepL (rows vs pg) :: blk q 58 (.int .i64 room :: .int .i64 day :: .int .i64 (pg.flatten.length : Int) :: vs) :: R)) 8
    ⟨0, rfl, rfl, by decide, h1.swap.own_nil _ _ _⟩ ?_
  rintro z t3 _ w g ⟨j, rfl, rfl, hj, h2⟩ hg
  refine lt_c (fun c1 => iff_t ?_) (fun c1 => iff_f ?_)
  · obtain ⟨v, hv⟩ : ∃ v, vs[j]? = some v := ⟨_, List.getElem?_eq_getElem (by omega)⟩
    obtain ⟨l, hl⟩ : ∃ l, pg[j]? = some l := ⟨_, List.getElem?_eq_getElem (by omega)⟩
    refine ixV_1 (n := 8) (e := 36) (by kernel_rfl) (by kernel_rfl) (by kernel_rfl) (by kernel_rfl) (by omega) hv ?_
    have htk : (pg.take (j + 1)).flatten = (pg.take j).flatten ++ l := by
      rw [List.take_succ_eq_append_getElem (by omega), List.flatten_append, (List.getElem?_eq_some_iff.1 hl).2]
      simp
    have hlen : (pg.take j).flatten.length + l.length ≤ pg.flatten.length := by
      rw [← List.length_append, ← htk]
      have e1 : pg.flatten = (pg.take (j + 1)).flatten ++ (pg.drop (j + 1)).flatten := by rw [← List.flatten_append, List.take_append_drop]
      rw [e1, List.length_append]
      omega
    refine apS_own te_36 und_36 (f := Msg.cs) (fun _ => rfl) (fun _ => ints_flat _) h2 (rows_rd hv hl) (by omega) fun v' w3 h3 => ?_
    rw [← htk] at h3
    exact inc_s (by omega) (hg _ _ _ _ (by omega) ⟨j + 1, rfl, rfl, by omega, h3⟩)
  · have hj8 : j = 8 := by omega
    subst hj8
    rw [List.take_of_length_le (by omega)] at h2
    refine csortM_s (by omega) h2 fun l' w3 hp hs h3 => ?_
    exact hk _ l' _ hp (up_of ((hp.map Msg.key).nodup_iff.2 hok.nodup) hs) (Sat.swap (cal_mk hvs hpg (h3.selR [_, _, _] [_, _, _] [2, 1, 0] (by decide) rfl)))
theorem cal_Below_s {q : Nat} {room day t : Int} {pg : List (List Msg)} (hok : CalOk day pg) (hm : pg.flatten.length ≤ 1000) (hS : Sat e w (IsCal q room day pg :: R))
    (hk : ∀ v l' w', l'.Perm pg.flatten → Upk l' → Sat e w' (ownS 32 6 Msg.cs v (l'.filter fun x => decide (x.key.T < t)) :: IsCal q room day pg :: R) → K v w') : Cl prog 24 #[.pointer (some ⟨q, 0, none⟩), .int .i64 t] w K := by
  refine calendar_Queue_Below_calls ?_
  unfold calendar_Queue_Below
  rw [zero_32]
  refine cal_List_s hok hm hS fun v9 l' w2 hp hu h2 => ?_
  have hll := hp.length_eq
  refine lnS_rd h2 0 rfl (fun g hg => own_rd hg) ?_
  refine lpi2 (fun z t5 t11 w => ∃ j : Nat, t11 = .int .i64 (j : Int) ∧ z = l'.length - j ∧ j ≤ l'.length ∧ Sat e w (ownS 32 6 Msg.cs t5 ((l'.take j).filter fun x => decide (x.key.T < t)) :: ownS 32 6 Msg.cs v9 l' :: IsCal q room day pg :: R)) l'.length
    ⟨0, rfl, rfl, Nat.zero_le _, h2.own_nil _ _ _⟩ ?_
  rintro z t5 _ w g ⟨j, rfl, rfl, hj, h3⟩ hg
  refine lt_c (fun c1 => iff_t ?_) (fun c1 => iff_f ?_)
  · obtain ⟨x, hx⟩ := get_of_lt (l := l') (j := j) (by omega)
    have hfs := filterM_snoc (p := fun x => decide (x.key.T < t)) hx
    refine J1.cut (fun t5 w => Sat e w (ownS 32 6 Msg.cs t5 ((l'.take (j + 1)).filter fun x => decide (x.key.T < t)) :: ownS 32 6 Msg.cs v9 l' :: IsCal q room day pg :: R)) (fun k2 hcut => ?_) ?_
    · refine ixS_rd h3 1 rfl (fun g hg => own_rd hg) (fun _ => rfl) hx fun p hp => ?_
      refine ldN_of h3 1 rfl hp rfl ?_
      refine al_s (cs := Msg.zero.cs) h3 rfl fun d w4 h4 => ?_
      refine stN_at h4 0 rfl (vs := x.cs) rfl rfl (Nat.le_of_ble_eq_true rfl) (ints_flat _) (cs' := x.cs) (by kernel_rfl) fun w5 h5 => ?_
      refine fld_at (fld_at (ld1_at h5 0 rfl (v := .int .i64 x.key.T) rfl ?_))
      refine lt_c (fun c2 => iff_t ?_) (fun c2 => iff_f ?_)
      · rw [hfs, decide_eq_true c2] at hcut
        simp only [if_true] at hcut
        refine ldN_at h5 0 rfl (vs := x.cs) (by rfl) rfl ?_
        refine push1 te_36 (f := Msg.cs) (x := x) (fun _ => rfl) (fun _ => ints_flat _) (Sat.swap h5) rfl ?_ fun v' w6 h6 => hcut _ _ (h6.selR [_, _, _] [_, _] [0, 2] (by decide) rfl)
        have := List.length_filter_le (fun x : Msg => decide (x.key.T < t)) (l'.take j)
        rw [List.length_take] at this
        omega
      · rw [hfs, decide_eq_false c2] at hcut
        simp only [Bool.false_eq_true, if_false, List.append_nil] at hcut
        exact hcut _ _ (h5.selR [_, _, _] [_, _] [1, 2] (by decide) rfl)
    · intro t5' w6 h6
      exact inc_s (by omega) (hg _ _ _ _ (by omega) ⟨j + 1, rfl, rfl, by omega, h6⟩)
  · obtain rfl : j = l'.length := by omega
    rw [List.take_length] at h3
    exact hk _ l' _ hp hu (h3.selR [_, _] [_] [0] (by decide) rfl)
def lensOf (pg : List (List Msg)) : List Int := pg.map fun l => (l.length : Int)
theorem cal_Days_s {q : Nat} {room day : Int} {pg : List (List Msg)} (hS : Sat e w (IsCal q room day pg :: R))
    (hk : ∀ v w', (lensOf pg).length = 8 → Sat e w' (ownS 3 1 (fun n : Int => [.int .i64 n]) v (lensOf pg) :: IsCal q room day pg :: R) → K v w') : Cl prog 10 #[.pointer (some ⟨q, 0, none⟩)] w K := by
  refine calendar_Queue_Days_calls ?_
  unfold calendar_Queue_Days
  obtain ⟨vs, hvs, hpg, h1⟩ := cal_of hS
  have hln : (lensOf pg).length = 8 := by unfold lensOf; rw [List.length_map]; exact hpg
  refine ncP_p (fld_at (ldN_at h1 0 rfl (vs := vs) (by show List.take 8 vs = vs; exact List.take_of_length_le (by omega)) hvs ?_))
  refine lpi2 (fun z t3 t10 w => ∃ j : Nat, t10 = .int .i64 (j : Int) ∧ z = 8 - j ∧ j ≤ 8 ∧ Sat e w (ownS 3 1 (fun n : Int => [.int .i64 n]) t3 ((lensOf pg).take j) :: sepL (rows vs pg) :: blk q 58 (.int .i64 room :: .int .i64 day :: .int .i64 (pg.flatten.length : Int) :: vs) :: R)) 8
    ⟨0, rfl, rfl, by decide, h1.swap.own_nil _ _ _⟩ ?_
  rintro z t3 _ w g ⟨j, rfl, rfl, hj, h2⟩ hg
  refine lt_c (fun c1 => iff_t ?_) (fun c1 => iff_f ?_)
  · obtain ⟨v, hv⟩ : ∃ v, vs[j]? = some v := ⟨_, List.getElem?_eq_getElem (by omega)⟩
    obtain ⟨l, hl⟩ : ∃ l, pg[j]? = some l := ⟨_, List.getElem?_eq_getElem (by omega)⟩
    refine ixV_1 (n := 8) (e := 36) (by kernel_rfl) (by kernel_rfl) (by kernel_rfl) (by kernel_rfl) (by omega) hv ?_
    refine lnS_rd h2 1 rfl (rows_rd hv hl) ?_
    have hx : (lensOf pg)[j]? = some (l.length : Int) := by unfold lensOf; rw [List.getElem?_map, hl]; rfl
    refine push1 te_26 (f := fun n : Int => [.int .i64 n]) (x := (l.length : Int)) (fun _ => rfl) (fun _ v hv => by rw [List.mem_singleton.1 hv]; rfl) h2 rfl (by rw [List.length_take]; omega) fun v' w6 h6 => ?_
    rw [← take_snoc hx] at h6
    exact inc_s (by omega) (hg _ _ _ _ (by omega) ⟨j + 1, rfl, rfl, by omega, h6⟩)
  · have hj8 : j = 8 := by omega
    subst hj8
    rw [List.take_of_length_le (by omega)] at h2
    exact hk _ _ hln (Sat.swap (cal_mk hvs hpg (h2.selR [_, _, _] [_, _, _] [2, 1, 0] (by decide) rfl)))
end Go.Proofs.Ytlmakkjbcmhaeaa
