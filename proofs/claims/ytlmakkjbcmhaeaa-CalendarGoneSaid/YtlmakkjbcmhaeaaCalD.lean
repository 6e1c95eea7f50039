/- Calendars: Push, First, Remove, Pop. Conditions: at most a thousand messages. -/
import Derived.Test.YtlmakkjbcmhaeaaCalC
namespace Go.Proofs.Ytlmakkjbcmhaeaa
open Go Go.E
set_option maxRecDepth 100000
variable {e w : World} {R : List HP} {K : KV}

theorem rdS_up {size : Nat} {v : Value} {l : List Msg} {h g : Hp} (s : Sub h g) (k : rdS size Msg.cs v l h) : rdS size Msg.cs v l g := by
  obtain ⟨A, c, h1, h2, h3⟩ := k
  exact ⟨A, c, h1, h2, fun h0 => by obtain ⟨a, ha, hc⟩ := h3 h0; exact ⟨a, ha, hc.up s⟩⟩
theorem rows_rd {vs : List Value} {pg : List (List Msg)} {p : Nat} {v : Value} {l : List Msg} (hv : vs[p]? = some v) (hl : pg[p]? = some l) : ∀ g, sepL (rows vs pg) g → rdS 6 Msg.cs v l g := fun g hg => by
  obtain ⟨g', hg', hs⟩ := SatH.get (i := p) hg (rows_get hv hl)
  exact rdS_up hs (own_rd hg')
theorem cell3 {a b c : Value} {vs : List Value} {p : Nat} : (a :: b :: c :: vs)[3 + p]? = vs[p]? := by rw [Nat.add_comm]; rfl
theorem set3 {a b c v : Value} {vs : List Value} {p : Nat} : (a :: b :: c :: vs).set (3 + p) v = a :: b :: c :: vs.set p v := by rw [Nat.add_comm]; rfl
theorem CalOk.nodup {day : Int} {pg : List (List Msg)} (h : CalOk day pg) : (pg.flatten.map Msg.key).Nodup := by
  rw [List.nodup_iff_pairwise_ne, List.pairwise_map, List.pairwise_flatten]
  refine ⟨fun l hl => ?_, ?_⟩
  · refine List.Pairwise.imp ?_ (show l.Pairwise fun a b => KeyLt a.key b.key from h.up l hl)
    intro a b hlt he
    rw [he] at hlt
    exact KeyLt.irrefl _ hlt
  · rw [List.pairwise_iff_getElem]
    intro i j hi hj hij x hx y hy he
    have h1 := (h.at' i _ (List.getElem?_eq_getElem hi) x hx).2
    have h2 := (h.at' j _ (List.getElem?_eq_getElem hj) y hy).2
    rw [he] at h1
    omega

theorem cal_Push_s {q : Nat} {room day : Int} {pg : List (List Msg)} {x : Msg} (hok : CalOk day pg) (hd : 1 ≤ day) (ht : In64 x.key.T) (hm : pg.flatten.length ≤ 1000) (hS : Sat e w (IsCal q room day pg :: R))
    (h1 : validT x.key.T = false → ∀ w', Sat e w' (IsCal q room day pg :: R) → K (.int .i64 1) w')
    (h3 : validT x.key.T = true → (∃ y ∈ pg.flatten, y.key = x.key) → ∀ w', Sat e w' (IsCal q room day pg :: R) → K (.int .i64 3) w')
    (h2 : validT x.key.T = true → (∀ y ∈ pg.flatten, y.key ≠ x.key) → room ≤ pg.flatten.length → ∀ w', Sat e w' (IsCal q room day pg :: R) → K (.int .i64 2) w')
    (h0 : validT x.key.T = true → (∀ y ∈ pg.flatten, y.key ≠ x.key) → pg.flatten.length < room → ∀ pg' w', CalOk day pg' → pg'.flatten.Perm (x :: pg.flatten) → Sat e w' (IsCal q room day pg' :: R) → K (.int .i64 0) w') :
    Cl prog 9 #[.pointer (some ⟨q, 0, none⟩), .agg x.cs.toArray] w K := by
  refine calendar_Queue_Push_calls ?_
  unfold calendar_Queue_Push
  refine al_s (cs := x.cs) hS rfl fun c w2 k2 => ?_
  refine fld_at (fld_at (ld1_at k2 0 rfl (v := .int .i64 x.key.T) rfl ?_))
  refine vtime_Valid_s ht ?_
  cases hv : validT x.key.T with
  | false => exact not_f (iff_t (h1 hv _ k2.drop))
  | true =>
    refine not_t (iff_f ?_)
    have hvn := valid_nonneg hv
    obtain ⟨l, hl⟩ := hok.page x.key.T
    have hul := hok.up l (List.mem_of_getElem? hl)
    have hpl : pageN day x.key.T < pg.length := (List.getElem?_eq_some_iff.1 hl).1
    have hll : l.length ≤ 1000000 := by
      have := (List.sublist_flatten_of_mem (List.mem_of_getElem? hl)).length_le
      omega
    obtain ⟨vs, hvs, hpg, k3⟩ := cal_of k2.swap
    replace k3 : Sat e w2 (blk q 58 (.int .i64 room :: .int .i64 day :: .int .i64 (pg.flatten.length : Int) :: vs) :: sepL (rows vs pg) :: blk c 32 x.cs :: R) := k3
    obtain ⟨v, hv1⟩ : ∃ v, vs[pageN day x.key.T]? = some v := ⟨_, List.getElem?_eq_getElem (by omega)⟩
    have hback : ∀ w', Sat e w' (sepL (rows vs pg) :: blk q 58 (.int .i64 room :: .int .i64 day :: .int .i64 (pg.flatten.length : Int) :: vs) :: blk c 32 x.cs :: R) → Sat e w' (IsCal q room day pg :: R) := fun w' h' =>
      cal_mk hvs hpg (h'.selR [_, _, _] [_, _] [1, 0] (by decide) rfl)
    refine fld_at (fld_at (ld1_at k3 2 rfl (v := .int .i64 x.key.T) rfl ?_))
    refine cal_of_s hd hvn k3 rfl fun w4 k4 => ?_
    refine dr_s k4 fun w5 k5 => ?_
    refine ncP_p (ld1_at k5 0 rfl (cell3.trans hv1) ?_)
    refine fld_at (ldN_at k5 2 (vs := x.key.cs) rfl (by rfl) rfl ?_)
    refine place_s hll hul k5.swap (rows_rd hv1 hl) fun i w6 hp k6 => ?_
    refine xt_02 (xt_12 ?_)
    have hfnd := fnd_iff hp hul
    have hmem := hok.mem (k := x.key) hl
    cases hf : fnd l i x.key with
    | true => exact iff_t (h3 hv (hmem.2 (hfnd.1 hf)) _ (hback _ k6))
    | false =>
      have hne : ∀ y ∈ pg.flatten, y.key ≠ x.key := fun y hy hk => by
        have := hfnd.2 (hmem.1 ⟨y, hy, hk⟩)
        rw [hf] at this
        cases this
      refine iff_f ?_
      refine dr_s k6 fun w7 k7 => ?_
      refine ncP_p (fld_at (ld1_at k7 1 rfl (v := .int .i64 (pg.flatten.length : Int)) rfl ?_))
      refine ncP_p (fld_at (ld1_at k7 1 rfl (v := .int .i64 room) rfl ?_))
      refine ge_c (fun c1 => iff_t (h2 hv hne c1 _ (hback _ k7))) (fun c1 => iff_f ?_)
      refine dr_s k7 fun w8 k8 => ?_
      refine ncP_p (ld1_at k8 1 rfl (cell3.trans hv1) ?_)
      refine ldN_at k8 2 (vs := x.cs) rfl (by rfl) rfl ?_
      refine bsl1 (vs := x.cs) rfl rfl k8 fun bx w9 k9 => ?_
      refine ⟨ld1_at k9 2 rfl (cell3.trans hv1) ⟨rfl, rfl⟩, ?_⟩
      have k10 := Sat.focus (Sat.swap k9) (pageN day x.key.T) (rows_get hv1 hl)
      replace k10 : Sat e w9 (ownS 32 6 Msg.cs v l :: blk bx 32 x.cs :: sepL ((rows vs pg).eraseIdx (pageN day x.key.T)) :: blk q 58 (.int .i64 room :: .int .i64 day :: .int .i64 (pg.flatten.length : Int) :: vs) :: blk c 32 x.cs :: R) := k10.selR [_, _, _] [_, _, _] [0, 2, 1] (by decide) rfl
      refine insert_s hp.le hll k10 fun v' w11 k11 => ?_
      have hvc := k11.own_cells 0 rfl
      refine ncP_p (st1_at k11 2 rfl hvc (by rw [List.length_cons, List.length_cons, List.length_cons]; omega) set3 fun w12 k12 => ?_)
      replace k12 : Sat e w12 (ownS 32 6 Msg.cs v' (insAt l x i) :: sepL ((rows vs pg).eraseIdx (pageN day x.key.T)) :: blk q 58 (.int .i64 room :: .int .i64 day :: .int .i64 (pg.flatten.length : Int) :: vs.set (pageN day x.key.T) v') :: blk c 32 x.cs :: R) := k12
      refine ncP_p (fld_at (ld1_at k12 2 rfl (v := .int .i64 (pg.flatten.length : Int)) rfl ?_))
      refine inc_s (by omega) ?_
      refine ncP_p (fld_at (st1_at k12 2 rfl ⟨rfl, rfl⟩ (by rw [List.length_cons, List.length_cons, List.length_cons]; omega) rfl fun w13 k13 => ?_))
      have hperm := ins_flat (x := x) (i := i) hl
      refine h0 hv hne (by omega) (pg.set (pageN day x.key.T) (insAt l x i)) _ (hok.set (hp.up hul fun y hy => hne y (List.mem_flatten.2 ⟨l, List.mem_of_getElem? hl, hy⟩)) fun m hm => ?_) hperm ?_
      · rcases List.mem_append.1 ((insAt_perm l x i).mem_iff.1 hm) with h | h
        · exact hok.at' _ l hl m h
        · rw [List.mem_singleton.1 h]; exact ⟨hv, rfl⟩
      · refine cal_mk (vs := vs.set (pageN day x.key.T) v') (by rw [List.length_set]; exact hvs) (by rw [List.length_set]; exact hpg) ?_
        rw [hperm.length_eq, List.length_cons]
        have k14 := Sat.unfocus (pageN day x.key.T) (rows_get hv1 hl) k13
        rw [rows_set (by omega) hpl] at k14
        exact k14.selR [_, _, _] [_, _] [1, 0] (by decide) rfl

/-! ### First -/
structure FI (l : List Msg) (f : Bool) (x : Msg) : Prop where
  no : f = false → l = [] ∧ x = Msg.zero
  yes : f = true → x ∈ l ∧ ∀ y ∈ l, ¬ KeyLt y.key x.key
theorem first1_s {v : Value} {l : List Msg} {S : HP} {b5 b4 : Nat} {f : Bool} {x : Msg} (hS : Sat e w (S :: blk b5 4 [.bool f] :: blk b4 32 x.cs :: R)) (hr : ∀ g, S g → rdS 6 Msg.cs v l g)
    (hno : l = [] → ∀ w', Sat e w' (S :: blk b5 4 [.bool f] :: blk b4 32 x.cs :: R) → K (.tuple #[]) w')
    (hold : ∀ y, l[0]? = some y → f = true → ¬ KeyLt y.key x.key → ∀ w', Sat e w' (S :: blk b5 4 [.bool true] :: blk b4 32 x.cs :: R) → K (.tuple #[]) w')
    (hnew : ∀ y, l[0]? = some y → (f = true → KeyLt y.key x.key) → ∀ w', Sat e w' (S :: blk b5 4 [.bool true] :: blk b4 32 y.cs :: R) → K (.tuple #[]) w') :
    clV prog (.func (.func 46) #[] #[.pointer (some ⟨b5, 0, none⟩), .pointer (some ⟨b4, 0, none⟩)]) #[v] w K := by
  refine ⟨_, _, _, rfl, ?_⟩
  refine calendar_Queue_First_1_calls (t0 := v) (t1 := .pointer (some ⟨b5, 0, none⟩)) (t2 := .pointer (some ⟨b4, 0, none⟩)) ?_
  unfold calendar_Queue_First_1
  refine dr_s hS fun w2 h2 => ?_
  refine lnS_rd h2 0 rfl hr ?_
  refine gt_c (fun c1 => ?_) (fun c1 => ?_)
  · obtain ⟨y, hy⟩ := get_of_lt (l := l) (j := 0) (by omega)
    have hset : ∀ w', (f = true → KeyLt y.key x.key) → Sat e w' (S :: blk b5 4 [.bool f] :: blk b4 32 x.cs :: R) → ixS 6 v (.int .i64 0) w' fun t22 w => ldN 6 t22 w fun t23 w => stN 6 (.pointer (some ⟨b4, 0, none⟩)) t23 w fun _ w => stN 1 (.pointer (some ⟨b5, 0, none⟩)) (.bool true) w fun _ w => K (.tuple #[]) w := by
      intro w' hlt h3
      refine ixS_rd (j := 0) h3 0 rfl hr (fun _ => rfl) hy fun p hp => ?_
      refine ldN_of h3 0 rfl hp rfl ?_
      refine stN_at h3 2 rfl (vs := y.cs) rfl rfl (Nat.le_of_ble_eq_true rfl) (ints_flat _) (cs' := y.cs) (by kernel_rfl) fun w4 h4 => ?_
      refine st1_at h4 1 rfl ⟨rfl, rfl⟩ (Nat.zero_lt_one) rfl fun w5 h5 => ?_
      exact hnew y hy hlt _ h5
    refine gd_tt (ld1_at h2 1 rfl (v := .bool f) rfl (gd_tt (not_d (gd_tt ?_))))
    cases hf : f with
    | false =>
      refine gd_tf (gd_tf (gd_tf (gd_tf (gd_tf (gd_tf (gd_tf (gd_tf (gd_tt (pk_t (pk_t (iff_t ?_)))))))))))
      exact hset _ (fun h => by rw [hf] at h; cases h) h2
    | true =>
      refine gd_ff (gd_ff ?_)
      refine ixS_rd (j := 0) h2 0 rfl hr (fun _ => rfl) hy fun p hp => ?_
      refine gd_ff (fld_of hp fun p1 hp1 => gd_ff ?_)
      refine ldN_sub (us := y.key.cs) h2 0 rfl hp1 (by rfl) rfl ?_
      refine gd_ff (fld_at (gd_ff (ldN_at h2 2 (vs := x.key.cs) rfl (by rfl) rfl (gd_ff ?_))))
      refine vtime_Cmp_s h2 fun w3 h3 => ?_
      refine gd_ff (lt_c (fun c2 => gd_tt (pk_f (pk_t (iff_t ?_)))) (fun c2 => gd_tt (pk_f (pk_t (iff_f ?_)))))
      · exact hset _ (fun _ => cmpK_lt.1 c2) h3
      · subst hf
        exact hold y hy rfl (fun h => c2 (cmpK_lt.2 h)) _ h3
  · refine gd_ft (gd_ft (gd_ft ?_))
    refine gd_u (gd_u (gd_u (gd_u (gd_u (gd_u (gd_u (gd_u ?_)))))))
    refine gd_ft (pk_f (iff_f ?_))
    exact hno (List.length_eq_zero_iff.1 (by omega)) _ h2

theorem FI.step {l m : List Msg} {f : Bool} {x : Msg} (h : FI l f x) (hu : Upk m) : (m = [] → FI (l ++ m) f x) ∧ (∀ y, m[0]? = some y → f = true → ¬ KeyLt y.key x.key → FI (l ++ m) true x) ∧ (∀ y, m[0]? = some y → (f = true → KeyLt y.key x.key) → FI (l ++ m) true y) := by
  have hmin : ∀ y, m[0]? = some y → ∀ z ∈ m, ¬ KeyLt z.key y.key := by
    intro y hy z hz
    cases m with
    | nil => cases hz
    | cons a m =>
      simp at hy
      subst hy
      rcases List.mem_cons.1 hz with rfl | hz
      · exact KeyLt.irrefl _
      · exact fun h => (List.pairwise_cons.1 hu).1 z hz |>.asymm h
  refine ⟨fun hm => by rw [hm, List.append_nil]; exact h, fun y hy hf hn => ⟨fun h => (by cases h), fun _ => ?_⟩, fun y hy hf => ⟨fun h => (by cases h), fun _ => ?_⟩⟩
  · obtain ⟨h1, h2⟩ := h.yes hf
    refine ⟨List.mem_append_left _ h1, fun z hz => ?_⟩
    rcases List.mem_append.1 hz with hz | hz
    · exact h2 z hz
    · exact fun hlt => (keyLE_trans (hmin y hy z hz) hn) hlt
  · refine ⟨List.mem_append_right _ (List.mem_of_getElem? hy), fun z hz => ?_⟩
    rcases List.mem_append.1 hz with hz | hz
    · cases hfb : f with
      | false => rw [(h.no hfb).1] at hz; cases hz
      | true =>
        have h2 := (h.yes hfb).2 z hz
        exact fun hlt => h2 (hlt.trans (hf hfb))
    · exact hmin y hy z hz

theorem cal_First_s {q : Nat} {room day : Int} {pg : List (List Msg)} (hok : CalOk day pg) (hS : Sat e w (IsCal q room day pg :: R))
    (hno : pg.flatten = [] → ∀ w', Sat e w' (IsCal q room day pg :: R) → K (.tuple #[.agg Msg.zero.cs.toArray, .bool false]) w')
    (hyes : ∀ x, x ∈ pg.flatten → (∀ y ∈ pg.flatten, ¬ KeyLt y.key x.key) → ∀ w', Sat e w' (IsCal q room day pg :: R) → K (.tuple #[.agg x.cs.toArray, .bool true]) w') :
    Cl prog 21 #[.pointer (some ⟨q, 0, none⟩)] w K := by
  refine calendar_Queue_First_calls ?_
  unfold calendar_Queue_First
  rw [zero_32, zero_4]
  refine al_s (cs := Msg.zero.cs) hS rfl fun b2 w2 h2 => ?_
  refine bld_s Msg.zero.cs (by kernel_rfl) ?_
  refine al_s (cs := Msg.zero.cs) h2 rfl fun b4 w3 h3 => ?_
  refine al_s (cs := [.bool false]) h3 rfl fun b5 w4 h4 => ?_
  refine stN_at h4 1 rfl (vs := Msg.zero.cs) rfl rfl (Nat.le_of_ble_eq_true rfl) (ints_flat _) (cs' := Msg.zero.cs) (by kernel_rfl) fun w5 h5 => ?_
  refine st1_at h5 0 rfl ⟨rfl, rfl⟩ (by decide) rfl fun w6 h6 => ?_
  replace h6 : Sat e w6 (IsCal q room day pg :: blk b5 4 [.bool false] :: blk b4 32 Msg.zero.cs :: blk b2 32 Msg.zero.cs :: R) := h6.selR [_, _, _, _] [_, _, _, _] [3, 0, 1, 2] (by decide) rfl
  obtain ⟨vs, hvs, hpg, h7⟩ := cal_of h6
  refine ncP_p (fld_at (ldN_at h7 0 rfl (vs := vs) (by show List.take 8 vs = vs; exact List.take_of_length_le (by omega)) hvs ?_))
  refine lpi1 (fun z t15 w => ∃ (j : Nat) (f : Bool) (x : Msg), t15 = .int .i64 (j : Int) ∧ z = 8 - j ∧ j ≤ 8 ∧ FI (pg.take j).flatten f x ∧ Sat e w (sepL (rows vs pg) :: blk b5 4 [.bool f] :: blk b4 32 x.cs :: blk q 58 (.int .i64 room :: .int .i64 day :: .int .i64 (pg.flatten.length : Int) :: vs) :: blk b2 32 Msg.zero.cs :: R)) 8
    ⟨0, false, Msg.zero, rfl, rfl, by decide, ⟨fun _ => ⟨rfl, rfl⟩, fun h => by cases h⟩, h7.selR [_, _, _, _, _] [_, _, _, _, _] [1, 2, 3, 0, 4] (by decide) rfl⟩ ?_
  rintro z _ w g ⟨j, f, x, rfl, rfl, hj, hfi, h8⟩ hg
  refine lt_c (fun c1 => iff_t ?_) (fun c1 => iff_f ?_)
  · obtain ⟨v, hv⟩ : ∃ v, vs[j]? = some v := ⟨_, List.getElem?_eq_getElem (by omega)⟩
    obtain ⟨l, hl⟩ : ∃ l, pg[j]? = some l := ⟨_, List.getElem?_eq_getElem (by omega)⟩
    refine ixV_1 (n := 8) (e := 36) (by kernel_rfl) (by kernel_rfl) (by kernel_rfl) (by kernel_rfl) (by omega) hv ?_
    obtain ⟨s1, s2, s3⟩ := hfi.step (hok.up l (List.mem_of_getElem? hl))
    have htk : (pg.take (j + 1)).flatten = (pg.take j).flatten ++ l := by
      rw [List.take_succ_eq_append_getElem (by omega), List.flatten_append, (List.getElem?_eq_some_iff.1 hl).2]
      simp
    rw [← htk] at s1 s2 s3
    refine first1_s h8 (rows_rd hv hl) (fun hl0 w9 h9 => ?_) (fun y hy hf hn w9 h9 => ?_) (fun y hy hf w9 h9 => ?_)
    · exact inc_s (by omega) (hg _ _ _ (by omega) ⟨j + 1, f, x, rfl, rfl, by omega, s1 hl0, h9⟩)
    · exact inc_s (by omega) (hg _ _ _ (by omega) ⟨j + 1, true, x, rfl, rfl, by omega, s2 y hy hf hn, h9⟩)
    · exact inc_s (by omega) (hg _ _ _ (by omega) ⟨j + 1, true, y, rfl, rfl, by omega, s3 y hy hf, h9⟩)
  · have hj8 : j = 8 := by omega
    subst hj8
    rw [List.take_of_length_le (by omega)] at hfi
    refine dr_s h8 fun w9 h9 => ?_
    refine ldN_at h9 2 (vs := x.cs) rfl (by rfl) rfl ?_
    refine ld1_at h9 1 rfl (v := .bool f) rfl ?_
    refine stN_at h9 4 rfl (vs := x.cs) rfl rfl (Nat.le_of_ble_eq_true rfl) (ints_flat _) (cs' := x.cs) (by kernel_rfl) fun w10 h10 => ?_
    refine ⟨ld1_at h10 1 rfl (v := .bool f) rfl ⟨rfl, rfl⟩, ?_⟩
    refine ldN_at h10 4 (vs := x.cs) rfl (by rfl) rfl ?_
    have hend : Sat e w10 (IsCal q room day pg :: R) := cal_mk hvs hpg (h10.selR [_, _, _, _, _] [_, _] [3, 0] (by decide) rfl)
    cases f with
    | false =>
      obtain ⟨e1, e2⟩ := hfi.no rfl
      subst e2
      exact hno e1 _ hend
    | true =>
      obtain ⟨e1, e2⟩ := hfi.yes rfl
      exact hyes x e1 e2 _ hend
end Go.Proofs.Ytlmakkjbcmhaeaa
