/- The document's queues: First, Pop, Remove, Without, Len, List, Below. Conditions: at most a thousand messages. -/
import Derived.Test.YtlmakkjbcmhaeaaPrioR
namespace Go.Proofs.Ytlmakkjbcmhaeaa
open Go Go.E
set_option maxRecDepth 100000
variable {e w : World} {R : List HP} {K : KV}

def without (l : List Msg) (k : Key) : List Msg := l.filter fun x => !decide (x.key = k)
theorem filterM_snoc {p : Msg → Bool} {l : List Msg} {j : Nat} {x : Msg} (hx : l[j]? = some x) : (l.take (j + 1)).filter p = (l.take j).filter p ++ if p x then [x] else [] := by
  rw [take_snoc hx, List.filter_append]
  cases hpx : p x <;> simp [hpx]
theorem ref03_Without_s {v : Value} {l : List Msg} {k : Key} {S : HP} (hl : l.length ≤ 1000000) (hS : Sat e w (S :: R)) (hr : ∀ g, S g → rdS 6 Msg.cs v l g)
    (hk : ∀ v' w', Sat e w' (ownS 32 6 Msg.cs v' (without l k) :: S :: R) → K v' w') : Cl prog 42 #[v, .agg k.cs.toArray] w K := by
  refine pacelineref03_Without_calls ?_
  unfold pacelineref03_Without
  rw [zero_32]
  refine al_s (cs := k.cs) hS rfl fun b w2 h2 => ?_
  refine bsl0 h2 Msg.cs fun v1 w3 h3 => ?_
  refine lpi2 (fun z t5 t6 w => ∃ j : Nat, j ≤ l.length ∧ t6 = .int .i64 j ∧ z = l.length - j ∧ Sat e w (ownS 32 6 Msg.cs t5 ((l.take j).filter fun x => !decide (x.key = k)) :: blk b 30 k.cs :: S :: R)) l.length
    ⟨0, Nat.zero_le _, rfl, rfl, h3⟩ ?_
  rintro z t5 _ w g ⟨j, hj, rfl, rfl, h4⟩ hg
  refine lnS_rd h4 2 rfl hr ?_
  refine lt_c (fun c => iff_t ?_) (fun c => iff_f ?_)
  · obtain ⟨x, hx⟩ := get_of_lt (l := l) (j := j) (by omega)
    have hn2 := List.length_filter_le (fun x : Msg => !decide (x.key = k)) (l.take j)
    have hn3 : (l.take j).length ≤ 1000000 := by simp; omega
    refine J1.cut (fun t5 w => Sat e w (ownS 32 6 Msg.cs t5 ((l.take (j + 1)).filter fun x => !decide (x.key = k)) :: blk b 30 k.cs :: S :: R)) (fun k2 hcut => ?_) (fun t5 w h5 => ?_)
    · rw [filterM_snoc hx] at hcut
      refine dr_s h4 fun w5 h5 => ?_
      refine ixS_rd h5 2 rfl hr (fun _ => rfl) hx fun p hp => ?_
      refine fld_of hp fun p1 hp1 => ?_
      refine ldN_sub (us := x.key.cs) h5 2 rfl hp1 (by rfl) rfl ?_
      refine ldN_at h5 1 (vs := k.cs) rfl (by rfl) rfl ?_
      refine bO_ne (ns := x.key.ns) (ms := k.ns) eqT_30 agg_30 egt_30 (by decide) rfl ?_
      rw [Key.eq_ns]
      by_cases hxk : x.key = k
      · rw [decide_eq_true hxk] at hcut ⊢
        refine iff_f (hcut _ _ ?_)
        simpa using h5
      · rw [decide_eq_false hxk] at hcut ⊢
        refine iff_t ?_
        refine ixS_rd h5 2 rfl hr (fun _ => rfl) hx fun p hp => ?_
        refine ldN_of h5 2 rfl hp rfl ?_
        refine push1 te_36 (f := Msg.cs) (fun _ => rfl) (fun _ => ints_flat _) h5 (x := x) rfl (by omega) fun v' w6 h6 => ?_
        exact hcut _ _ h6
    · refine inc_s (by omega) ?_
      exact hg _ _ _ _ (by omega) ⟨j + 1, by omega, rfl, rfl, h5⟩
  · obtain rfl : j = l.length := by omega
    rw [List.take_length] at h4
    exact hk _ _ (h4.selR [_, _, _] [_, _] [0, 2] (by decide) rfl)
theorem ref03_Len_s {q : Nat} {room : Int} {l : List Msg} (hS : Sat e w (IsPR q room l :: R)) (hk : K (.int .i64 (l.length : Int)) w) : Cl prog 26 #[.pointer (some ⟨q, 0, none⟩)] w K := by
  obtain ⟨v, h1⟩ := pr_of hS
  refine pacelineref03_Queue_Len_calls ?_
  unfold pacelineref03_Queue_Len
  refine ncP_p (fld_at (ld1_at h1 0 rfl (v := v) rfl ?_))
  exact lnS_rd h1 1 rfl (fun g hg => own_rd hg) hk
theorem ref03_First_none {q : Nat} {room : Int} (hS : Sat e w (IsPR q room [] :: R)) (hk : ∀ w', Sat e w' (IsPR q room [] :: R) → K (.tuple #[.agg Msg.zero.cs.toArray, .bool false]) w') : Cl prog 22 #[.pointer (some ⟨q, 0, none⟩)] w K := by
  refine pacelineref03_Queue_First_calls ?_
  unfold pacelineref03_Queue_First
  rw [zero_32]
  obtain ⟨v, h1⟩ := pr_of hS
  refine al_s (cs := ints [0, 0, 0, 0, 0, 0]) h1 rfl fun d w3 h3 => ?_
  refine ncP_p (fld_at (ld1_at h3 1 rfl (v := v) rfl ?_))
  refine lnS_rd h3 2 rfl (fun g hg => own_rd hg) ?_
  refine eq_t rfl (iff_t ?_)
  refine bld_s Msg.zero.cs (by kernel_rfl) ?_
  refine stN_at h3 0 rfl (vs := Msg.zero.cs) rfl rfl (Nat.le_of_ble_eq_true rfl) (ints_flat _) (cs' := Msg.zero.cs) (by kernel_rfl) fun w4 h4 => ?_
  refine ldN_at h4 0 (vs := Msg.zero.cs) rfl (by rfl) rfl ?_
  exact hk _ (pr_mk h4.drop)
theorem ref03_First_s {q : Nat} {room : Int} {l : List Msg} {x : Msg} (hx : l[0]? = some x) (hS : Sat e w (IsPR q room l :: R))
    (hk : ∀ w', Sat e w' (IsPR q room l :: R) → K (.tuple #[.agg x.cs.toArray, .bool true]) w') : Cl prog 22 #[.pointer (some ⟨q, 0, none⟩)] w K := by
  refine pacelineref03_Queue_First_calls ?_
  unfold pacelineref03_Queue_First
  rw [zero_32]
  obtain ⟨v, h1⟩ := pr_of hS
  have h0 := (List.getElem?_eq_some_iff.1 hx).1
  refine al_s (cs := ints [0, 0, 0, 0, 0, 0]) h1 rfl fun d w3 h3 => ?_
  refine ncP_p (fld_at (ld1_at h3 1 rfl (v := v) rfl ?_))
  refine lnS_rd h3 2 rfl (fun g hg => own_rd hg) ?_
  refine eq_f (by omega) (iff_f ?_)
  refine ncP_p (fld_at (ld1_at h3 1 rfl (v := v) rfl ?_))
  refine ixS_rd (j := 0) h3 2 rfl (fun g hg => own_rd hg) (fun _ => rfl) hx fun p hp => ?_
  refine ldN_of h3 2 rfl hp rfl ?_
  refine stN_at h3 0 rfl (vs := x.cs) rfl rfl (Nat.le_of_ble_eq_true rfl) (ints_flat _) (cs' := x.cs) (by kernel_rfl) fun w4 h4 => ?_
  refine ldN_at h4 0 (vs := x.cs) rfl (by rfl) rfl ?_
  exact hk _ (pr_mk h4.drop)
theorem ref03_Pop_none {q : Nat} {room : Int} (hS : Sat e w (IsPR q room [] :: R)) (hk : ∀ w', Sat e w' (IsPR q room [] :: R) → K (.tuple #[.agg Msg.zero.cs.toArray, .bool false]) w') : Cl prog 23 #[.pointer (some ⟨q, 0, none⟩)] w K := by
  refine pacelineref03_Queue_Pop_calls ?_
  unfold pacelineref03_Queue_Pop
  rw [zero_32]
  refine al_s (cs := ints [0, 0, 0, 0, 0, 0]) hS rfl fun d w3 h3 => ?_
  refine ref03_First_none h3.swap fun w4 h4 => ?_
  refine xt_02 (xt_12 ?_)
  refine al_s (cs := ints [0, 0, 0, 0, 0, 0]) h4 rfl fun d2 w5 h5 => ?_
  refine stN_at h5 0 rfl (vs := Msg.zero.cs) rfl rfl (Nat.le_of_ble_eq_true rfl) (ints_flat _) (cs' := Msg.zero.cs) (by kernel_rfl) fun w6 h6 => ?_
  refine iff_f ?_
  refine ldN_at h6 0 (vs := Msg.zero.cs) rfl (by rfl) rfl ?_
  refine stN_at h6 2 rfl (vs := Msg.zero.cs) rfl rfl (Nat.le_of_ble_eq_true rfl) (ints_flat _) (cs' := Msg.zero.cs) (by kernel_rfl) fun w7 h7 => ?_
  refine ldN_at h7 2 (vs := Msg.zero.cs) rfl (by rfl) rfl ?_
  exact hk _ (h7.selR [_, _, _] [_] [1] (by decide) rfl)
theorem ref03_Pop_s {q : Nat} {room : Int} {l : List Msg} {x : Msg} (hl : l.length ≤ 1000) (hx : l[0]? = some x) (hS : Sat e w (IsPR q room l :: R))
    (hk : ∀ w', Sat e w' (IsPR q room (without l x.key) :: R) → K (.tuple #[.agg x.cs.toArray, .bool true]) w') : Cl prog 23 #[.pointer (some ⟨q, 0, none⟩)] w K := by
  refine pacelineref03_Queue_Pop_calls ?_
  unfold pacelineref03_Queue_Pop
  rw [zero_32]
  refine al_s (cs := ints [0, 0, 0, 0, 0, 0]) hS rfl fun d w3 h3 => ?_
  refine ref03_First_s hx h3.swap fun w4 h4 => ?_
  refine xt_02 (xt_12 ?_)
  refine al_s (cs := ints [0, 0, 0, 0, 0, 0]) h4 rfl fun d2 w5 h5 => ?_
  refine stN_at h5 0 rfl (vs := x.cs) rfl rfl (Nat.le_of_ble_eq_true rfl) (ints_flat _) (cs' := x.cs) (by kernel_rfl) fun w6 h6 => ?_
  refine iff_t ?_
  refine dr_s h6 fun w7 h7 => ?_
  obtain ⟨v, h8⟩ := pr_of (h7.selR [_, _, _] [_, _, _] [1, 0, 2] (by decide) rfl)
  refine ncP_p (fld_at (ld1_at h8 0 rfl (v := v) rfl ?_))
  refine fld_at (ldN_at h8 2 (vs := x.key.cs) rfl (by rfl) rfl ?_)
  refine ref03_Without_s (by omega) (h8.pick 1 rfl) (fun g hg => own_rd hg) fun v' w8 h9 => ?_
  refine ncP_p (fld_at ?_)
  refine st1_at h9 2 rfl (h9.own_cells 0 rfl) (Nat.le_of_ble_eq_true rfl) rfl fun w9 h10 => ?_
  refine ldN_at h10 3 (vs := x.cs) rfl (by rfl) rfl ?_
  refine stN_at h10 4 rfl (vs := x.cs) rfl rfl (Nat.le_of_ble_eq_true rfl) (ints_flat _) (cs' := x.cs) (by kernel_rfl) fun w10 h11 => ?_
  refine ldN_at h11 4 (vs := x.cs) rfl (by rfl) rfl ?_
  exact hk _ (pr_mk (h11.selR [_, _, _, _, _] [_, _] [2, 0] (by decide) rfl))
theorem ref03_Remove_none {q : Nat} {room : Int} {l : List Msg} {k : Key} (hl : l.length ≤ 1000) (hno : ∀ y ∈ l, y.key ≠ k) (hS : Sat e w (IsPR q room l :: R)) (hk : ∀ w', Sat e w' (IsPR q room l :: R) → K (.tuple #[.agg Msg.zero.cs.toArray, .bool false]) w') : Cl prog 15 #[.pointer (some ⟨q, 0, none⟩), .agg k.cs.toArray] w K := by
  refine pacelineref03_Queue_Remove_calls ?_
  unfold pacelineref03_Queue_Remove
  rw [zero_32]
  refine al_s (cs := k.cs) hS rfl fun c w2 h2 => ?_
  refine al_s (cs := ints [0, 0, 0, 0, 0, 0]) h2 rfl fun d w3 h3 => ?_
  refine ldN_at h3 1 (vs := k.cs) rfl (by rfl) rfl ?_
  refine ref03_find_s (by omega) (h3.selR [_, _, _] [_, _, _] [2, 0, 1] (by decide) rfl) (fun _ w4 h4 => ?_) (fun i x hx hxk => absurd hxk (hno x (List.mem_of_getElem? hx)))
  refine lt_t (by decide) (iff_t ?_)
  refine bld_s Msg.zero.cs (by kernel_rfl) ?_
  refine stN_at h4 1 rfl (vs := Msg.zero.cs) rfl rfl (Nat.le_of_ble_eq_true rfl) (ints_flat _) (cs' := Msg.zero.cs) (by kernel_rfl) fun w5 h5 => ?_
  refine ldN_at h5 1 (vs := Msg.zero.cs) rfl (by rfl) rfl ?_
  exact hk _ (h5.selR [_, _, _] [_] [0] (by decide) rfl)
theorem ref03_Remove_s {q : Nat} {room : Int} {l : List Msg} {x : Msg} (hl : l.length ≤ 1000) (hx : x ∈ l) (hu : (l.map Msg.key).Nodup) (hS : Sat e w (IsPR q room l :: R))
    (hk : ∀ w', Sat e w' (IsPR q room (without l x.key) :: R) → K (.tuple #[.agg x.cs.toArray, .bool true]) w') : Cl prog 15 #[.pointer (some ⟨q, 0, none⟩), .agg x.key.cs.toArray] w K := by
  refine pacelineref03_Queue_Remove_calls ?_
  unfold pacelineref03_Queue_Remove
  rw [zero_32]
  refine al_s (cs := x.key.cs) hS rfl fun c w2 h2 => ?_
  refine al_s (cs := ints [0, 0, 0, 0, 0, 0]) h2 rfl fun d w3 h3 => ?_
  refine ldN_at h3 1 (vs := x.key.cs) rfl (by rfl) rfl ?_
  refine ref03_find_s (by omega) (h3.selR [_, _, _] [_, _, _] [2, 0, 1] (by decide) rfl) (fun hno => absurd rfl (hno x hx)) (fun i y hy hyk _ w4 h4 => ?_)
  have hyx : y = x := by
    obtain ⟨j, hj⟩ := List.mem_iff_getElem?.1 hx
    have e1 : (l.map Msg.key)[i]? = some x.key := by simp [hy, hyk]
    have e2 : (l.map Msg.key)[j]? = some x.key := by simp [hj]
    have hil := (List.getElem?_eq_some_iff.1 hy).1
    have := (List.getElem?_inj (by simpa using hil) hu).1 (e1.trans e2.symm)
    subst this
    rw [hj] at hy
    injection hy with hy
    exact hy.symm
  subst hyx
  obtain ⟨v, h5⟩ := pr_of h4
  refine lt_f (by omega) (iff_f ?_)
  refine ncP_p (fld_at (ld1_at h5 0 rfl (v := v) rfl ?_))
  refine ixS_rd h5 1 rfl (fun g hg => own_rd hg) (fun _ => rfl) hy fun p hp => ?_
  refine ldN_of h5 1 rfl hp rfl ?_
  refine al_s (cs := ints [0, 0, 0, 0, 0, 0]) h5 rfl fun d2 w6 h6 => ?_
  refine stN_at h6 0 rfl (vs := y.cs) rfl rfl (Nat.le_of_ble_eq_true rfl) (ints_flat _) (cs' := y.cs) (by kernel_rfl) fun w7 h7 => ?_
  refine dr_s h7 fun w8 h8 => ?_
  refine ncP_p (fld_at (ld1_at h8 1 rfl (v := v) rfl ?_))
  refine ldN_at h8 4 (vs := y.key.cs) rfl (by rfl) rfl ?_
  refine ref03_Without_s (by omega) (h8.pick 2 rfl) (fun g hg => own_rd hg) fun v' w9 h9 => ?_
  refine ncP_p (fld_at ?_)
  refine st1_at h9 3 rfl (h9.own_cells 0 rfl) (Nat.le_of_ble_eq_true rfl) rfl fun w10 h10 => ?_
  refine ldN_at h10 2 (vs := y.cs) rfl (by rfl) rfl ?_
  refine stN_at h10 4 rfl (vs := y.cs) rfl rfl (Nat.le_of_ble_eq_true rfl) (ints_flat _) (cs' := y.cs) (by kernel_rfl) fun w11 h11 => ?_
  refine ldN_at h11 4 (vs := y.cs) rfl (by rfl) rfl ?_
  exact hk _ (pr_mk (h11.selR [_, _, _, _, _, _] [_, _] [3, 0] (by decide) rfl))
theorem ref03_List_s {q : Nat} {room : Int} {l : List Msg} (hl : l.length ≤ 1000) (hS : Sat e w (IsPR q room l :: R))
    (hk : ∀ v w', Sat e w' (ownS 32 6 Msg.cs v l :: IsPR q room l :: R) → K v w') : Cl prog 19 #[.pointer (some ⟨q, 0, none⟩)] w K := by
  refine pacelineref03_Queue_List_calls ?_
  unfold pacelineref03_Queue_List
  refine bsl0 hS Msg.cs fun v1 w2 h2 => ?_
  obtain ⟨v, h3⟩ := pr_of h2.swap
  refine ncP_p (fld_at (ld1_at h3 0 rfl (v := v) rfl ?_))
  refine apS_own te_36 und_36 (f := Msg.cs) (fun _ => rfl) (fun _ => ints_flat _) (h3.selR [_, _, _] [_, _, _] [2, 1, 0] (by decide) rfl) (fun g hg => own_rd hg) (by simp; omega) fun v2 w3 h4 => ?_
  rw [List.nil_append] at h4
  exact hk _ _ (Sat.swap (pr_mk (h4.selR [_, _, _] [_, _, _] [2, 1, 0] (by decide) rfl)))
theorem ref03_Below_s {q : Nat} {room t : Int} {l : List Msg} (hl : l.length ≤ 1000) (hS : Sat e w (IsPR q room l :: R))
    (hk : ∀ v w', Sat e w' (ownS 32 6 Msg.cs v (l.filter fun x => decide (x.key.T < t)) :: IsPR q room l :: R) → K v w') : Cl prog 25 #[.pointer (some ⟨q, 0, none⟩), .int .i64 t] w K := by
  refine pacelineref03_Queue_Below_calls ?_
  unfold pacelineref03_Queue_Below
  rw [zero_32]
  refine bsl0 hS Msg.cs fun v1 w2 h2 => ?_
  obtain ⟨v, h3⟩ := pr_of h2.swap
  refine lpi2 (fun z t5 t6 w => ∃ j : Nat, j ≤ l.length ∧ t6 = .int .i64 j ∧ z = l.length - j ∧ Sat e w (ownS 32 6 Msg.cs t5 ((l.take j).filter fun x => decide (x.key.T < t)) :: blk q 69 [.int .i64 room, v] :: ownS 32 6 Msg.cs v l :: R)) l.length
    ⟨0, Nat.zero_le _, rfl, rfl, h3.selR [_, _, _] [_, _, _] [2, 0, 1] (by decide) rfl⟩ ?_
  rintro z t5 _ w g ⟨j, hj, rfl, rfl, h4⟩ hg
  refine ncP_p (fld_at (ld1_at h4 1 rfl (v := v) rfl ?_))
  refine lnS_rd h4 2 rfl (fun g hg => own_rd hg) ?_
  refine lt_c (fun c => iff_t ?_) (fun c => iff_f ?_)
  · obtain ⟨x, hx⟩ := get_of_lt (l := l) (j := j) (by omega)
    have hn2 := List.length_filter_le (fun x : Msg => decide (x.key.T < t)) (l.take j)
    have hn3 : (l.take j).length ≤ 1000000 := by simp; omega
    refine J1.cut (fun t5 w => Sat e w (ownS 32 6 Msg.cs t5 ((l.take (j + 1)).filter fun x => decide (x.key.T < t)) :: blk q 69 [.int .i64 room, v] :: ownS 32 6 Msg.cs v l :: R)) (fun k2 hcut => ?_) (fun t5 w h5 => ?_)
    · rw [filterM_snoc hx] at hcut
      refine ncP_p (fld_at (ld1_at h4 1 rfl (v := v) rfl ?_))
      refine ixS_rd h4 2 rfl (fun g hg => own_rd hg) (fun _ => rfl) hx fun p hp => ?_
      refine fld_of hp fun p1 hp1 => fld_of hp1 fun p2 hp2 => ?_
      refine ld1_of (v := .int .i64 x.key.T) h4 2 rfl hp2 rfl ?_
      refine lt_c (fun c2 => iff_t ?_) (fun c2 => iff_f ?_)
      · rw [decide_eq_true c2] at hcut
        refine ncP_p (fld_at (ld1_at h4 1 rfl (v := v) rfl ?_))
        refine ixS_rd h4 2 rfl (fun g hg => own_rd hg) (fun _ => rfl) hx fun p hp => ?_
        refine ldN_of h4 2 rfl hp rfl ?_
        refine push1 te_36 (f := Msg.cs) (fun _ => rfl) (fun _ => ints_flat _) h4 (x := x) rfl (by omega) fun v' w6 h6 => ?_
        exact hcut _ _ h6
      · rw [decide_eq_false c2] at hcut
        refine hcut _ _ ?_
        simpa using h4
    · refine inc_s (by omega) ?_
      exact hg _ _ _ _ (by omega) ⟨j + 1, by omega, rfl, rfl, h5⟩
  · obtain rfl : j = l.length := by omega
    rw [List.take_length] at h4
    exact hk _ _ (Sat.swap (pr_mk (h4.selR [_, _, _] [_, _, _] [1, 2, 0] (by decide) rfl)))
end Go.Proofs.Ytlmakkjbcmhaeaa
