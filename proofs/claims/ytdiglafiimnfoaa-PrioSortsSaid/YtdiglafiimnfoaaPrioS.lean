/- The law PrioSorts. Conditions: none. -/
import Derived.Test.YtdiglafiimnfoaaPrioC
import Derived.Test.YtdiglafiimnfoaaPrioR
namespace Go.Proofs.Ytdiglafiimnfoaa
open Go Go.E
set_option maxRecDepth 100000
variable {e w : World} {R : List HP} {K : KV}

theorem AtOk.nodup {m : List (Key × Nat)} {l : List Msg} (h : AtOk m l) : (l.map Msg.key).Nodup := by
  rw [List.nodup_iff_pairwise_ne, List.pairwise_map, List.pairwise_iff_getElem]
  intro i j hi hj hij he
  have := h.inj (List.getElem?_eq_getElem hi) (List.getElem?_eq_getElem hj) he
  omega
theorem prio_nodup {q : Nat} {room : Int} {l : List Msg} (h : Sat e w (IsPrio q room l :: R)) : (l.map Msg.key).Nodup := by
  obtain ⟨_, _, _, ha, _⟩ := prio_of h
  exact ha.nodup
theorem pushE_in {room : Int} {l : List Msg} {x : Msg} (h : ∃ y ∈ l, y.key = x.key) : pushE room l x = 3 := by
  obtain ⟨y, hy, hk⟩ := h
  exact if_pos (List.any_eq_true.2 ⟨y, hy, by simpa using hk⟩)
theorem pushE_ok {room : Int} {l : List Msg} {x : Msg} (h : ∀ y ∈ l, y.key ≠ x.key) (hr : ¬ room ≤ l.length) : pushE room l x = 0 := by
  unfold pushE
  rw [if_neg, if_neg hr]
  intro ha
  obtain ⟨y, hy, hk⟩ := List.any_eq_true.1 ha
  exact h y hy (by simpa using hk)
theorem pushE_full {room : Int} {l : List Msg} {x : Msg} (h : ∀ y ∈ l, y.key ≠ x.key) (hr : room ≤ l.length) : pushE room l x = 2 := by
  unfold pushE
  rw [if_neg, if_pos hr]
  intro ha
  obtain ⟨y, hy, hk⟩ := List.any_eq_true.1 ha
  exact h y hy (by simpa using hk)
/-- What is popped is below all that stays. -/
theorem pop_below {l l' : List Msg} {x : Msg} (hn : (l.map Msg.key).Nodup) (hh : Heapy l l.length) (hx : l[0]? = some x) (hp : (l' ++ [x]).Perm l) : ∀ y ∈ l', KeyLt x.key y.key := by
  intro y hy
  have hyl : y ∈ l := hp.subset (List.mem_append_left _ hy)
  obtain ⟨i, hi⟩ := List.mem_iff_getElem?.1 hyl
  have hmin := hh.min (Nat.le_refl _) hx i y (List.getElem?_eq_some_iff.1 hi).1 hi
  have hn2 : ((l' ++ [x]).map Msg.key).Nodup := (hp.map Msg.key).nodup_iff.2 hn
  rw [List.map_append, List.nodup_append] at hn2
  have hne : y.key ≠ x.key := hn2.2.2 y.key (List.mem_map.2 ⟨y, hy, rfl⟩) x.key (by simp)
  rcases KeyLt.tri x.key y.key with h | h | h
  · exact h
  · exact absurd h.symm hne
  · exact absurd h hmin

theorem prioSorts_s {v : Value} {l : List Msg} {S : HP} (hS : Sat e w (S :: R)) (hr : ∀ g, S g → rdS 6 Msg.cs v l g)
    (hk : ∀ w', Sat e w' (S :: R) → K (.bool true) w') : Cl prog 9 #[v] w K := by
  refine pacelinelaw03_PrioSorts_calls ?_
  unfold pacelinelaw03_PrioSorts
  refine lnS_rd hS 0 rfl hr ?_
  refine gt_c (fun c1 => iff_t (hk _ hS)) (fun c1 => iff_f ?_)
  refine prio_New_s hS fun q w1 h1 => ?_
  rw [show max (0 : Int) (min 64 64) = 64 from by decide] at h1
  refine ref03_New_s h1 fun q' w2 h2 => ?_
  rw [show max (0 : Int) (min 64 64) = 64 from by decide] at h2
  refine lpi2 (fun z t5 t6 w => ∃ (j : Nat) (lh lr : List Msg), t5 = .int .i64 (lh.length : Int) ∧ t6 = .int .i64 j ∧ z = l.length - j ∧ j ≤ l.length ∧ lh.length ≤ j ∧ lr.Perm lh ∧ Heapy lh lh.length ∧ Sat e w (IsPrio q 64 lh :: IsPR q' 64 lr :: S :: R)) l.length
    ⟨0, [], [], rfl, rfl, rfl, Nat.zero_le _, Nat.le_refl _, .refl _, (fun i x y _ h => by simp at h), h2.swap⟩ ?_
  rintro z _ _ w g1 ⟨j, lh, lr, rfl, rfl, rfl, hj, hlj, hpr, hh, h3⟩ hg
  refine lnS_rd h3 2 rfl hr ?_
  refine lt_c (fun c2 => iff_t ?_) (fun c2 => iff_f ?_)
  · obtain ⟨x, hx⟩ := get_of_lt (l := l) (j := j) (by omega)
    refine J1.cut (fun t w => ∃ (lh lr : List Msg), t = .int .i64 (lh.length : Int) ∧ lh.length ≤ j + 1 ∧ lr.Perm lh ∧ Heapy lh lh.length ∧ Sat e w (IsPrio q 64 lh :: IsPR q' 64 lr :: S :: R)) (fun k2 hcut => ?_) ?_
    · refine ixS_rd h3 2 rfl hr (fun _ => rfl) hx fun p hp => ?_
      refine ldN_of h3 2 rfl hp rfl ?_
      by_cases hin : ∃ y ∈ lh, y.key = x.key
      · have e3 : pushE 64 lh x = 3 := pushE_in hin
        refine prio_Push_s (by omega) h3 (fun _ w4 h4 => ?_) (fun h0 => by rw [e3] at h0; cases h0)
        rw [e3]
        refine ixS_rd h4 2 rfl hr (fun _ => rfl) hx fun p hp => ?_
        refine ldN_of h4 2 rfl hp rfl ?_
        obtain ⟨y, hy, hyk⟩ := hin
        refine ref03_Push_s (by rw [hpr.length_eq]; omega) h4.swap (fun _ w5 h5 => ?_) (fun hne => absurd hyk (hne y (hpr.mem_iff.2 hy))) (fun hne => absurd hyk (hne y (hpr.mem_iff.2 hy)))
        refine ne_f rfl (iff_f (eq_f (by decide) (iff_f ?_)))
        exact hcut _ _ ⟨lh, lr, rfl, by omega, hpr, hh, h5.swap⟩
      · have hne : ∀ y ∈ lh, y.key ≠ x.key := fun y hy hk => hin ⟨y, hy, hk⟩
        have e0 : pushE 64 lh x = 0 := pushE_ok hne (by omega)
        refine prio_Push_s (by omega) h3 (fun h => absurd e0 h) (fun _ _ _ l' w4 hp hheap h4 => ?_)
        refine ixS_rd h4 2 rfl hr (fun _ => rfl) hx fun p hpx => ?_
        refine ldN_of h4 2 rfl hpx rfl ?_
        refine ref03_Push_s (by rw [hpr.length_eq]; omega) h4.swap (fun ⟨y, hy, hyk⟩ => absurd hyk (hne y (hpr.mem_iff.1 hy))) (fun _ h => by rw [hpr.length_eq] at h; omega) (fun _ _ p w5 _ h5 => ?_)
        refine ne_f rfl (iff_f (eq_t rfl (iff_t (inc_s (by omega) ?_))))
        have hl' : l'.length = lh.length + 1 := by rw [hp.length_eq]; simp
        exact hcut _ _ ⟨l', _, by rw [hl'], by omega, (insAt_perm lr x p).trans ((hpr.append_right [x]).trans hp.symm), hheap hh, h5.swap⟩
    · rintro _ w ⟨lh', lr', rfl, hlj', hpr', hh', h4⟩
      refine inc_s (by omega) ?_
      exact hg _ _ _ _ (by omega) ⟨j + 1, lh', lr', rfl, rfl, rfl, by omega, hlj', hpr', hh', h4⟩
  · rw [zero_61, zero_63]
    refine bld_s Key.zero.cs (by kernel_rfl) ?_
    refine al_s (cs := Key.zero.cs) h3 rfl fun b w4 h4 => ?_
    refine stN_at h4 0 rfl (vs := Key.zero.cs) rfl rfl (Nat.le_of_ble_eq_true rfl) (ints_flat _) (cs' := Key.zero.cs) (by kernel_rfl) fun w5 h5 => ?_
    obtain ⟨n, hn⟩ : ∃ n, n = lh.length := ⟨_, rfl⟩
    rw [← hn]
    refine lpi1 (fun z t9 w => ∃ (i : Nat) (lq : List Msg) (lk : Key), t9 = .int .i64 i ∧ z = n - i ∧ i ≤ n ∧ lq.length = n - i ∧ Heapy lq lq.length ∧ (0 < i → ∀ y ∈ lq, KeyLt lk y.key) ∧ Sat e w (IsPrio q 64 lq :: blk b 61 lk.cs :: S :: R)) n
      ⟨0, lh, Key.zero, rfl, rfl, Nat.zero_le _, by omega, hh, (fun h => by omega), h5.selR [_, _, _] [_, _] [1, 0] (by decide) rfl⟩ ?_
    rintro z _ w g3 ⟨i, lq, lk, rfl, rfl, hin, hlq, hhq, hlast, h6⟩ hg3
    refine lt_c (fun c3 => iff_t ?_) (fun c3 => iff_f ?_)
    · obtain ⟨x, hx⟩ := get_of_lt (l := lq) (j := 0) (by omega)
      have hnd := prio_nodup h6
      refine prio_Pop_s hx (by omega) h6 fun l' w7 hp hh7 h7 => ?_
      have hbelow := pop_below hnd hhq hx hp
      have hl' : l'.length + 1 = lq.length := by rw [← hp.length_eq]; simp
      refine xt_02 (xt_12 ?_)
      refine al_s (cs := ints [0, 0, 0, 0, 0, 0]) h7 rfl fun d w8 h8 => ?_
      refine stN_at h8 0 rfl (vs := x.cs) rfl rfl (Nat.le_of_ble_eq_true rfl) (ints_flat _) (cs' := x.cs) (by kernel_rfl) fun w9 h9 => ?_
      have hdone : ∀ w', Sat e w' (blk d 63 x.cs :: IsPrio q 64 l' :: blk b 61 lk.cs :: S :: R) → iff' (.bool false) (K (Value.bool false) w') (fld 0 (.pointer (some ⟨d, 0, none⟩)) w' fun t67 w => ldN 3 t67 w fun t68 w => stN 3 (.pointer (some ⟨b, 0, none⟩)) t68 w fun _ w =>
          bi .add .i64 (.int .i64 (i : Int)) (Value.int IntKind.i64 1) w fun t48 w => g3 [t48] w) := by
        intro w' h
        refine iff_f (fld_at (ldN_at h 0 (vs := x.key.cs) rfl (by rfl) rfl ?_))
        refine stN_at h 2 rfl (vs := x.key.cs) rfl rfl (Nat.le_of_ble_eq_true rfl) (ints_flat _) (cs' := x.key.cs) (by kernel_rfl) fun w9 h9 => ?_
        refine inc_s (by omega) ?_
        exact hg3 _ _ _ (by omega) ⟨i + 1, l', x.key, rfl, rfl, by omega, by omega, hh7 hhq, fun _ => hbelow, h9.selR [_, _, _] [_, _] [1, 2] (by decide) rfl⟩
      refine not_t (gd_ff (gd_ff ?_))
      by_cases hi0 : i = 0
      · subst hi0
        refine gt_f (by decide) (gd_ff ?_)
        exact gd_ft (gd_ft (gd_ft (gd_ft (gd_ft (gd_ff (pk_f (pk_f (hdone _ h9))))))))
      · refine gt_t (by omega) (gd_ff ?_)
        refine gd_tt (ldN_at h9 2 (vs := lk.cs) rfl (by rfl) rfl ?_)
        refine gd_tt (fld_at ?_)
        refine gd_tt (ldN_at h9 0 (vs := x.key.cs) rfl (by rfl) rfl ?_)
        refine gd_tt (ref01_Cmp_s h9 fun w10 h10 => ?_)
        have hlt := cmpK_lt.2 (hlast (by omega) x (List.mem_of_getElem? hx))
        exact gd_tt (ge_f (by omega) (gd_ff (pk_t (pk_f (hdone _ h10)))))
    · have hi : i = n := by omega
      have hlq0 : lq = [] := List.length_eq_zero_iff.1 (by omega)
      subst hlq0
      refine prio_Pop_none h6 fun w7 h7 => ?_
      refine xt_02 (xt_12 ?_)
      refine al_s (cs := ints [0, 0, 0, 0, 0, 0]) h7 rfl fun d w8 h8 => ?_
      refine stN_at h8 0 rfl (vs := Msg.zero.cs) rfl rfl (Nat.le_of_ble_eq_true rfl) (ints_flat _) (cs' := Msg.zero.cs) (by kernel_rfl) fun w9 h9 => ?_
      replace h9 : Sat e w9 (IsPrio q 64 [] :: blk d 63 Msg.zero.cs :: blk b 61 lk.cs :: S :: R) := h9.selR [_, _, _] [_, _, _] [1, 0, 2] (by decide) rfl
      refine not_f (gd_tt (gd_tt (prio_Len_s h9 ?_)))
      refine gd_tt (eq_t rfl (pk_t (gd_tt (gd_tt ?_))))
      refine bld_s Msg.zero.cs (by kernel_rfl) ?_
      refine gd_tt (prio_Push_s (x := Msg.zero) (by simp) h9 (fun h => absurd rfl h) (fun _ _ _ l' w10 hp _ h10 => ?_))
      have hl1 : l'.length = 1 := by rw [hp.length_eq]; rfl
      refine gd_tt (eq_t rfl (pk_t (gd_tt (gd_tt (prio_Len_s h10 ?_)))))
      refine gd_tt (eq_t (by omega) (pk_t (hk _ (h10.selR [_, _, _, _] [_] [3] (by decide) rfl))))
end Go.Proofs.Ytdiglafiimnfoaa
