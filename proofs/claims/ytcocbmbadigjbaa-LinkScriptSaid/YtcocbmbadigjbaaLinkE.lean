/- Links: the items of all links, in their order; Carried, Least, All. Conditions: the net is one that New made. -/
import Derived.Test.YtcocbmbadigjbaaLinkC
import Derived.Test.YtcocbmbadigjbaaTimeA
import Derived.Test.YtcocbmbadigjbaaEngY
namespace Go.Proofs.Ytcocbmbadigjbaa
open Go Go.E
set_option maxRecDepth 100000
variable {e w : World} {R : List HP} {K : KV}

/-! ### All items -/
def fl {α : Type} (f : Nat → List α) (n : Nat) : List α := (List.range n).flatMap f
theorem fl_succ {α : Type} (f : Nat → List α) (n : Nat) : fl f (n + 1) = fl f n ++ f n := by
  unfold fl
  rw [List.range_succ, List.flatMap_append]
  simp
theorem len_snoc {α : Type} {l : List α} {x : α} : ((l ++ [x]).length : Int) = l.length + 1 := by simp
theorem fl_split {α : Type} (f : Nat → List α) : ∀ {n a : Nat}, a < n → ∃ post, fl f n = fl f a ++ (f a ++ post)
  | 0, _, h => by omega
  | n + 1, a, h => by
    rw [fl_succ]
    by_cases h1 : a = n
    · subst h1; exact ⟨[], by simp⟩
    · obtain ⟨p, hp⟩ := fl_split f (n := n) (a := a) (by omega)
      exact ⟨p ++ f n, by rw [hp]; simp⟩
theorem fl_len {α : Type} (f : Nat → List α) {c : Nat} : ∀ {n : Nat}, (∀ a, a < n → (f a).length ≤ c) → (fl f n).length ≤ n * c
  | 0, _ => by simp [fl]
  | n + 1, h => by
    rw [fl_succ, List.length_append, Nat.add_mul]
    have h1 := fl_len f (c := c) (n := n) fun a ha => h a (by omega)
    have h2 := h n (by omega)
    omega
def rowQ (n : Nat) (Q : Nat → Nat → List Item) (a : Nat) : List Item := fl (Q a) n
def allQ (n : Nat) (Q : Nat → Nat → List Item) : List Item := fl (rowQ n Q) n
theorem NetOk.all_len {D : Nat → Int} {n : Nat} {room : Int} {Q : Nat → Nat → List Item} (h : NetOk D n room Q) : (allQ n Q).length ≤ 1024 := by
  have hn := h.hn
  have hr := h.hr
  have h1 : ∀ a, a < n → (rowQ n Q a).length ≤ n * 16 := fun a ha => fl_len (Q a) fun b hb => by
    have := h.room a b (by omega) (by omega)
    omega
  have h2 := fl_len (rowQ n Q) h1
  have h3 : n ≤ 8 := by omega
  have h4 : n * (n * 16) ≤ 8 * (8 * 16) := Nat.mul_le_mul h3 (Nat.mul_le_mul_right 16 h3)
  unfold allQ
  omega
theorem RingAt.subk {D : Nat → Int} {o : Nat} {q : List Item} {f k : Nat} (h : RingAt D o q f) {x : Item} (hx : q[k]? = some x) : ((List.range 8).map fun j => D (o + (f + k) % 16 * 8 + j)) = x.ns := by
  have h0 := h.item k x hx
  show [D (o + (f + k) % 16 * 8 + 0), D (o + (f + k) % 16 * 8 + 1), D (o + (f + k) % 16 * 8 + 2), D (o + (f + k) % 16 * 8 + 3), D (o + (f + k) % 16 * 8 + 4), D (o + (f + k) % 16 * 8 + 5), D (o + (f + k) % 16 * 8 + 6), D (o + (f + k) % 16 * 8 + 7)] = _
  rw [h0 0 (by omega), h0 1 (by omega), h0 2 (by omega), h0 3 (by omega), h0 4 (by omega), h0 5 (by omega), h0 6 (by omega), h0 7 (by omega)]
  rfl

abbrev boxN (c g : Nat) : HP := blk c 23 [.pointer (some ⟨g, 0, none⟩)]
theorem link_items_s {g : Nat} (hS : Sat e w R) (hk : ∀ c w', Sat e w' (boxN c g :: R) → K (.func (.func 29) #[] #[.pointer (some ⟨c, 0, none⟩)]) w') : Cl prog 25 #[.pointer (some ⟨g, 0, none⟩)] w K := by
  refine link_Net_items_calls ?_
  unfold link_Net_items
  refine al_s (cs := [.pointer (some ⟨g, 0, none⟩)]) hS rfl fun c w1 h1 => ?_
  exact hk _ _ h1
theorem link_items1_s {g c : Nat} {n : Nat} {room : Int} {Q : Nat → Nat → List Item} {yv : Value} {I : List Item → List HP}
    (hy : ∀ (pre : List Item) (x : Item) (post : List Item) (W : World) (K : KV), allQ n Q = pre ++ x :: post → Sat e W (IsNet g n room Q :: boxN c g :: I pre) →
      (∀ W', Sat e W' (IsNet g n room Q :: boxN c g :: I (pre ++ [x])) → K (.bool true) W') → clV prog yv #[.int .i64 pre.length, .agg x.cs.toArray] W K)
    (hS : Sat e w (IsNet g n room Q :: boxN c g :: I [])) (hk : ∀ w', Sat e w' (IsNet g n room Q :: boxN c g :: I (allQ n Q)) → K (.tuple #[]) w') :
    Cl prog 29 #[yv, .pointer (some ⟨c, 0, none⟩)] w K := by
  refine link_Net_items_1_calls ?_
  unfold link_Net_items_1
  refine ld1_at hS 1 rfl rfl ?_
  repeat (first | refine gd_tt ?_ | refine gd_ff ?_ | refine gd_tf ?_ | refine gd_ft ?_ | refine gd_u ?_ | refine pk_t ?_ | refine pk_f ?_ | refine iff_t ?_ | refine iff_f ?_ | refine not_t ?_ | refine not_f ?_ | refine beq_s ?_ | refine bne_s ?_ | refine ncP_p ?_ | refine nc_p ?_ | refine fld_at ?_ | refine xt_02 ?_ | refine xt_12 ?_ | refine xt_03 ?_ | refine xt_13 ?_ | refine xt_23 ?_ | refine eq_t (by omega) ?_ | refine eq_f (by omega) ?_ | refine ne_t (by omega) ?_ | refine ne_f (by omega) ?_ | refine lt_t (by omega) ?_ | refine lt_f (by omega) ?_ | refine gt_t (by omega) ?_ | refine gt_f (by omega) ?_ | refine ge_t (by omega) ?_ | refine ge_f (by omega) ?_ | refine le_t (by omega) ?_ | refine le_f (by omega) ?_)
  obtain ⟨D, hD, h1⟩ := IsNet.open hS
  have hn8 := hD.hn
  have hr16 := hD.hr
  have hall := hD.all_len
  refine ld1_at h1 0 rfl (funL_get (by omega)) ?_
  rw [hD.dn]
  clear h1
  refine lpi2 (fun m t3 t12 w => ∃ a : Nat, a ≤ n ∧ t12 = .int .i64 a ∧ t3 = .int .i64 (fl (rowQ n Q) a).length ∧ m = n - a ∧ Sat e w (IsNet g n room Q :: boxN c g :: I (fl (rowQ n Q) a))) n ⟨0, Nat.zero_le _, rfl, rfl, rfl, hS⟩ ?_
  rintro m _ _ w g1 ⟨a, ha, rfl, rfl, rfl, h1⟩ hg1
  refine lt_c (fun c1 => iff_t ?_) (fun c1 => iff_f ?_)
  · have c1 : a < n := by omega
    refine ld1_at h1 1 rfl rfl ?_
    repeat (first | refine gd_tt ?_ | refine gd_ff ?_ | refine gd_tf ?_ | refine gd_ft ?_ | refine gd_u ?_ | refine pk_t ?_ | refine pk_f ?_ | refine iff_t ?_ | refine iff_f ?_ | refine not_t ?_ | refine not_f ?_ | refine beq_s ?_ | refine bne_s ?_ | refine ncP_p ?_ | refine nc_p ?_ | refine fld_at ?_ | refine xt_02 ?_ | refine xt_12 ?_ | refine xt_03 ?_ | refine xt_13 ?_ | refine xt_23 ?_ | refine eq_t (by omega) ?_ | refine eq_f (by omega) ?_ | refine ne_t (by omega) ?_ | refine ne_f (by omega) ?_ | refine lt_t (by omega) ?_ | refine lt_f (by omega) ?_ | refine gt_t (by omega) ?_ | refine gt_f (by omega) ?_ | refine ge_t (by omega) ?_ | refine ge_f (by omega) ?_ | refine le_t (by omega) ?_ | refine le_f (by omega) ?_)
    obtain ⟨D1, hD1, h2⟩ := IsNet.open h1
    refine ld1_at h2 0 rfl (funL_get (by omega)) ?_
    rw [hD1.dn]
    clear h2
    refine lpi2 (fun m t3 t19 w => ∃ b : Nat, b ≤ n ∧ t19 = .int .i64 b ∧ t3 = .int .i64 (fl (rowQ n Q) a ++ fl (Q a) b).length ∧ m = n - b ∧ Sat e w (IsNet g n room Q :: boxN c g :: I (fl (rowQ n Q) a ++ fl (Q a) b))) n
      ⟨0, Nat.zero_le _, rfl, by simp [fl], rfl, by simpa [fl] using h1⟩ ?_
    rintro m _ _ w g2 ⟨b, hb, rfl, rfl, rfl, h2⟩ hg2
    refine lt_c (fun c2 => iff_t ?_) (fun c2 => iff_f ?_)
    · have c2 : b < n := by omega
      refine ld1_at h2 1 rfl rfl ?_
      repeat (first | refine gd_tt ?_ | refine gd_ff ?_ | refine gd_tf ?_ | refine gd_ft ?_ | refine gd_u ?_ | refine pk_t ?_ | refine pk_f ?_ | refine iff_t ?_ | refine iff_f ?_ | refine not_t ?_ | refine not_f ?_ | refine beq_s ?_ | refine bne_s ?_ | refine ncP_p ?_ | refine nc_p ?_ | refine fld_at ?_ | refine xt_02 ?_ | refine xt_12 ?_ | refine xt_03 ?_ | refine xt_13 ?_ | refine xt_23 ?_ | refine eq_t (by omega) ?_ | refine eq_f (by omega) ?_ | refine ne_t (by omega) ?_ | refine ne_f (by omega) ?_ | refine lt_t (by omega) ?_ | refine lt_f (by omega) ?_ | refine gt_t (by omega) ?_ | refine gt_f (by omega) ?_ | refine ge_t (by omega) ?_ | refine ge_f (by omega) ?_ | refine le_t (by omega) ?_ | refine le_f (by omega) ?_)
      refine ixA_at (by omega) ?_
      refine ixA_at (by omega) ?_
      rw [show 0 + 2 + a * 1040 + b * 130 = offL a b from by unfold offL; omega]
      repeat (first | refine gd_tt ?_ | refine gd_ff ?_ | refine gd_tf ?_ | refine gd_ft ?_ | refine gd_u ?_ | refine pk_t ?_ | refine pk_f ?_ | refine iff_t ?_ | refine iff_f ?_ | refine not_t ?_ | refine not_f ?_ | refine beq_s ?_ | refine bne_s ?_ | refine ncP_p ?_ | refine nc_p ?_ | refine fld_at ?_ | refine xt_02 ?_ | refine xt_12 ?_ | refine xt_03 ?_ | refine xt_13 ?_ | refine xt_23 ?_ | refine eq_t (by omega) ?_ | refine eq_f (by omega) ?_ | refine ne_t (by omega) ?_ | refine ne_f (by omega) ?_ | refine lt_t (by omega) ?_ | refine lt_f (by omega) ?_ | refine gt_t (by omega) ?_ | refine gt_f (by omega) ?_ | refine ge_t (by omega) ?_ | refine ge_f (by omega) ?_ | refine le_t (by omega) ?_ | refine le_f (by omega) ?_)
      obtain ⟨D2, hD2, h3⟩ := IsNet.open h2
      obtain ⟨f0, hf0⟩ := hD2.ring a b (by omega) (by omega)
      have hoff : offL a b + 130 ≤ 8322 := by unfold offL; omega
      refine ld1_at h3 0 rfl (funL_get (by omega)) ?_
      rw [hf0.dm]
      clear h3
      have hql : (Q a b).length ≤ 16 := hf0.len
      obtain ⟨p1, hp1⟩ := fl_split (rowQ n Q) c1
      obtain ⟨p2, hp2⟩ := fl_split (Q a) c2
      have hp3 : allQ n Q = (fl (rowQ n Q) a ++ fl (Q a) b) ++ (Q a b ++ (p2 ++ p1)) := by
        show fl (rowQ n Q) n = _
        rw [hp1]
        show _ ++ (fl (Q a) n ++ _) = _
        rw [hp2]
        simp
      refine lpi2 (fun m t3 t33 w => ∃ k : Nat, k ≤ (Q a b).length ∧ t33 = .int .i64 k ∧ t3 = .int .i64 (fl (rowQ n Q) a ++ fl (Q a) b ++ (Q a b).take k).length ∧ m = (Q a b).length - k ∧ Sat e w (IsNet g n room Q :: boxN c g :: I (fl (rowQ n Q) a ++ fl (Q a) b ++ (Q a b).take k))) (Q a b).length
        ⟨0, Nat.zero_le _, rfl, by simp, rfl, by simpa using h2⟩ ?_
      rintro m _ _ w g3 ⟨k, hkl, rfl, rfl, rfl, h3⟩ hg3
      refine lt_c (fun c3 => iff_t ?_) (fun c3 => iff_f ?_)
      · have c3 : k < (Q a b).length := by omega
        obtain ⟨x, hx⟩ := get_of_lt (l := Q a b) (j := k) c3
        obtain ⟨D3, hD3, h4⟩ := IsNet.open h3.drew
        obtain ⟨f, hf⟩ := hD3.ring a b (by omega) (by omega)
        have hf16 := hf.hf
        have hm := Nat.mod_lt (f + k) (show 0 < 16 by omega)
        repeat (first | refine gd_tt ?_ | refine gd_ff ?_ | refine gd_tf ?_ | refine gd_ft ?_ | refine gd_u ?_ | refine pk_t ?_ | refine pk_f ?_ | refine iff_t ?_ | refine iff_f ?_ | refine not_t ?_ | refine not_f ?_ | refine beq_s ?_ | refine bne_s ?_ | refine ncP_p ?_ | refine nc_p ?_ | refine fld_at ?_ | refine xt_02 ?_ | refine xt_12 ?_ | refine xt_03 ?_ | refine xt_13 ?_ | refine xt_23 ?_ | refine eq_t (by omega) ?_ | refine eq_f (by omega) ?_ | refine ne_t (by omega) ?_ | refine ne_f (by omega) ?_ | refine lt_t (by omega) ?_ | refine lt_f (by omega) ?_ | refine gt_t (by omega) ?_ | refine gt_f (by omega) ?_ | refine ge_t (by omega) ?_ | refine ge_f (by omega) ?_ | refine le_t (by omega) ?_ | refine le_f (by omega) ?_)
        refine ld1_at h4 0 rfl (funL_get (by omega)) ?_
        rw [hf.df]
        refine add_s (by omega) (by omega) ?_
        refine rem_s (by decide) ?_
        rw [Int.tmod_eq_emod_of_nonneg (by omega), show ((f : Int) + (k : Int)) % 16 = (((f + k) % 16 : Nat) : Int) from by omega]
        repeat (first | refine gd_tt ?_ | refine gd_ff ?_ | refine gd_tf ?_ | refine gd_ft ?_ | refine gd_u ?_ | refine pk_t ?_ | refine pk_f ?_ | refine iff_t ?_ | refine iff_f ?_ | refine not_t ?_ | refine not_f ?_ | refine beq_s ?_ | refine bne_s ?_ | refine ncP_p ?_ | refine nc_p ?_ | refine fld_at ?_ | refine xt_02 ?_ | refine xt_12 ?_ | refine xt_03 ?_ | refine xt_13 ?_ | refine xt_23 ?_ | refine eq_t (by omega) ?_ | refine eq_f (by omega) ?_ | refine ne_t (by omega) ?_ | refine ne_f (by omega) ?_ | refine lt_t (by omega) ?_ | refine lt_f (by omega) ?_ | refine gt_t (by omega) ?_ | refine gt_f (by omega) ?_ | refine ge_t (by omega) ?_ | refine ge_f (by omega) ?_ | refine le_t (by omega) ?_ | refine le_f (by omega) ?_)
        refine ixA_at hm ?_
        refine ldN_at h4 0 (vs := x.cs) rfl ?_ rfl ?_
        · rw [funL_sub (by omega), Nat.add_zero]
          exact congrArg ints (hf.subk hx)
        have htk : (Q a b).take (k + 1) = (Q a b).take k ++ [x] := by
          rw [List.take_add_one, hx]
          rfl
        have hdr : (Q a b).drop k = x :: (Q a b).drop (k + 1) := by
          rw [List.drop_eq_getElem_cons c3]
          congr 1
          have := List.getElem?_eq_getElem c3
          rw [this] at hx
          exact Option.some.inj hx
        refine hy (fl (rowQ n Q) a ++ fl (Q a) b ++ (Q a b).take k) x ((Q a b).drop (k + 1) ++ (p2 ++ p1)) _ _ ?_ (IsNet.close hD3 h4) fun W' h5 => ?_
        · rw [hp3, List.append_assoc _ ((Q a b).take k), ← List.cons_append, ← hdr, ← List.append_assoc ((Q a b).take k), List.take_append_drop]
        · repeat (first | refine gd_tt ?_ | refine gd_ff ?_ | refine gd_tf ?_ | refine gd_ft ?_ | refine gd_u ?_ | refine pk_t ?_ | refine pk_f ?_ | refine iff_t ?_ | refine iff_f ?_ | refine not_t ?_ | refine not_f ?_ | refine beq_s ?_ | refine bne_s ?_ | refine ncP_p ?_ | refine nc_p ?_ | refine fld_at ?_ | refine xt_02 ?_ | refine xt_12 ?_ | refine xt_03 ?_ | refine xt_13 ?_ | refine xt_23 ?_ | refine eq_t (by omega) ?_ | refine eq_f (by omega) ?_ | refine ne_t (by omega) ?_ | refine ne_f (by omega) ?_ | refine lt_t (by omega) ?_ | refine lt_f (by omega) ?_ | refine gt_t (by omega) ?_ | refine gt_f (by omega) ?_ | refine ge_t (by omega) ?_ | refine ge_f (by omega) ?_ | refine le_t (by omega) ?_ | refine le_f (by omega) ?_)
          have hlen : (fl (rowQ n Q) a ++ fl (Q a) b ++ (Q a b).take k).length ≤ 1024 := by
            refine Nat.le_trans ?_ hall
            rw [hp3]
            simp only [List.length_append, List.length_take]
            omega
          refine add_s (by omega) (by omega) ?_
          refine add_s (by omega) (by omega) ?_
          refine hg3 _ _ _ _ (by omega) ⟨k + 1, by omega, rfl, ?_, rfl, ?_⟩
          · rw [htk, ← List.append_assoc, len_snoc]
          · rw [htk, ← List.append_assoc]
            exact h5
      · have e1 : k = (Q a b).length := by omega
        subst e1
        rw [List.take_length] at h3 ⊢
        refine add_s (by omega) (by omega) ?_
        refine hg2 _ _ _ _ (by omega) ⟨b + 1, by omega, rfl, ?_, rfl, ?_⟩
        · rw [fl_succ, ← List.append_assoc]
        · rw [fl_succ, ← List.append_assoc]
          exact h3
    · have e1 : b = n := by omega
      subst e1
      refine add_s (by omega) (by omega) ?_
      refine hg1 _ _ _ _ (by omega) ⟨a + 1, by omega, rfl, ?_, rfl, ?_⟩
      · rw [fl_succ]; rfl
      · rw [fl_succ]; exact h2
  · have e1 : a = n := by omega
    subst e1
    exact hk _ h1

/-! ### What is counted -/
def cntC (colour : Int) (l : List Item) : Nat := l.countP fun x => decide (x.Kind ≠ 2) && decide (x.Colour = colour)
theorem cntC_snoc (colour : Int) (l : List Item) (x : Item) : cntC colour (l ++ [x]) = cntC colour l + if x.Kind ≠ 2 ∧ x.Colour = colour then 1 else 0 := by
  unfold cntC
  rw [List.countP_append]
  simp [List.countP_singleton]
theorem cntC_le (colour : Int) (l : List Item) : cntC colour l ≤ l.length := List.countP_le_length
theorem getD0 {a b u : Value} : (#[a, b] : Array Value).getD 0 u = a := rfl
theorem getD1 {a b u : Value} : (#[a, b] : Array Value).getD 1 u = b := rfl

theorem link_All_s {g : Nat} {n : Nat} {room : Int} {Q : Nat → Nat → List Item} (hS : Sat e w (IsNet g n room Q :: R)) (hk : ∀ w', Sat e w' (IsNet g n room Q :: R) → K (.int .i64 (allQ n Q).length) w') :
    Cl prog 10 #[.pointer (some ⟨g, 0, none⟩)] w K := by
  refine link_Net_All_calls ?_
  unfold link_Net_All
  obtain ⟨D, hD, _⟩ := IsNet.open hS
  have hall := hD.all_len
  rw [zero_3]
  refine al_s (cs := [.int .i64 0]) hS rfl fun c w1 h1 => ?_
  refine stN_at h1 0 rfl (vs := ints [0]) rfl rfl (by decide) (ints_flat _) (cs' := [.int .i64 0]) (by kernel_rfl) fun w2 h2 => ?_
  refine link_items_s h2 fun d w3 h3 => ?_
  refine rf_s rfl (by kernel_rfl) h3 fun l E LR w4 Kf rule fin h4 => ?_
  refine link_items1_s (I := fun pre => lpC LR l .ready :: dfC E :: blk c 3 [.int .i64 pre.length] :: R) (fun pre x post W K heq hW hK => ?_) (h4.selR [_, _, _, _, _] [_, _, _, _, _] [4, 2, 0, 1, 3] (by decide) rfl) fun w5 h5 => ?_
  · refine rule (hW.pick 2 rfl) rfl ?_
    have hl : pre.length ≤ 1024 := by
      refine Nat.le_trans ?_ hall
      rw [heq]
      simp
    simp only [getD0]
    refine bgn_s (hW.pick 2 rfl) fun w5 h5 => ?_
    refine add_s (by omega) (by omega) ?_
    refine stN_at h5 4 rfl (vs := ints [(pre.length : Int) + 1]) rfl rfl (by simp) (ints_flat _) (cs' := [.int .i64 ((pre.length : Int) + 1)]) (by rfl) fun w6 h6 => ?_
    refine edn_s h6 fun w7 h7 => ?_
    refine hK _ ?_
    rw [List.length_append]
    exact h7.selR [_, _, _, _, _] [_, _, _, _, _] [1, 2, 0, 3, 4] (by decide) rfl
  · refine fin (h5.pick 2 rfl) fun w6 h6 => ?_
    refine ld1_at h6 3 rfl rfl ?_
    refine rdef_s (h6.pick 2 rfl) fun w7 h7 => ?_
    exact hk _ (h7.selR [_, _, _] [_] [0] (by decide) rfl)
theorem link_Carried_s {g : Nat} {n : Nat} {room colour : Int} {Q : Nat → Nat → List Item} (hS : Sat e w (IsNet g n room Q :: R)) (hk : ∀ w', Sat e w' (IsNet g n room Q :: R) → K (.int .i64 (cntC colour (allQ n Q))) w') :
    Cl prog 9 #[.pointer (some ⟨g, 0, none⟩), .int .i64 colour] w K := by
  refine link_Net_Carried_calls ?_
  unfold link_Net_Carried
  obtain ⟨D, hD, _⟩ := IsNet.open hS
  have hall := hD.all_len
  refine al_s (cs := [.int .i64 colour]) hS rfl fun p w0 h0 => ?_
  rw [zero_3]
  refine al_s (cs := [.int .i64 0]) h0 rfl fun c w1 h1 => ?_
  refine stN_at h1 0 rfl (vs := ints [0]) rfl rfl (by decide) (ints_flat _) (cs' := [.int .i64 0]) (by kernel_rfl) fun w2 h2 => ?_
  refine link_items_s h2 fun d w3 h3 => ?_
  refine rf_s rfl (by kernel_rfl) h3 fun l E LR w4 Kf rule fin h4 => ?_
  refine link_items1_s (I := fun pre => lpC LR l .ready :: dfC E :: blk c 3 [.int .i64 (cntC colour pre)] :: blk p 3 [.int .i64 colour] :: R) (fun pre x post W K heq hW hK => ?_) (h4.selR [_, _, _, _, _, _] [_, _, _, _, _, _] [5, 2, 0, 1, 3, 4] (by decide) rfl) fun w5 h5 => ?_
  · refine rule (hW.pick 2 rfl) rfl ?_
    have hl : cntC colour pre ≤ 1024 := by
      refine Nat.le_trans (cntC_le _ _) (Nat.le_trans ?_ hall)
      rw [heq]
      simp
    simp only [getD1]
    rw [zero_33]
    refine al_s (cs := Item.zero.cs) hW rfl fun t w5 h5 => ?_
    refine stN_at h5 0 rfl (vs := x.cs) rfl rfl (by decide) (ints_flat _) (cs' := x.cs) (by kernel_rfl) fun w6 h6 => ?_
    refine bgn_s (h6.pick 3 rfl) fun w7 h7 => ?_
    repeat (first | refine gd_tt ?_ | refine gd_ff ?_ | refine gd_tf ?_ | refine gd_ft ?_ | refine gd_u ?_ | refine pk_t ?_ | refine pk_f ?_ | refine iff_t ?_ | refine iff_f ?_ | refine not_t ?_ | refine not_f ?_ | refine beq_s ?_ | refine bne_s ?_ | refine ncP_p ?_ | refine nc_p ?_ | refine fld_at ?_ | refine xt_02 ?_ | refine xt_12 ?_ | refine xt_03 ?_ | refine xt_13 ?_ | refine xt_23 ?_ | refine eq_t (by omega) ?_ | refine eq_f (by omega) ?_ | refine ne_t (by omega) ?_ | refine ne_f (by omega) ?_ | refine lt_t (by omega) ?_ | refine lt_f (by omega) ?_ | refine gt_t (by omega) ?_ | refine gt_f (by omega) ?_ | refine ge_t (by omega) ?_ | refine ge_f (by omega) ?_ | refine le_t (by omega) ?_ | refine le_f (by omega) ?_)
    refine ld1_at h7 1 rfl (v := .int .i64 x.Kind) rfl ?_
    refine ne_c (fun c1 => ?_) (fun c1 => ?_)
    · repeat (first | refine gd_tt ?_ | refine gd_ff ?_ | refine gd_tf ?_ | refine gd_ft ?_ | refine gd_u ?_ | refine pk_t ?_ | refine pk_f ?_ | refine iff_t ?_ | refine iff_f ?_ | refine not_t ?_ | refine not_f ?_ | refine beq_s ?_ | refine bne_s ?_ | refine ncP_p ?_ | refine nc_p ?_ | refine fld_at ?_ | refine xt_02 ?_ | refine xt_12 ?_ | refine xt_03 ?_ | refine xt_13 ?_ | refine xt_23 ?_ | refine eq_t (by omega) ?_ | refine eq_f (by omega) ?_ | refine ne_t (by omega) ?_ | refine ne_f (by omega) ?_ | refine lt_t (by omega) ?_ | refine lt_f (by omega) ?_ | refine gt_t (by omega) ?_ | refine gt_f (by omega) ?_ | refine ge_t (by omega) ?_ | refine ge_f (by omega) ?_ | refine le_t (by omega) ?_ | refine le_f (by omega) ?_)
      refine ld1_at h7 1 rfl (v := .int .i64 x.Colour) rfl ?_
      refine gd_tt (ld1_at h7 6 rfl rfl ?_)
      refine gd_tt (eq_c (fun c2 => ?_) (fun c2 => ?_))
      · repeat (first | refine gd_tt ?_ | refine gd_ff ?_ | refine gd_tf ?_ | refine gd_ft ?_ | refine gd_u ?_ | refine pk_t ?_ | refine pk_f ?_ | refine iff_t ?_ | refine iff_f ?_ | refine not_t ?_ | refine not_f ?_ | refine beq_s ?_ | refine bne_s ?_ | refine ncP_p ?_ | refine nc_p ?_ | refine fld_at ?_ | refine xt_02 ?_ | refine xt_12 ?_ | refine xt_03 ?_ | refine xt_13 ?_ | refine xt_23 ?_ | refine eq_t (by omega) ?_ | refine eq_f (by omega) ?_ | refine ne_t (by omega) ?_ | refine ne_f (by omega) ?_ | refine lt_t (by omega) ?_ | refine lt_f (by omega) ?_ | refine gt_t (by omega) ?_ | refine gt_f (by omega) ?_ | refine ge_t (by omega) ?_ | refine ge_f (by omega) ?_ | refine le_t (by omega) ?_ | refine le_f (by omega) ?_)
        refine ld1_at h7 5 rfl rfl ?_
        refine add_s (by omega) (by omega) ?_
        refine stN_at h7 5 rfl (vs := ints [(cntC colour pre : Int) + 1]) rfl rfl (by simp) (ints_flat _) (cs' := [.int .i64 ((cntC colour pre : Int) + 1)]) (by rfl) fun w8 h8 => ?_
        refine edn_s h8 fun w9 h9 => ?_
        refine hK _ ?_
        rw [cntC_snoc, if_pos ⟨c1, c2⟩]
        exact h9.selR [_, _, _, _, _, _, _] [_, _, _, _, _, _] [2, 3, 0, 4, 5, 6] (by decide) rfl
      · repeat (first | refine gd_tt ?_ | refine gd_ff ?_ | refine gd_tf ?_ | refine gd_ft ?_ | refine gd_u ?_ | refine pk_t ?_ | refine pk_f ?_ | refine iff_t ?_ | refine iff_f ?_ | refine not_t ?_ | refine not_f ?_ | refine beq_s ?_ | refine bne_s ?_ | refine ncP_p ?_ | refine nc_p ?_ | refine fld_at ?_ | refine xt_02 ?_ | refine xt_12 ?_ | refine xt_03 ?_ | refine xt_13 ?_ | refine xt_23 ?_ | refine eq_t (by omega) ?_ | refine eq_f (by omega) ?_ | refine ne_t (by omega) ?_ | refine ne_f (by omega) ?_ | refine lt_t (by omega) ?_ | refine lt_f (by omega) ?_ | refine gt_t (by omega) ?_ | refine gt_f (by omega) ?_ | refine ge_t (by omega) ?_ | refine ge_f (by omega) ?_ | refine le_t (by omega) ?_ | refine le_f (by omega) ?_)
        refine edn_s h7 fun w9 h9 => ?_
        refine hK _ ?_
        rw [cntC_snoc, if_neg fun h => c2 h.2]
        exact h9.selR [_, _, _, _, _, _, _] [_, _, _, _, _, _] [2, 3, 0, 4, 5, 6] (by decide) rfl
    · repeat (first | refine gd_tt ?_ | refine gd_ff ?_ | refine gd_tf ?_ | refine gd_ft ?_ | refine gd_u ?_ | refine pk_t ?_ | refine pk_f ?_ | refine iff_t ?_ | refine iff_f ?_ | refine not_t ?_ | refine not_f ?_ | refine beq_s ?_ | refine bne_s ?_ | refine ncP_p ?_ | refine nc_p ?_ | refine fld_at ?_ | refine xt_02 ?_ | refine xt_12 ?_ | refine xt_03 ?_ | refine xt_13 ?_ | refine xt_23 ?_ | refine eq_t (by omega) ?_ | refine eq_f (by omega) ?_ | refine ne_t (by omega) ?_ | refine ne_f (by omega) ?_ | refine lt_t (by omega) ?_ | refine lt_f (by omega) ?_ | refine gt_t (by omega) ?_ | refine gt_f (by omega) ?_ | refine ge_t (by omega) ?_ | refine ge_f (by omega) ?_ | refine le_t (by omega) ?_ | refine le_f (by omega) ?_)
      refine edn_s h7 fun w9 h9 => ?_
      refine hK _ ?_
      rw [cntC_snoc, if_neg fun h => h.1 c1]
      exact h9.selR [_, _, _, _, _, _, _] [_, _, _, _, _, _] [2, 3, 0, 4, 5, 6] (by decide) rfl
  · refine fin (h5.pick 2 rfl) fun w6 h6 => ?_
    refine ld1_at h6 3 rfl rfl ?_
    refine rdef_s (h6.pick 2 rfl) fun w7 h7 => ?_
    exact hk _ (h7.selR [_, _, _, _] [_] [0] (by decide) rfl)

def timesC (l : List Item) : List Int := (l.filter fun x => decide (x.Kind ≠ 2)).map fun x => x.m.key.T
theorem timesC_snoc (l : List Item) (x : Item) : timesC (l ++ [x]) = timesC l ++ if x.Kind ≠ 2 then [x.m.key.T] else [] := by
  unfold timesC
  rw [List.filter_append, List.map_append]
  by_cases h : x.Kind = 2 <;> simp [h]
theorem timesC_le (l : List Item) : (timesC l).length ≤ l.length := by
  unfold timesC
  rw [List.length_map]
  exact List.length_filter_le _ _
/-- A cell that holds an owned slice of integers. -/
def cellL (c : Nat) (l : List Int) : HP := hex fun v : Value => sepL [blk c 61 [v], ownS 3 1 (intsK .i64) v l]
theorem cellL.open {c : Nat} {l : List Int} (hS : Sat e w (cellL c l :: R)) : ∃ v, Sat e w (blk c 61 [v] :: ownS 3 1 (intsK .i64) v l :: R) := by
  obtain ⟨v, h0⟩ := hS.ex
  exact ⟨v, h0.split⟩
theorem cellL.close {c : Nat} {l : List Int} {v : Value} (hS : Sat e w (blk c 61 [v] :: ownS 3 1 (intsK .i64) v l :: R)) : Sat e w (cellL c l :: R) := .mk_ex v (.join (l' := [_, _]) hS)
end Go.Proofs.Ytcocbmbadigjbaa
