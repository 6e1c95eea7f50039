/- The document's links: New, is, Send, First, Recv, Len, Room, All, Carried, Least, over the same lists. Conditions: the net is one that New made. -/
import Derived.Test.YtcocbmbadigjbaaLinkG
import Derived.Test.YtcocbmbadigjbaaEngP
namespace Go.Proofs.Ytcocbmbadigjbaa
open Go Go.E
set_option maxRecDepth 100000
variable {e w : World} {R : List HP} {K : KV}

/-! ### The table -/
def tabQ (n : Nat) (Q : Nat → Nat → List Item) : List (List Item) := (List.range (n * n)).map fun i => Q (i / n) (i % n)
theorem tab_len (n : Nat) (Q : Nat → Nat → List Item) : (tabQ n Q).length = n * n := by simp [tabQ]
theorem ix_lt {n a b : Nat} (ha : a < n) (hb : b < n) : a * n + b < n * n := by
  have h1 : a * n + n ≤ n * n := by rw [← Nat.succ_mul]; exact Nat.mul_le_mul_right n ha
  omega
theorem ix_div {n a b : Nat} (hb : b < n) : (a * n + b) / n = a ∧ (a * n + b) % n = b := by
  constructor
  · rw [Nat.mul_comm, Nat.mul_add_div (by omega), Nat.div_eq_of_lt hb, Nat.add_zero]
  · rw [Nat.mul_comm, Nat.mul_add_mod, Nat.mod_eq_of_lt hb]
theorem tab_get {n a b : Nat} (Q : Nat → Nat → List Item) (ha : a < n) (hb : b < n) : (tabQ n Q)[a * n + b]? = some (Q a b) := by
  unfold tabQ
  rw [List.getElem?_map, List.getElem?_range (ix_lt ha hb)]
  simp only [Option.map_some, (ix_div hb).1, (ix_div hb).2]
theorem tab_set {n a b : Nat} (Q : Nat → Nat → List Item) (q : List Item) (ha : a < n) (hb : b < n) : tabQ n (updQ Q a b q) = (tabQ n Q).set (a * n + b) q := by
  apply List.ext_getElem?
  intro i
  by_cases hi : i < n * n
  · by_cases hia : a * n + b = i
    · subst hia
      rw [List.getElem?_set_self (by rw [tab_len]; exact hi), tab_get _ ha hb]
      exact congrArg some (if_pos ⟨rfl, rfl⟩)
    · rw [List.getElem?_set_ne hia]
      unfold tabQ
      rw [List.getElem?_map, List.getElem?_map, List.getElem?_range hi]
      simp only [Option.map_some]
      congr 1
      refine if_neg fun h => hia ?_
      rw [← h.1, ← h.2, Nat.mul_comm]
      exact Nat.div_add_mod i n
  · rw [List.getElem?_eq_none (by rw [tab_len]; omega), List.getElem?_eq_none (by rw [List.length_set, tab_len]; omega)]
theorem fl_add {α : Type} (g : Nat → List α) (p : Nat) : ∀ q, fl g (p + q) = fl g p ++ fl (fun b => g (p + b)) q
  | 0 => by simp [fl]
  | q + 1 => by rw [← Nat.add_assoc, fl_succ, fl_add g p q, fl_succ, List.append_assoc]
theorem fl_congr {α : Type} {f g : Nat → List α} : ∀ {n : Nat}, (∀ i, i < n → f i = g i) → fl f n = fl g n
  | 0, _ => rfl
  | n + 1, h => by rw [fl_succ, fl_succ, fl_congr (n := n) fun i hi => h i (by omega), h n (by omega)]
theorem fl_mul {α : Type} (g : Nat → List α) (n : Nat) : ∀ m, fl g (m * n) = fl (fun a => fl (fun b => g (a * n + b)) n) m
  | 0 => by simp [fl]
  | m + 1 => by rw [Nat.succ_mul, fl_add, fl_mul g n m, fl_succ]
theorem tab_flat (n : Nat) (Q : Nat → Nat → List Item) : (tabQ n Q).flatten = allQ n Q := by
  have h1 : (tabQ n Q).flatten = fl (fun i => Q (i / n) (i % n)) (n * n) := by
    unfold tabQ fl
    rw [List.flatMap_def]
  rw [h1, fl_mul]
  unfold allQ rowQ
  refine fl_congr fun a _ => fl_congr fun b hb => ?_
  rw [(ix_div hb).1, (ix_div hb).2]

/-! ### What memory holds -/
def rowsI (vs : List Value) (pg : List (List Item)) : List HP := List.zipWith (fun v l => ownS 33 8 Item.cs v l) vs pg
abbrev one1 (v : Value) : List Value := [v]
theorem rowsI_get {vs : List Value} {pg : List (List Item)} {p : Nat} {v : Value} {l : List Item} (hv : vs[p]? = some v) (hl : pg[p]? = some l) : (rowsI vs pg)[p]? = some (ownS 33 8 Item.cs v l) := by
  unfold rowsI
  rw [List.getElem?_zipWith, hv, hl]
theorem rowsI_set {vs : List Value} {pg : List (List Item)} {p : Nat} {v : Value} {l : List Item} (hv : p < vs.length) (hl : p < pg.length) : (rowsI vs pg).set p (ownS 33 8 Item.cs v l) = rowsI (vs.set p v) (pg.set p l) := by
  unfold rowsI
  apply List.ext_getElem?
  intro i
  rw [List.getElem?_zipWith]
  by_cases h : p = i
  · subst h
    rw [List.getElem?_set_self (by rw [List.length_zipWith]; omega), List.getElem?_set_self hv, List.getElem?_set_self hl]
  · rw [List.getElem?_set_ne h, List.getElem?_set_ne h, List.getElem?_set_ne h, List.getElem?_zipWith]
def RNetOk (n : Nat) (room : Int) (Q : Nat → Nat → List Item) (vs : List Value) : Prop := vs.length = n * n ∧ 1 ≤ n ∧ n ≤ 8 ∧ 1 ≤ room ∧ room ≤ 16 ∧ ∀ a b, a < n → b < n → ((Q a b).length : Int) ≤ room
def IsRNet (r n : Nat) (room : Int) (Q : Nat → Nat → List Item) : HP := hex fun p : Value × List Value => sepL [pur (RNetOk n room Q p.2), blk r 65 [.int .i64 n, .int .i64 room, p.1], ownS 27 1 one1 p.1 p.2, sepL (rowsI p.2 (tabQ n Q))]
theorem rnet_of {r n : Nat} {room : Int} {Q : Nat → Nat → List Item} (h : Sat e w (IsRNet r n room Q :: R)) : ∃ V vs, RNetOk n room Q vs ∧ Sat e w (blk r 65 [.int .i64 n, .int .i64 room, V] :: ownS 27 1 one1 V vs :: sepL (rowsI vs (tabQ n Q)) :: R) := by
  obtain ⟨p, h0⟩ := h.ex
  obtain ⟨h1, h2⟩ := Sat.pure h0.split
  exact ⟨p.1, p.2, h1, h2⟩
theorem rnet_mk {r n : Nat} {room : Int} {Q : Nat → Nat → List Item} {V : Value} {vs : List Value} (h1 : RNetOk n room Q vs) (h : Sat e w (blk r 65 [.int .i64 n, .int .i64 room, V] :: ownS 27 1 one1 V vs :: sepL (rowsI vs (tabQ n Q)) :: R)) : Sat e w (IsRNet r n room Q :: R) :=
  .mk_ex (V, vs) (.join (l' := [_, _, _, _]) (.mk_pure h1 h))
/-- One row, to read. -/
theorem rnet_row {r n : Nat} {room : Int} {Q : Nat → Nat → List Item} {i : Nat} {q : List Item} (h : Sat e w (IsRNet r n room Q :: R)) (hq : (tabQ n Q)[i]? = some q) :
    ∃ V vs v, RNetOk n room Q vs ∧ vs[i]? = some v ∧ Sat e w (blk r 65 [.int .i64 n, .int .i64 room, V] :: ownS 27 1 one1 V vs :: ownS 33 8 Item.cs v q :: R) := by
  obtain ⟨V, vs, h1, h2⟩ := rnet_of h
  have hi : i < vs.length := by
    have := (List.getElem?_eq_some_iff.1 hq).1
    rw [tab_len] at this
    rw [h1.1]; exact this
  obtain ⟨v, hv⟩ := get_of_lt (l := vs) hi
  have h3 := (h2.pick 2 rfl).focus i (rowsI_get hv hq)
  exact ⟨V, vs, v, h1, hv, h3.selR [_, _, _, _] [_, _, _] [2, 3, 0] (by decide) rfl⟩

theorem ref10_is_s {r n : Nat} {room a b : Int} {V : Value} (hS : Sat e w (blk r 65 [.int .i64 n, .int .i64 room, V] :: R)) (hk : K (.bool (decide (okL n a b))) w) : Cl prog 27 #[.pointer (some ⟨r, 0, none⟩), .int .i64 a, .int .i64 b] w K := by
  refine pacelineref10_Net_is_calls ?_
  unfold pacelineref10_Net_is
  by_cases c1 : 0 ≤ a
  · refine ge_t c1 ?_
    repeat (first | refine gd_tt ?_ | refine gd_ff ?_ | refine gd_tf ?_ | refine gd_ft ?_ | refine gd_u ?_ | refine pk_t ?_ | refine pk_f ?_ | refine iff_t ?_ | refine iff_f ?_ | refine not_t ?_ | refine not_f ?_ | refine beq_s ?_ | refine bne_s ?_ | refine ncP_p ?_ | refine nc_p ?_ | refine fld_at ?_ | refine xt_02 ?_ | refine xt_12 ?_ | refine xt_03 ?_ | refine xt_13 ?_ | refine xt_23 ?_ | refine eq_t (by omega) ?_ | refine eq_f (by omega) ?_ | refine ne_t (by omega) ?_ | refine ne_f (by omega) ?_ | refine lt_t (by omega) ?_ | refine lt_f (by omega) ?_ | refine gt_t (by omega) ?_ | refine gt_f (by omega) ?_ | refine ge_t (by omega) ?_ | refine ge_f (by omega) ?_ | refine le_t (by omega) ?_ | refine le_f (by omega) ?_)
    refine ld1_at hS 0 rfl rfl ?_
    by_cases c2 : a < n
    · refine gd_tt (lt_t c2 ?_)
      repeat (first | refine gd_tt ?_ | refine gd_ff ?_ | refine gd_tf ?_ | refine gd_ft ?_ | refine gd_u ?_ | refine pk_t ?_ | refine pk_f ?_ | refine iff_t ?_ | refine iff_f ?_ | refine not_t ?_ | refine not_f ?_ | refine beq_s ?_ | refine bne_s ?_ | refine ncP_p ?_ | refine nc_p ?_ | refine fld_at ?_ | refine xt_02 ?_ | refine xt_12 ?_ | refine xt_03 ?_ | refine xt_13 ?_ | refine xt_23 ?_ | refine eq_t (by omega) ?_ | refine eq_f (by omega) ?_ | refine ne_t (by omega) ?_ | refine ne_f (by omega) ?_ | refine lt_t (by omega) ?_ | refine lt_f (by omega) ?_ | refine gt_t (by omega) ?_ | refine gt_f (by omega) ?_ | refine ge_t (by omega) ?_ | refine ge_f (by omega) ?_ | refine le_t (by omega) ?_ | refine le_f (by omega) ?_)
      by_cases c3 : 0 ≤ b
      · refine ge_t c3 ?_
        repeat (first | refine gd_tt ?_ | refine gd_ff ?_ | refine gd_tf ?_ | refine gd_ft ?_ | refine gd_u ?_ | refine pk_t ?_ | refine pk_f ?_ | refine iff_t ?_ | refine iff_f ?_ | refine not_t ?_ | refine not_f ?_ | refine beq_s ?_ | refine bne_s ?_ | refine ncP_p ?_ | refine nc_p ?_ | refine fld_at ?_ | refine xt_02 ?_ | refine xt_12 ?_ | refine xt_03 ?_ | refine xt_13 ?_ | refine xt_23 ?_ | refine eq_t (by omega) ?_ | refine eq_f (by omega) ?_ | refine ne_t (by omega) ?_ | refine ne_f (by omega) ?_ | refine lt_t (by omega) ?_ | refine lt_f (by omega) ?_ | refine gt_t (by omega) ?_ | refine gt_f (by omega) ?_ | refine ge_t (by omega) ?_ | refine ge_f (by omega) ?_ | refine le_t (by omega) ?_ | refine le_f (by omega) ?_)
        refine ld1_at hS 0 rfl rfl ?_
        by_cases c4 : b < n
        · refine gd_tt (lt_t c4 ?_)
          repeat (first | refine gd_tt ?_ | refine gd_ff ?_ | refine gd_tf ?_ | refine gd_ft ?_ | refine gd_u ?_ | refine pk_t ?_ | refine pk_f ?_ | refine iff_t ?_ | refine iff_f ?_ | refine not_t ?_ | refine not_f ?_ | refine beq_s ?_ | refine bne_s ?_ | refine ncP_p ?_ | refine nc_p ?_ | refine fld_at ?_ | refine xt_02 ?_ | refine xt_12 ?_ | refine xt_03 ?_ | refine xt_13 ?_ | refine xt_23 ?_ | refine eq_t (by omega) ?_ | refine eq_f (by omega) ?_ | refine ne_t (by omega) ?_ | refine ne_f (by omega) ?_ | refine lt_t (by omega) ?_ | refine lt_f (by omega) ?_ | refine gt_t (by omega) ?_ | refine gt_f (by omega) ?_ | refine ge_t (by omega) ?_ | refine ge_f (by omega) ?_ | refine le_t (by omega) ?_ | refine le_f (by omega) ?_)
          by_cases c5 : a = b
          · rw [decide_eq_false (show ¬ okL n a b by unfold okL; omega)] at hk
            refine ne_f c5 (pk_t hk)
          · rw [decide_eq_true (show okL n a b by unfold okL; omega)] at hk
            refine ne_t c5 (pk_t hk)
        · refine gd_tt (lt_f c4 ?_)
          rw [decide_eq_false (show ¬ okL n a b by unfold okL; omega)] at hk
          repeat (first | refine gd_tt ?_ | refine gd_ff ?_ | refine gd_tf ?_ | refine gd_ft ?_ | refine gd_u ?_ | refine pk_t ?_ | refine pk_f ?_ | refine iff_t ?_ | refine iff_f ?_ | refine not_t ?_ | refine not_f ?_ | refine beq_s ?_ | refine bne_s ?_ | refine ncP_p ?_ | refine nc_p ?_ | refine fld_at ?_ | refine xt_02 ?_ | refine xt_12 ?_ | refine xt_03 ?_ | refine xt_13 ?_ | refine xt_23 ?_ | refine eq_t (by omega) ?_ | refine eq_f (by omega) ?_ | refine ne_t (by omega) ?_ | refine ne_f (by omega) ?_ | refine lt_t (by omega) ?_ | refine lt_f (by omega) ?_ | refine gt_t (by omega) ?_ | refine gt_f (by omega) ?_ | refine ge_t (by omega) ?_ | refine ge_f (by omega) ?_ | refine le_t (by omega) ?_ | refine le_f (by omega) ?_)
          exact hk
      · refine ge_f c3 ?_
        rw [decide_eq_false (show ¬ okL n a b by unfold okL; omega)] at hk
        repeat (first | refine gd_tt ?_ | refine gd_ff ?_ | refine gd_tf ?_ | refine gd_ft ?_ | refine gd_u ?_ | refine pk_t ?_ | refine pk_f ?_ | refine iff_t ?_ | refine iff_f ?_ | refine not_t ?_ | refine not_f ?_ | refine beq_s ?_ | refine bne_s ?_ | refine ncP_p ?_ | refine nc_p ?_ | refine fld_at ?_ | refine xt_02 ?_ | refine xt_12 ?_ | refine xt_03 ?_ | refine xt_13 ?_ | refine xt_23 ?_ | refine eq_t (by omega) ?_ | refine eq_f (by omega) ?_ | refine ne_t (by omega) ?_ | refine ne_f (by omega) ?_ | refine lt_t (by omega) ?_ | refine lt_f (by omega) ?_ | refine gt_t (by omega) ?_ | refine gt_f (by omega) ?_ | refine ge_t (by omega) ?_ | refine ge_f (by omega) ?_ | refine le_t (by omega) ?_ | refine le_f (by omega) ?_)
        exact hk
    · refine gd_tt (lt_f c2 ?_)
      rw [decide_eq_false (show ¬ okL n a b by unfold okL; omega)] at hk
      repeat (first | refine gd_tt ?_ | refine gd_ff ?_ | refine gd_tf ?_ | refine gd_ft ?_ | refine gd_u ?_ | refine pk_t ?_ | refine pk_f ?_ | refine iff_t ?_ | refine iff_f ?_ | refine not_t ?_ | refine not_f ?_ | refine beq_s ?_ | refine bne_s ?_ | refine ncP_p ?_ | refine nc_p ?_ | refine fld_at ?_ | refine xt_02 ?_ | refine xt_12 ?_ | refine xt_03 ?_ | refine xt_13 ?_ | refine xt_23 ?_ | refine eq_t (by omega) ?_ | refine eq_f (by omega) ?_ | refine ne_t (by omega) ?_ | refine ne_f (by omega) ?_ | refine lt_t (by omega) ?_ | refine lt_f (by omega) ?_ | refine gt_t (by omega) ?_ | refine gt_f (by omega) ?_ | refine ge_t (by omega) ?_ | refine ge_f (by omega) ?_ | refine le_t (by omega) ?_ | refine le_f (by omega) ?_)
      exact hk
  · refine ge_f c1 ?_
    rw [decide_eq_false (show ¬ okL n a b by unfold okL; omega)] at hk
    repeat (first | refine gd_tt ?_ | refine gd_ff ?_ | refine gd_tf ?_ | refine gd_ft ?_ | refine gd_u ?_ | refine pk_t ?_ | refine pk_f ?_ | refine iff_t ?_ | refine iff_f ?_ | refine not_t ?_ | refine not_f ?_ | refine beq_s ?_ | refine bne_s ?_ | refine ncP_p ?_ | refine nc_p ?_ | refine fld_at ?_ | refine xt_02 ?_ | refine xt_12 ?_ | refine xt_03 ?_ | refine xt_13 ?_ | refine xt_23 ?_ | refine eq_t (by omega) ?_ | refine eq_f (by omega) ?_ | refine ne_t (by omega) ?_ | refine ne_f (by omega) ?_ | refine lt_t (by omega) ?_ | refine lt_f (by omega) ?_ | refine gt_t (by omega) ?_ | refine gt_f (by omega) ?_ | refine ge_t (by omega) ?_ | refine ge_f (by omega) ?_ | refine le_t (by omega) ?_ | refine le_f (by omega) ?_)
    exact hk

theorem all_len' {n : Nat} {Q : Nat → Nat → List Item} (hn : n ≤ 8) (h : ∀ a b, a < n → b < n → (Q a b).length ≤ 16) : (allQ n Q).length ≤ 1024 := by
  have h1 : ∀ a, a < n → (rowQ n Q a).length ≤ n * 16 := fun a ha => fl_len (Q a) fun b hb => h a b ha hb
  have h2 := fl_len (rowQ n Q) h1
  have h4 : n * (n * 16) ≤ 8 * (8 * 16) := Nat.mul_le_mul hn (Nat.mul_le_mul_right 16 hn)
  unfold allQ
  omega
theorem RNetOk.all {n : Nat} {room : Int} {Q : Nat → Nat → List Item} {vs : List Value} (h : RNetOk n room Q vs) : (allQ n Q).length ≤ 1024 :=
  all_len' h.2.2.1 fun a b ha hb => by have := h.2.2.2.2.2 a b ha hb; have := h.2.2.2.2.1; omega
theorem ixb {n a b : Nat} (ha : a < n) (hb : b < n) (hn : n ≤ 8) : -9223372036854775808 ≤ (a : Int) * n ∧ (a : Int) * n ≤ 9223372036854775807 ∧ -9223372036854775808 ≤ (a : Int) * n + b ∧ (a : Int) * n + b ≤ 9223372036854775807 ∧ ((a : Int) * n + b) = ((a * n + b : Nat) : Int) := by
  have h1 := ix_lt ha hb
  have h2 : n * n ≤ 8 * 8 := Nat.mul_le_mul hn hn
  have h3 : ((a * n + b : Nat) : Int) = (a : Int) * n + b := by rw [Int.natCast_add, Int.natCast_mul]
  have h4 : ((a * n : Nat) : Int) = (a : Int) * n := Int.natCast_mul a n
  omega
theorem okL_nat {n a b : Int} (h : okL n a b) : ∃ c d : Nat, a = c ∧ b = d := ⟨a.toNat, b.toNat, by have := h.1; omega, by have := h.2.1; omega⟩
theorem own1_flat (v : Value) (h : flat v = true) : ∀ c ∈ one1 v, flat c = true := fun c hc => by rw [List.mem_singleton.1 hc]; exact h

theorem ref10_Len_s {r n : Nat} {room a b : Int} {Q : Nat → Nat → List Item} (hS : Sat e w (IsRNet r n room Q :: R)) (hk : ∀ w', Sat e w' (IsRNet r n room Q :: R) → K (.int .i64 (if okL n a b then (Q a.toNat b.toNat).length else 0)) w') :
    Cl prog 19 #[.pointer (some ⟨r, 0, none⟩), .int .i64 a, .int .i64 b] w K := by
  refine pacelineref10_Net_Len_calls ?_
  unfold pacelineref10_Net_Len
  obtain ⟨V, vs, hok, h1⟩ := rnet_of hS
  refine ref10_is_s h1 ?_
  by_cases ho : okL n a b
  · rw [decide_eq_true ho]
    rw [if_pos ho] at hk
    obtain ⟨c, d, rfl, rfl⟩ := okL_nat ho
    obtain ⟨o1, o2, o3, o4, o5⟩ := ho
    have hc : c < n := by omega
    have hd : d < n := by omega
    refine not_t (iff_f (dr_s hS fun w2 h2 => ?_))
    obtain ⟨V, vs, v, hok, hv, h3⟩ := rnet_row h2 (tab_get Q hc hd)
    obtain ⟨x1, x2, x3, x4, x5⟩ := ixb hc hd hok.2.2.1
    repeat (first | refine gd_tt ?_ | refine gd_ff ?_ | refine gd_tf ?_ | refine gd_ft ?_ | refine gd_u ?_ | refine pk_t ?_ | refine pk_f ?_ | refine iff_t ?_ | refine iff_f ?_ | refine not_t ?_ | refine not_f ?_ | refine beq_s ?_ | refine bne_s ?_ | refine ncP_p ?_ | refine nc_p ?_ | refine fld_at ?_ | refine xt_02 ?_ | refine xt_12 ?_ | refine xt_03 ?_ | refine xt_13 ?_ | refine xt_23 ?_ | refine eq_t (by omega) ?_ | refine eq_f (by omega) ?_ | refine ne_t (by omega) ?_ | refine ne_f (by omega) ?_ | refine lt_t (by omega) ?_ | refine lt_f (by omega) ?_ | refine gt_t (by omega) ?_ | refine gt_f (by omega) ?_ | refine ge_t (by omega) ?_ | refine ge_f (by omega) ?_ | refine le_t (by omega) ?_ | refine le_f (by omega) ?_)
    refine ld1_at h3 0 rfl rfl ?_
    repeat (first | refine gd_tt ?_ | refine gd_ff ?_ | refine gd_tf ?_ | refine gd_ft ?_ | refine gd_u ?_ | refine pk_t ?_ | refine pk_f ?_ | refine iff_t ?_ | refine iff_f ?_ | refine not_t ?_ | refine not_f ?_ | refine beq_s ?_ | refine bne_s ?_ | refine ncP_p ?_ | refine nc_p ?_ | refine fld_at ?_ | refine xt_02 ?_ | refine xt_12 ?_ | refine xt_03 ?_ | refine xt_13 ?_ | refine xt_23 ?_ | refine eq_t (by omega) ?_ | refine eq_f (by omega) ?_ | refine ne_t (by omega) ?_ | refine ne_f (by omega) ?_ | refine lt_t (by omega) ?_ | refine lt_f (by omega) ?_ | refine gt_t (by omega) ?_ | refine gt_f (by omega) ?_ | refine ge_t (by omega) ?_ | refine ge_f (by omega) ?_ | refine le_t (by omega) ?_ | refine le_f (by omega) ?_)
    refine ld1_at h3 0 rfl rfl ?_
    refine mul_s x1 x2 (add_s x3 x4 ?_)
    rw [x5]
    refine ixS_rd h3 1 rfl (fun g hg => own_rd hg) (fun _ => rfl) hv fun p hp => ?_
    refine ld1_of h3 1 rfl hp (v := v) rfl ?_
    refine lnS_rd h3 2 rfl (fun g hg => own_rd hg) ?_
    exact hk _ h2
  · rw [decide_eq_false ho]
    rw [if_neg ho] at hk
    exact not_f (iff_t (hk _ hS))
theorem ref10_Room_s {r n : Nat} {room a b : Int} {Q : Nat → Nat → List Item} (hS : Sat e w (IsRNet r n room Q :: R)) (hk : ∀ w', Sat e w' (IsRNet r n room Q :: R) → K (.int .i64 (if okL n a b then room - (Q a.toNat b.toNat).length else 0)) w') :
    Cl prog 20 #[.pointer (some ⟨r, 0, none⟩), .int .i64 a, .int .i64 b] w K := by
  refine pacelineref10_Net_Room_calls ?_
  unfold pacelineref10_Net_Room
  obtain ⟨V, vs, hok, h1⟩ := rnet_of hS
  refine ref10_is_s h1 ?_
  by_cases ho : okL n a b
  · rw [decide_eq_true ho]
    rw [if_pos ho] at hk
    obtain ⟨c, d, rfl, rfl⟩ := okL_nat ho
    obtain ⟨o1, o2, o3, o4, o5⟩ := ho
    have hc : c < n := by omega
    have hd : d < n := by omega
    refine not_t (iff_f (dr_s hS fun w2 h2 => ?_))
    obtain ⟨V, vs, v, hok, hv, h3⟩ := rnet_row h2 (tab_get Q hc hd)
    obtain ⟨x1, x2, x3, x4, x5⟩ := ixb hc hd hok.2.2.1
    have hl := hok.2.2.2.2.2 c d hc hd
    have hr := hok.2.2.2.2.1
    repeat (first | refine gd_tt ?_ | refine gd_ff ?_ | refine gd_tf ?_ | refine gd_ft ?_ | refine gd_u ?_ | refine pk_t ?_ | refine pk_f ?_ | refine iff_t ?_ | refine iff_f ?_ | refine not_t ?_ | refine not_f ?_ | refine beq_s ?_ | refine bne_s ?_ | refine ncP_p ?_ | refine nc_p ?_ | refine fld_at ?_ | refine xt_02 ?_ | refine xt_12 ?_ | refine xt_03 ?_ | refine xt_13 ?_ | refine xt_23 ?_ | refine eq_t (by omega) ?_ | refine eq_f (by omega) ?_ | refine ne_t (by omega) ?_ | refine ne_f (by omega) ?_ | refine lt_t (by omega) ?_ | refine lt_f (by omega) ?_ | refine gt_t (by omega) ?_ | refine gt_f (by omega) ?_ | refine ge_t (by omega) ?_ | refine ge_f (by omega) ?_ | refine le_t (by omega) ?_ | refine le_f (by omega) ?_)
    refine ld1_at h3 0 rfl rfl ?_
    repeat (first | refine gd_tt ?_ | refine gd_ff ?_ | refine gd_tf ?_ | refine gd_ft ?_ | refine gd_u ?_ | refine pk_t ?_ | refine pk_f ?_ | refine iff_t ?_ | refine iff_f ?_ | refine not_t ?_ | refine not_f ?_ | refine beq_s ?_ | refine bne_s ?_ | refine ncP_p ?_ | refine nc_p ?_ | refine fld_at ?_ | refine xt_02 ?_ | refine xt_12 ?_ | refine xt_03 ?_ | refine xt_13 ?_ | refine xt_23 ?_ | refine eq_t (by omega) ?_ | refine eq_f (by omega) ?_ | refine ne_t (by omega) ?_ | refine ne_f (by omega) ?_ | refine lt_t (by omega) ?_ | refine lt_f (by omega) ?_ | refine gt_t (by omega) ?_ | refine gt_f (by omega) ?_ | refine ge_t (by omega) ?_ | refine ge_f (by omega) ?_ | refine le_t (by omega) ?_ | refine le_f (by omega) ?_)
    refine ld1_at h3 0 rfl rfl ?_
    repeat (first | refine gd_tt ?_ | refine gd_ff ?_ | refine gd_tf ?_ | refine gd_ft ?_ | refine gd_u ?_ | refine pk_t ?_ | refine pk_f ?_ | refine iff_t ?_ | refine iff_f ?_ | refine not_t ?_ | refine not_f ?_ | refine beq_s ?_ | refine bne_s ?_ | refine ncP_p ?_ | refine nc_p ?_ | refine fld_at ?_ | refine xt_02 ?_ | refine xt_12 ?_ | refine xt_03 ?_ | refine xt_13 ?_ | refine xt_23 ?_ | refine eq_t (by omega) ?_ | refine eq_f (by omega) ?_ | refine ne_t (by omega) ?_ | refine ne_f (by omega) ?_ | refine lt_t (by omega) ?_ | refine lt_f (by omega) ?_ | refine gt_t (by omega) ?_ | refine gt_f (by omega) ?_ | refine ge_t (by omega) ?_ | refine ge_f (by omega) ?_ | refine le_t (by omega) ?_ | refine le_f (by omega) ?_)
    refine ld1_at h3 0 rfl rfl ?_
    refine mul_s x1 x2 (add_s x3 x4 ?_)
    rw [x5]
    refine ixS_rd h3 1 rfl (fun g hg => own_rd hg) (fun _ => rfl) hv fun p hp => ?_
    refine ld1_of h3 1 rfl hp (v := v) rfl ?_
    refine lnS_rd h3 2 rfl (fun g hg => own_rd hg) ?_
    refine sub_s (by omega) (by omega) ?_
    exact hk _ h2
  · rw [decide_eq_false ho]
    rw [if_neg ho] at hk
    exact not_f (iff_t (hk _ hS))
def fstB (n : Int) (Q : Nat → Nat → List Item) (a b : Int) : Bool := recvB n Q a b
theorem ref10_First_s {r n : Nat} {room a b : Int} {Q : Nat → Nat → List Item} (hS : Sat e w (IsRNet r n room Q :: R)) (hk : ∀ w', Sat e w' (IsRNet r n room Q :: R) → K (.tuple #[.agg (recvV n Q a b).cs.toArray, .bool (recvB n Q a b)]) w') :
    Cl prog 16 #[.pointer (some ⟨r, 0, none⟩), .int .i64 a, .int .i64 b] w K := by
  refine pacelineref10_Net_First_calls ?_
  unfold pacelineref10_Net_First
  rw [zero_33]
  refine al_s (cs := Item.zero.cs) hS rfl fun t w1 h1 => ?_
  refine dr_s h1 fun w2 h2 => ?_
  obtain ⟨V, vs, hok, h3⟩ := rnet_of h2.swap
  refine ref10_is_s h3 ?_
  have hend : recvB n Q a b = false → (∀ w', Sat e w' (blk t 33 Item.zero.cs :: IsRNet r n room Q :: R) → bld (zeroD prog 33) #[(0, 1), (1, 6), (7, 1)] [] w' fun t31 w => stN 8 (.pointer (some ⟨t, 0, none⟩)) t31 w fun _ w => ldN 8 (.pointer (some ⟨t, 0, none⟩)) w fun r0 _ => K (.tuple #[r0, .bool false]) w) := by
    intro hB w' h'
    refine bld_s Item.zero.cs (by kernel_rfl) ?_
    refine stN_at h' 0 rfl (vs := Item.zero.cs) rfl rfl (by decide) (ints_flat _) (cs' := Item.zero.cs) (by kernel_rfl) fun w3 h3 => ?_
    refine ldN_at h3 0 (vs := Item.zero.cs) rfl (by rfl) rfl ?_
    have := hk _ h3.drop
    unfold recvV at this
    rw [hB, if_neg (by decide)] at this
    exact this
  rw [zero_33] at hend
  by_cases ho : okL n a b
  · rw [decide_eq_true ho]
    obtain ⟨c, d, rfl, rfl⟩ := okL_nat ho
    have ho' := ho
    obtain ⟨o1, o2, o3, o4, o5⟩ := ho
    have hc : c < n := by omega
    have hd : d < n := by omega
    obtain ⟨V, vs, v, hok, hv, h3⟩ := rnet_row h2.swap (tab_get Q hc hd)
    obtain ⟨x1, x2, x3, x4, x5⟩ := ixb hc hd hok.2.2.1
    refine not_t ?_
    repeat (first | refine gd_tt ?_ | refine gd_ff ?_ | refine gd_tf ?_ | refine gd_ft ?_ | refine gd_u ?_ | refine pk_t ?_ | refine pk_f ?_ | refine iff_t ?_ | refine iff_f ?_ | refine not_t ?_ | refine not_f ?_ | refine beq_s ?_ | refine bne_s ?_ | refine ncP_p ?_ | refine nc_p ?_ | refine fld_at ?_ | refine xt_02 ?_ | refine xt_12 ?_ | refine xt_03 ?_ | refine xt_13 ?_ | refine xt_23 ?_ | refine eq_t (by omega) ?_ | refine eq_f (by omega) ?_ | refine ne_t (by omega) ?_ | refine ne_f (by omega) ?_ | refine lt_t (by omega) ?_ | refine lt_f (by omega) ?_ | refine gt_t (by omega) ?_ | refine gt_f (by omega) ?_ | refine ge_t (by omega) ?_ | refine ge_f (by omega) ?_ | refine le_t (by omega) ?_ | refine le_f (by omega) ?_)
    refine ld1_at h3 0 rfl rfl ?_
    repeat (first | refine gd_tt ?_ | refine gd_ff ?_ | refine gd_tf ?_ | refine gd_ft ?_ | refine gd_u ?_ | refine pk_t ?_ | refine pk_f ?_ | refine iff_t ?_ | refine iff_f ?_ | refine not_t ?_ | refine not_f ?_ | refine beq_s ?_ | refine bne_s ?_ | refine ncP_p ?_ | refine nc_p ?_ | refine fld_at ?_ | refine xt_02 ?_ | refine xt_12 ?_ | refine xt_03 ?_ | refine xt_13 ?_ | refine xt_23 ?_ | refine eq_t (by omega) ?_ | refine eq_f (by omega) ?_ | refine ne_t (by omega) ?_ | refine ne_f (by omega) ?_ | refine lt_t (by omega) ?_ | refine lt_f (by omega) ?_ | refine gt_t (by omega) ?_ | refine gt_f (by omega) ?_ | refine ge_t (by omega) ?_ | refine ge_f (by omega) ?_ | refine le_t (by omega) ?_ | refine le_f (by omega) ?_)
    refine ld1_at h3 0 rfl rfl ?_
    refine gd_ff (mul_s x1 x2 (gd_ff (gd_ff (add_s x3 x4 ?_))))
    rw [x5]
    refine gd_ff (ixS_rd h3 1 rfl (fun g hg => own_rd hg) (fun _ => rfl) hv fun p hp => ?_)
    refine gd_ff (ld1_of h3 1 rfl hp (v := v) rfl ?_)
    refine gd_ff (lnS_rd h3 2 rfl (fun g hg => own_rd hg) ?_)
    cases hq : Q c d with
    | nil =>
      have hB : recvB n Q c d = false := by unfold recvB; rw [Int.toNat_natCast, Int.toNat_natCast, hq]; simp
      refine gd_ff (eq_t rfl ?_)
      refine pk_f (iff_t ?_)
      exact hend hB _ h2
    | cons y q =>
      have hB : recvB n Q c d = true := by unfold recvB; rw [Int.toNat_natCast, Int.toNat_natCast, hq]; simp [ho']
      refine gd_ff (eq_f (by simp; omega) ?_)
      refine pk_f (iff_f ?_)
      refine dr_s h2 fun w5 h5 => ?_
      obtain ⟨V, vs, v, hok, hv, h6⟩ := rnet_row h5.swap (tab_get Q hc hd)
      repeat (first | refine gd_tt ?_ | refine gd_ff ?_ | refine gd_tf ?_ | refine gd_ft ?_ | refine gd_u ?_ | refine pk_t ?_ | refine pk_f ?_ | refine iff_t ?_ | refine iff_f ?_ | refine not_t ?_ | refine not_f ?_ | refine beq_s ?_ | refine bne_s ?_ | refine ncP_p ?_ | refine nc_p ?_ | refine fld_at ?_ | refine xt_02 ?_ | refine xt_12 ?_ | refine xt_03 ?_ | refine xt_13 ?_ | refine xt_23 ?_ | refine eq_t (by omega) ?_ | refine eq_f (by omega) ?_ | refine ne_t (by omega) ?_ | refine ne_f (by omega) ?_ | refine lt_t (by omega) ?_ | refine lt_f (by omega) ?_ | refine gt_t (by omega) ?_ | refine gt_f (by omega) ?_ | refine ge_t (by omega) ?_ | refine ge_f (by omega) ?_ | refine le_t (by omega) ?_ | refine le_f (by omega) ?_)
      refine ld1_at h6 0 rfl rfl ?_
      repeat (first | refine gd_tt ?_ | refine gd_ff ?_ | refine gd_tf ?_ | refine gd_ft ?_ | refine gd_u ?_ | refine pk_t ?_ | refine pk_f ?_ | refine iff_t ?_ | refine iff_f ?_ | refine not_t ?_ | refine not_f ?_ | refine beq_s ?_ | refine bne_s ?_ | refine ncP_p ?_ | refine nc_p ?_ | refine fld_at ?_ | refine xt_02 ?_ | refine xt_12 ?_ | refine xt_03 ?_ | refine xt_13 ?_ | refine xt_23 ?_ | refine eq_t (by omega) ?_ | refine eq_f (by omega) ?_ | refine ne_t (by omega) ?_ | refine ne_f (by omega) ?_ | refine lt_t (by omega) ?_ | refine lt_f (by omega) ?_ | refine gt_t (by omega) ?_ | refine gt_f (by omega) ?_ | refine ge_t (by omega) ?_ | refine ge_f (by omega) ?_ | refine le_t (by omega) ?_ | refine le_f (by omega) ?_)
      refine ld1_at h6 0 rfl rfl ?_
      refine mul_s x1 x2 (add_s x3 x4 ?_)
      rw [x5]
      refine ixS_rd h6 1 rfl (fun g hg => own_rd hg) (fun _ => rfl) hv fun p hp => ?_
      refine ld1_of h6 1 rfl hp (v := v) rfl ?_
      refine ixS_rd (j := 0) h6 2 rfl (fun g hg => own_rd hg) (fun _ => rfl) (x := y) (by rw [hq]; rfl) fun p hp => ?_
      refine ldN_of h6 2 rfl hp rfl ?_
      refine stN_at h5 0 rfl (vs := y.cs) rfl rfl (by decide) (ints_flat _) (cs' := y.cs) (by kernel_rfl) fun w7 h7 => ?_
      refine ldN_at h7 0 (vs := y.cs) rfl (by rfl) rfl ?_
      have := hk _ h7.drop
      unfold recvV at this
      rw [hB, if_pos rfl, Int.toNat_natCast, Int.toNat_natCast, hq] at this
      exact this
  · rw [decide_eq_false ho]
    have hB : recvB n Q a b = false := by unfold recvB; rw [decide_eq_false ho]; rfl
    refine not_f ?_
    repeat (first | refine gd_tt ?_ | refine gd_ff ?_ | refine gd_tf ?_ | refine gd_ft ?_ | refine gd_u ?_ | refine pk_t ?_ | refine pk_f ?_ | refine iff_t ?_ | refine iff_f ?_ | refine not_t ?_ | refine not_f ?_ | refine beq_s ?_ | refine bne_s ?_ | refine ncP_p ?_ | refine nc_p ?_ | refine fld_at ?_ | refine xt_02 ?_ | refine xt_12 ?_ | refine xt_03 ?_ | refine xt_13 ?_ | refine xt_23 ?_ | refine eq_t (by omega) ?_ | refine eq_f (by omega) ?_ | refine ne_t (by omega) ?_ | refine ne_f (by omega) ?_ | refine lt_t (by omega) ?_ | refine lt_f (by omega) ?_ | refine gt_t (by omega) ?_ | refine gt_f (by omega) ?_ | refine ge_t (by omega) ?_ | refine ge_f (by omega) ?_ | refine le_t (by omega) ?_ | refine le_f (by omega) ?_)
    exact hend hB _ h2

/-- A row is written anew. -/
theorem rnet_write {r n : Nat} {room : Int} {Q : Nat → Nat → List Item} {c d : Nat} {V v v' : Value} {vs : List Value} {q : List Item} (hc : c < n) (hd : d < n) (hok : RNetOk n room Q vs) (hq : (q.length : Int) ≤ room) (hv : vs[c * n + d]? = some v)
    (h : Sat e w (blk r 65 [.int .i64 n, .int .i64 room, V] :: ownS 27 1 one1 V (vs.set (c * n + d) v') :: ownS 33 8 Item.cs v' q :: sepL ((rowsI vs (tabQ n Q)).eraseIdx (c * n + d)) :: R)) :
    Sat e w (IsRNet r n room (updQ Q c d q) :: R) := by
  have hi := (List.getElem?_eq_some_iff.1 hv).1
  have h1 := h.selR [_, _, _, _] [_, _, _, _] [2, 3, 0, 1] (by decide) rfl
  have h2 := h1.unfocus _ (rowsI_get hv (tab_get Q hc hd))
  rw [rowsI_set hi (by rw [tab_len]; exact ix_lt hc hd), ← tab_set Q q hc hd] at h2
  refine rnet_mk ⟨by rw [List.length_set]; exact hok.1, hok.2.1, hok.2.2.1, hok.2.2.2.1, hok.2.2.2.2.1, fun a b ha hb => ?_⟩ (h2.selR [_, _, _] [_, _, _] [1, 2, 0] (by decide) rfl)
  unfold updQ
  split
  · exact hq
  · exact hok.2.2.2.2.2 a b ha hb
theorem ref10_Recv_s {r n : Nat} {room a b : Int} {Q : Nat → Nat → List Item} (hS : Sat e w (IsRNet r n room Q :: R)) (hk : ∀ w', Sat e w' (IsRNet r n room (recvQ n Q a b) :: R) → K (.tuple #[.agg (recvV n Q a b).cs.toArray, .bool (recvB n Q a b)]) w') :
    Cl prog 17 #[.pointer (some ⟨r, 0, none⟩), .int .i64 a, .int .i64 b] w K := by
  refine pacelineref10_Net_Recv_calls ?_
  unfold pacelineref10_Net_Recv
  rw [zero_33]
  refine al_s (cs := Item.zero.cs) hS rfl fun t w1 h1 => ?_
  refine ref10_First_s h1.swap fun w2 h2 => ?_
  repeat (first | refine gd_tt ?_ | refine gd_ff ?_ | refine gd_tf ?_ | refine gd_ft ?_ | refine gd_u ?_ | refine pk_t ?_ | refine pk_f ?_ | refine iff_t ?_ | refine iff_f ?_ | refine not_t ?_ | refine not_f ?_ | refine beq_s ?_ | refine bne_s ?_ | refine ncP_p ?_ | refine nc_p ?_ | refine fld_at ?_ | refine xt_02 ?_ | refine xt_12 ?_ | refine xt_03 ?_ | refine xt_13 ?_ | refine xt_23 ?_ | refine eq_t (by omega) ?_ | refine eq_f (by omega) ?_ | refine ne_t (by omega) ?_ | refine ne_f (by omega) ?_ | refine lt_t (by omega) ?_ | refine lt_f (by omega) ?_ | refine gt_t (by omega) ?_ | refine gt_f (by omega) ?_ | refine ge_t (by omega) ?_ | refine ge_f (by omega) ?_ | refine le_t (by omega) ?_ | refine le_f (by omega) ?_)
  refine al_s (cs := Item.zero.cs) h2 rfl fun u w3 h3 => ?_
  refine stN_at h3 0 rfl (vs := (recvV n Q a b).cs) rfl rfl (by decide) (ints_flat _) (cs' := (recvV n Q a b).cs) (by rfl) fun w4 h4 => ?_
  refine J0.cut (fun w => Sat e w (blk u 33 (recvV n Q a b).cs :: IsRNet r n room (recvQ n Q a b) :: blk t 33 Item.zero.cs :: R)) (fun k1 hcut => ?_) (fun w5 h5 => ?_)
  · cases hB : recvB n Q a b with
    | false =>
      rw [recvQ_bad hB] at hcut
      exact iff_f (hcut _ h4)
    | true =>
      refine iff_t ?_
      have ho : okL n a b := by unfold recvB at hB; rw [Bool.and_eq_true, decide_eq_true_eq] at hB; exact hB.1
      obtain ⟨c, d, rfl, rfl⟩ := okL_nat ho
      obtain ⟨o1, o2, o3, o4, o5⟩ := ho
      have hc : c < n := by omega
      have hd : d < n := by omega
      have hrec := recv_at hB
      generalize recvV n Q c d = y at hrec h4 hcut ⊢
      have hQ' : recvQ n Q c d = updQ Q c d (recvQ n Q c d c d) := by
        unfold recvQ
        rw [if_pos hB, Int.toNat_natCast, Int.toNat_natCast]
        congr 1
        exact (if_pos ⟨rfl, rfl⟩).symm
      rw [hQ'] at hcut
      generalize recvQ n Q c d c d = q at hrec hcut
      refine bsl0 h4 Item.cs fun nv w5 h5 => ?_
      refine dr_s h5 fun w6 h6 => ?_
      obtain ⟨V, vs, hok, h7⟩ := rnet_of (h6.pick 2 rfl)
      obtain ⟨v, hv⟩ := get_of_lt (l := vs) (j := c * n + d) (by rw [hok.1]; exact ix_lt hc hd)
      have h8 := (h7.pick 2 rfl).focus _ (rowsI_get hv (tab_get Q hc hd))
      obtain ⟨x1, x2, x3, x4, x5⟩ := ixb hc hd hok.2.2.1
      have hl := hok.2.2.2.2.2 c d hc hd
      have hr16 := hok.2.2.2.2.1
      rw [hrec] at h8 hl
      simp only [List.length_cons] at hl
      repeat (first | refine gd_tt ?_ | refine gd_ff ?_ | refine gd_tf ?_ | refine gd_ft ?_ | refine gd_u ?_ | refine pk_t ?_ | refine pk_f ?_ | refine iff_t ?_ | refine iff_f ?_ | refine not_t ?_ | refine not_f ?_ | refine beq_s ?_ | refine bne_s ?_ | refine ncP_p ?_ | refine nc_p ?_ | refine fld_at ?_ | refine xt_02 ?_ | refine xt_12 ?_ | refine xt_03 ?_ | refine xt_13 ?_ | refine xt_23 ?_ | refine eq_t (by omega) ?_ | refine eq_f (by omega) ?_ | refine ne_t (by omega) ?_ | refine ne_f (by omega) ?_ | refine lt_t (by omega) ?_ | refine lt_f (by omega) ?_ | refine gt_t (by omega) ?_ | refine gt_f (by omega) ?_ | refine ge_t (by omega) ?_ | refine ge_f (by omega) ?_ | refine le_t (by omega) ?_ | refine le_f (by omega) ?_)
      refine ld1_at h8 2 rfl rfl ?_
      repeat (first | refine gd_tt ?_ | refine gd_ff ?_ | refine gd_tf ?_ | refine gd_ft ?_ | refine gd_u ?_ | refine pk_t ?_ | refine pk_f ?_ | refine iff_t ?_ | refine iff_f ?_ | refine not_t ?_ | refine not_f ?_ | refine beq_s ?_ | refine bne_s ?_ | refine ncP_p ?_ | refine nc_p ?_ | refine fld_at ?_ | refine xt_02 ?_ | refine xt_12 ?_ | refine xt_03 ?_ | refine xt_13 ?_ | refine xt_23 ?_ | refine eq_t (by omega) ?_ | refine eq_f (by omega) ?_ | refine ne_t (by omega) ?_ | refine ne_f (by omega) ?_ | refine lt_t (by omega) ?_ | refine lt_f (by omega) ?_ | refine gt_t (by omega) ?_ | refine gt_f (by omega) ?_ | refine ge_t (by omega) ?_ | refine ge_f (by omega) ?_ | refine le_t (by omega) ?_ | refine le_f (by omega) ?_)
      refine ld1_at h8 2 rfl rfl ?_
      refine mul_s x1 x2 (add_s x3 x4 ?_)
      repeat (first | refine gd_tt ?_ | refine gd_ff ?_ | refine gd_tf ?_ | refine gd_ft ?_ | refine gd_u ?_ | refine pk_t ?_ | refine pk_f ?_ | refine iff_t ?_ | refine iff_f ?_ | refine not_t ?_ | refine not_f ?_ | refine beq_s ?_ | refine bne_s ?_ | refine ncP_p ?_ | refine nc_p ?_ | refine fld_at ?_ | refine xt_02 ?_ | refine xt_12 ?_ | refine xt_03 ?_ | refine xt_13 ?_ | refine xt_23 ?_ | refine eq_t (by omega) ?_ | refine eq_f (by omega) ?_ | refine ne_t (by omega) ?_ | refine ne_f (by omega) ?_ | refine lt_t (by omega) ?_ | refine lt_f (by omega) ?_ | refine gt_t (by omega) ?_ | refine gt_f (by omega) ?_ | refine ge_t (by omega) ?_ | refine ge_f (by omega) ?_ | refine le_t (by omega) ?_ | refine le_f (by omega) ?_)
      refine ld1_at h8 2 rfl rfl ?_
      repeat (first | refine gd_tt ?_ | refine gd_ff ?_ | refine gd_tf ?_ | refine gd_ft ?_ | refine gd_u ?_ | refine pk_t ?_ | refine pk_f ?_ | refine iff_t ?_ | refine iff_f ?_ | refine not_t ?_ | refine not_f ?_ | refine beq_s ?_ | refine bne_s ?_ | refine ncP_p ?_ | refine nc_p ?_ | refine fld_at ?_ | refine xt_02 ?_ | refine xt_12 ?_ | refine xt_03 ?_ | refine xt_13 ?_ | refine xt_23 ?_ | refine eq_t (by omega) ?_ | refine eq_f (by omega) ?_ | refine ne_t (by omega) ?_ | refine ne_f (by omega) ?_ | refine lt_t (by omega) ?_ | refine lt_f (by omega) ?_ | refine gt_t (by omega) ?_ | refine gt_f (by omega) ?_ | refine ge_t (by omega) ?_ | refine ge_f (by omega) ?_ | refine le_t (by omega) ?_ | refine le_f (by omega) ?_)
      refine ld1_at h8 2 rfl rfl ?_
      refine mul_s x1 x2 (add_s x3 x4 ?_)
      rw [x5]
      refine ixS_rd h8 3 rfl (fun g hg => own_rd hg) (fun _ => rfl) hv fun p hp => ?_
      refine ld1_of h8 3 rfl hp (v := v) rfl ?_
      refine slc_from (lo := 1) h8 0 rfl (fun g hg => own_rd hg) (fun _ => rfl) (by simp) fun sv hsv => ?_
      have h9 := h8.selR [_, _, _, _, _, _, _] [_, _, _, _, _, _, _] [4, 0, 1, 2, 3, 5, 6] (by decide) rfl
      refine apS_own te_27 te_27.und (fun _ => rfl) (fun _ => ints_flat _) h9 hsv (by simp only [List.drop_succ_cons, List.drop_zero, List.length_nil]; omega) fun nv' w10 h10 => ?_
      have hfl := h10.own_cells 0 rfl
      refine ⟨ld1_at h10 3 rfl rfl ⟨rfl, rfl⟩, ld1_at h10 3 rfl rfl ⟨rfl, rfl⟩, ?_⟩
      refine st_own' h10 4 rfl (fun _ => rfl) (by rw [hok.1]; exact ix_lt hc hd) (x := nv') hfl.1 (own1_flat _ hfl.2) fun w11 h11 => ?_
      refine hcut _ ?_
      have h12 := rnet_write (v' := nv') (q := q) hc hd hok (by omega) hv (h11.selR [_, _, _, _, _, _, _] [_, _, _, _, _, _] [3, 4, 0, 2, 5, 6] (by decide) rfl)
      exact h12.selR [_, _, _] [_, _, _] [1, 0, 2] (by decide) rfl
  · refine ldN_at h5 0 (vs := (recvV n Q a b).cs) rfl (by rfl) rfl ?_
    refine stN_at h5 2 rfl (vs := (recvV n Q a b).cs) rfl rfl (by decide) (ints_flat _) (cs' := (recvV n Q a b).cs) (by rfl) fun w6 h6 => ?_
    refine ldN_at h6 2 (vs := (recvV n Q a b).cs) rfl (by rfl) rfl ?_
    exact hk _ (h6.selR [_, _, _] [_] [1] (by decide) rfl)
end Go.Proofs.Ytcocbmbadigjbaa
