/- The law LinkCounts. Conditions: none. -/
import Derived.Test.YtcocbmbadigjbaaLinkF
namespace Go.Proofs.Ytcocbmbadigjbaa
open Go Go.E
set_option maxRecDepth 100000
variable {e w : World} {R : List HP} {K : KV}

/-! ### One link's change, in all items -/
theorem fl_upd {α : Type} {f f' : Nat → List α} {a : Nat} (hf : ∀ i, i ≠ a → f' i = f i) : ∀ {n : Nat}, a < n → ∃ pre post, fl f n = pre ++ (f a ++ post) ∧ fl f' n = pre ++ (f' a ++ post)
  | 0, h => by omega
  | n + 1, h => by
    rw [fl_succ, fl_succ]
    by_cases h1 : a = n
    · subst h1
      have e1 : fl f' a = fl f a := by
        unfold fl
        have : ∀ l : List Nat, (∀ i ∈ l, i ≠ a) → l.flatMap f' = l.flatMap f := by
          intro l hl
          induction l with
          | nil => rfl
          | cons x l ih => simp only [List.flatMap_cons]; rw [hf x (hl x (by simp)), ih fun i hi => hl i (by simp [hi])]
        exact this _ fun i hi => by have := List.mem_range.1 hi; omega
      exact ⟨fl f a, [], by simp, by rw [e1]; simp⟩
    · obtain ⟨p, q, h2, h3⟩ := fl_upd hf (n := n) (by omega)
      exact ⟨p, q ++ f n, by rw [h2]; simp, by rw [h3, hf n (by omega)]; simp⟩
theorem allQ_upd {n a b : Nat} (Q : Nat → Nat → List Item) (q : List Item) (ha : a < n) (hb : b < n) : ∃ pre post, allQ n Q = pre ++ (Q a b ++ post) ∧ allQ n (updQ Q a b q) = pre ++ (q ++ post) := by
  have hrow : ∀ i, i ≠ a → rowQ n (updQ Q a b q) i = rowQ n Q i := by
    intro i hi
    unfold rowQ
    congr 1
    funext d
    unfold updQ
    rw [if_neg fun h => hi h.1]
  obtain ⟨p1, q1, h1, h2⟩ := fl_upd hrow ha
  have hcell : ∀ i, i ≠ b → updQ Q a b q a i = Q a i := by
    intro i hi
    unfold updQ
    rw [if_neg fun h => hi h.2]
  obtain ⟨p2, q2, h3, h4⟩ := fl_upd hcell hb
  refine ⟨p1 ++ p2, q2 ++ q1, ?_, ?_⟩
  · unfold allQ
    rw [h1]
    show p1 ++ (fl (Q a) n ++ q1) = _
    rw [h3]
    simp
  · unfold allQ
    rw [h2]
    show p1 ++ (fl (updQ Q a b q a) n ++ q1) = _
    rw [h4, show updQ Q a b q a b = q from if_pos ⟨rfl, rfl⟩]
    simp
theorem allQ_send {n : Nat} {room a b : Int} {Q : Nat → Nat → List Item} {x : Item} (h : sendE n room Q a b x = 0) : (allQ n (sendQ n room Q a b x)).Perm (x :: allQ n Q) := by
  obtain ⟨o1, o2, o3, o4, _⟩ := sendE_ok h
  unfold sendQ
  rw [if_pos h]
  obtain ⟨p, q, h1, h2⟩ := allQ_upd (n := n) (a := a.toNat) (b := b.toNat) Q (Q a.toNat b.toNat ++ [x]) (by omega) (by omega)
  rw [h1, h2]
  have : p ++ (Q a.toNat b.toNat ++ [x] ++ q) = (p ++ Q a.toNat b.toNat) ++ (x :: q) := by simp
  rw [this]
  refine List.perm_middle.trans ?_
  simp
theorem allQ_recv {n : Nat} {a b : Int} {Q : Nat → Nat → List Item} (h : recvB n Q a b = true) : (allQ n Q).Perm (recvV n Q a b :: allQ n (recvQ n Q a b)) := by
  have ho : okL n a b := by unfold recvB at h; rw [Bool.and_eq_true, decide_eq_true_eq] at h; exact h.1
  obtain ⟨o1, o2, o3, o4, _⟩ := ho
  unfold recvQ recvV
  rw [if_pos h, if_pos h]
  obtain ⟨p, q, h1, h2⟩ := allQ_upd (n := n) (a := a.toNat) (b := b.toNat) Q (Q a.toNat b.toNat).tail (by omega) (by omega)
  rw [h1, h2]
  cases hq : Q a.toNat b.toNat with
  | nil => unfold recvB at h; rw [hq] at h; simp at h
  | cons y r =>
    show (p ++ ((y :: r) ++ q)).Perm (y :: (p ++ (r ++ q)))
    exact List.perm_middle

/-! ### What the law counts -/
def leastL (l : List Item) : Int := l.foldl (fun m x => if x.Kind ≠ 2 then min m (max 0 x.m.key.T) else m) 1125899906842624
theorem leastL_snoc (l : List Item) (x : Item) : leastL (l ++ [x]) = if x.Kind ≠ 2 then min (leastL l) (max 0 x.m.key.T) else leastL l := by simp [leastL]
theorem timesC_cons (x : Item) (l : List Item) : timesC (x :: l) = if x.Kind ≠ 2 then x.m.key.T :: timesC l else timesC l := by
  unfold timesC
  by_cases h : x.Kind = 2 <;> simp [h]
theorem least_rel : ∀ (l : List Item) (m : Int), (timesC l).foldl (fun n t => min n (clampT t)) (if m ≤ 1099511627776 then m else 1125899906842624) =
    (if l.foldl (fun m x => if x.Kind ≠ 2 then min m (max 0 x.m.key.T) else m) m ≤ 1099511627776 then l.foldl (fun m x => if x.Kind ≠ 2 then min m (max 0 x.m.key.T) else m) m else 1125899906842624)
  | [], m => rfl
  | x :: l, m => by
    rw [timesC_cons, List.foldl_cons, ← least_rel l]
    by_cases h : x.Kind = 2
    · have hk : ¬ (x.Kind ≠ 2) := fun k => k h
      simp only [if_neg hk]
    · rw [if_pos h, if_pos h, List.foldl_cons]
      congr 1
      unfold clampT Inf MaxT
      (repeat' split) <;> omega
theorem leastL_t (l : List Item) : leastT (timesC l) = if leastL l ≤ 1099511627776 then leastL l else 1125899906842624 := least_rel l 1125899906842624
theorem leastT_perm {l m : List Int} (h : l.Perm m) : leastT l = leastT m := by
  have key : ∀ n : Int, l.foldl (fun n t => min n (clampT t)) n = m.foldl (fun n t => min n (clampT t)) n := by
    induction h with
    | nil => exact fun _ => rfl
    | cons x _ ih => exact fun n => ih _
    | swap x y l => intro n; simp only [List.foldl_cons]; congr 1; omega
    | trans _ _ h1 h2 => exact fun n => (h1 n).trans (h2 n)
  exact key _
def cntM (l : List Item) : Nat := l.countP fun x => decide (x.Kind ≠ 2) && !decide (x.Colour = 0)
theorem cntM_snoc (l : List Item) (x : Item) : cntM (l ++ [x]) = cntM l + if x.Kind ≠ 2 ∧ ¬ x.Colour = 0 then 1 else 0 := by
  unfold cntM
  rw [List.countP_append]
  simp [List.countP_singleton]
theorem cntM_le (l : List Item) : cntM l ≤ l.length := List.countP_le_length
theorem cntM_one {l : List Item} (h : ∀ x ∈ l, x.Colour / 2 = 0) : cntM l = cntC 1 l := by
  unfold cntM cntC
  refine List.countP_congr fun x hx => ?_
  have := h x hx
  have e : (x.Colour = 1) ↔ ¬ x.Colour = 0 := by omega
  simp [e]
theorem take_snoc {α : Type} {l : List α} {j : Nat} {x : α} (h : l[j]? = some x) : l.take (j + 1) = l.take j ++ [x] := by
  rw [List.take_add_one, h]; rfl

/-- What is on its way, as the law has it. -/
structure OnOk (on : List Item) (Q : Nat → Nat → List Item) (i : Nat) : Prop where
  perm : on.Perm (allQ 4 Q)
  len : on.length ≤ i
  col : ∀ x ∈ on, x.Colour / 2 = 0
  body : ∀ x ∈ on, x.m.Body < i
  nodup : (on.map fun x => x.m.Body).Nodup
theorem OnOk.up {on : List Item} {Q : Nat → Nat → List Item} {i : Nat} (h : OnOk on Q i) : OnOk on Q (i + 1) :=
  ⟨h.perm, by have := h.len; omega, h.col, fun x hx => by have := h.body x hx; omega, h.nodup⟩
theorem OnOk.nd {on : List Item} {Q : Nat → Nat → List Item} {i : Nat} (h : OnOk on Q i) : on.Nodup := by
  have h1 := h.nodup
  rw [List.nodup_iff_pairwise_ne, List.pairwise_map] at h1
  rw [List.nodup_iff_pairwise_ne]
  exact h1.imp fun hne e => hne (by rw [e])
theorem OnOk.send {on : List Item} {Q : Nat → Nat → List Item} {i : Nat} (h : OnOk on Q i) {a b : Int} {x : Item} (hb : x.m.Body = i) (hs : sendE 4 16 Q a b x = 0) : OnOk (on ++ [x]) (sendQ 4 16 Q a b x) (i + 1) := by
  have hc : x.Colour / 2 = 0 := by
    unfold sendE at hs
    by_cases h0 : sendBad 4 a b x
    · rw [if_pos h0] at hs; cases hs
    · exact Decidable.not_not.1 fun k => h0 (.inr (.inr (.inr k)))
  refine ⟨?_, ?_, ?_, ?_, ?_⟩
  · have h1 := allQ_send (n := 4) hs
    refine (List.perm_append_singleton x on).trans ?_
    exact ((h.perm.cons x).trans h1.symm)
  · have := h.len; simp; omega
  · intro y hy
    rcases List.mem_append.1 hy with hy | hy
    · exact h.col y hy
    · rw [List.mem_singleton.1 hy]; exact hc
  · intro y hy
    rcases List.mem_append.1 hy with hy | hy
    · have := h.body y hy; omega
    · rw [List.mem_singleton.1 hy, hb]; omega
  · rw [List.map_append, List.nodup_append]
    refine ⟨h.nodup, by simp, ?_⟩
    intro a ha b hb'
    obtain ⟨y, hy, rfl⟩ := List.mem_map.1 ha
    have e1 := h.body y hy
    simp at hb'
    omega
theorem OnOk.recv {on : List Item} {Q : Nat → Nat → List Item} {i : Nat} (h : OnOk on Q i) {a b : Int} (hr : recvB 4 Q a b = true) :
    (on.filter fun z => decide (z ≠ recvV 4 Q a b)).length + 1 = on.length ∧ OnOk (on.filter fun z => decide (z ≠ recvV 4 Q a b)) (recvQ 4 Q a b) i := by
  have h1 : (allQ 4 Q).Perm (recvV 4 Q a b :: allQ 4 (recvQ 4 Q a b)) := allQ_recv (n := 4) hr
  have h2 := h.perm.trans h1
  have h3 := (h2.nodup_iff).1 h.nd
  obtain ⟨h4, h5⟩ := List.nodup_cons.1 h3
  have h6 := h2.filter fun z => decide (z ≠ recvV 4 Q a b)
  have h7 : ((recvV 4 Q a b :: allQ 4 (recvQ 4 Q a b)).filter fun z => decide (z ≠ recvV 4 Q a b)) = allQ 4 (recvQ 4 Q a b) := by
    rw [List.filter_cons_of_neg (by simp), List.filter_eq_self]
    intro z hz
    exact decide_eq_true fun e => h4 (e ▸ hz)
  rw [h7] at h6
  have h8 := h6.length_eq
  have h9 := h2.length_eq
  simp only [List.length_cons] at h9
  refine ⟨by rw [h8]; exact h9.symm, h6, ?_, ?_, ?_, ?_⟩
  · exact Nat.le_trans (List.length_filter_le _ _) h.len
  · exact fun y hy => h.col y (List.mem_filter.1 hy).1
  · exact fun y hy => h.body y (List.mem_filter.1 hy).1
  · exact h.nodup.sublist ((List.filter_sublist).map _)

/-- Kind == 0 && Send(A, B, I) == OK. -/
theorem trySend_s {x o : Nat} {n room : Int} {Q : Nat → Nat → List Item} {k A B : Int} {y : Item} (hS : Sat e w (IsNet x n room Q :: blk o 35 (.int .i64 k :: .int .i64 A :: .int .i64 B :: y.cs) :: R))
    (hk : ∀ w' (b : Bool) Q', (b = true → sendE n room Q A B y = 0) → (Q' = if b = true then sendQ n room Q A B y else Q) → Sat e w' (IsNet x n room Q' :: blk o 35 (.int .i64 k :: .int .i64 A :: .int .i64 B :: y.cs) :: R) → K (.bool b) w') :
    bi .eql .i64 (.int .i64 k) (.int .i64 0) w fun t46 w =>
  gd t46 true (fun k => k (.pointer (some ⟨x, 0, none⟩)) w) w fun t48 w =>
  gd t46 true (fun k => fld 1 (.pointer (some ⟨o, 0, none⟩)) w k) w fun t49 w =>
  gd t46 true (fun k => ld1 t49 w k) w fun t50 w =>
  gd t46 true (fun k => fld 2 (.pointer (some ⟨o, 0, none⟩)) w k) w fun t51 w =>
  gd t46 true (fun k => ld1 t51 w k) w fun t52 w =>
  gd t46 true (fun k => fld 3 (.pointer (some ⟨o, 0, none⟩)) w k) w fun t53 w =>
  gd t46 true (fun k => ldN 8 t53 w k) w fun t54 w =>
  gd t46 true (fun k => Cl prog 7 #[t48, t50, t52, t54] w k) w fun t55 w =>
  gd t46 true (fun k => bi .eql .i64 t55 (.int .i64 0) w k) w fun t56 w =>
  pk t46 t56 (.bool false) w K := by
  refine eq_c (fun c3 => ?_) (fun c3 => ?_)
  · repeat (first | refine gd_tt ?_ | refine gd_ff ?_ | refine gd_tf ?_ | refine gd_ft ?_ | refine gd_u ?_ | refine pk_t ?_ | refine pk_f ?_ | refine iff_t ?_ | refine iff_f ?_ | refine not_t ?_ | refine not_f ?_ | refine beq_s ?_ | refine bne_s ?_ | refine ncP_p ?_ | refine nc_p ?_ | refine fld_at ?_ | refine xt_02 ?_ | refine xt_12 ?_ | refine xt_03 ?_ | refine xt_13 ?_ | refine xt_23 ?_ | refine eq_t (by omega) ?_ | refine eq_f (by omega) ?_ | refine ne_t (by omega) ?_ | refine ne_f (by omega) ?_ | refine lt_t (by omega) ?_ | refine lt_f (by omega) ?_ | refine gt_t (by omega) ?_ | refine gt_f (by omega) ?_ | refine ge_t (by omega) ?_ | refine ge_f (by omega) ?_ | refine le_t (by omega) ?_ | refine le_f (by omega) ?_)
    refine ld1_at hS 1 rfl (v := .int .i64 A) rfl ?_
    repeat (first | refine gd_tt ?_ | refine gd_ff ?_ | refine gd_tf ?_ | refine gd_ft ?_ | refine gd_u ?_ | refine pk_t ?_ | refine pk_f ?_ | refine iff_t ?_ | refine iff_f ?_ | refine not_t ?_ | refine not_f ?_ | refine beq_s ?_ | refine bne_s ?_ | refine ncP_p ?_ | refine nc_p ?_ | refine fld_at ?_ | refine xt_02 ?_ | refine xt_12 ?_ | refine xt_03 ?_ | refine xt_13 ?_ | refine xt_23 ?_ | refine eq_t (by omega) ?_ | refine eq_f (by omega) ?_ | refine ne_t (by omega) ?_ | refine ne_f (by omega) ?_ | refine lt_t (by omega) ?_ | refine lt_f (by omega) ?_ | refine gt_t (by omega) ?_ | refine gt_f (by omega) ?_ | refine ge_t (by omega) ?_ | refine ge_f (by omega) ?_ | refine le_t (by omega) ?_ | refine le_f (by omega) ?_)
    refine ld1_at hS 1 rfl (v := .int .i64 B) rfl ?_
    repeat (first | refine gd_tt ?_ | refine gd_ff ?_ | refine gd_tf ?_ | refine gd_ft ?_ | refine gd_u ?_ | refine pk_t ?_ | refine pk_f ?_ | refine iff_t ?_ | refine iff_f ?_ | refine not_t ?_ | refine not_f ?_ | refine beq_s ?_ | refine bne_s ?_ | refine ncP_p ?_ | refine nc_p ?_ | refine fld_at ?_ | refine xt_02 ?_ | refine xt_12 ?_ | refine xt_03 ?_ | refine xt_13 ?_ | refine xt_23 ?_ | refine eq_t (by omega) ?_ | refine eq_f (by omega) ?_ | refine ne_t (by omega) ?_ | refine ne_f (by omega) ?_ | refine lt_t (by omega) ?_ | refine lt_f (by omega) ?_ | refine gt_t (by omega) ?_ | refine gt_f (by omega) ?_ | refine ge_t (by omega) ?_ | refine ge_f (by omega) ?_ | refine le_t (by omega) ?_ | refine le_f (by omega) ?_)
    refine ldN_at hS 1 (vs := y.cs) rfl (by rfl) rfl ?_
    refine gd_tt (link_Send_a hS fun w7 h7 => ?_)
    refine gd_tt (eq_c (fun c4 => ?_) (fun c4 => ?_))
    · exact pk_t (hk _ true _ (fun _ => c4) rfl h7)
    · refine pk_t (hk _ false _ (fun h => by cases h) rfl ?_)
      rw [sendQ_bad c4] at h7
      exact h7
  · repeat (first | refine gd_tt ?_ | refine gd_ff ?_ | refine gd_tf ?_ | refine gd_ft ?_ | refine gd_u ?_ | refine pk_t ?_ | refine pk_f ?_ | refine iff_t ?_ | refine iff_f ?_ | refine not_t ?_ | refine not_f ?_ | refine beq_s ?_ | refine bne_s ?_ | refine ncP_p ?_ | refine nc_p ?_ | refine fld_at ?_ | refine xt_02 ?_ | refine xt_12 ?_ | refine xt_03 ?_ | refine xt_13 ?_ | refine xt_23 ?_ | refine eq_t (by omega) ?_ | refine eq_f (by omega) ?_ | refine ne_t (by omega) ?_ | refine ne_f (by omega) ?_ | refine lt_t (by omega) ?_ | refine lt_f (by omega) ?_ | refine gt_t (by omega) ?_ | refine gt_f (by omega) ?_ | refine ge_t (by omega) ?_ | refine ge_f (by omega) ?_ | refine le_t (by omega) ?_ | refine le_f (by omega) ?_)
    exact hk _ false _ (fun h => by cases h) rfl hS

theorem linkCounts_s {v : Value} {l : List LStep} {S : HP} (hS : Sat e w (S :: R)) (hr : ∀ g, S g → rdS 11 LStep.cs v l g)
    (hk : ∀ w', Sat e w' (S :: R) → K (.bool true) w') : Cl prog 3 #[v] w K := by
  refine pacelinelaw10_LinkCounts_calls ?_
  unfold pacelinelaw10_LinkCounts
  refine lnS_rd hS 0 rfl hr ?_
  refine gt_c (fun c1 => iff_t (hk _ hS)) (fun c1 => iff_f ?_)
  refine link_New_s (by omega) (by omega) (by omega) (by omega) hS fun x w1 h1 => ?_
  repeat (first | refine gd_tt ?_ | refine gd_ff ?_ | refine gd_tf ?_ | refine gd_ft ?_ | refine gd_u ?_ | refine pk_t ?_ | refine pk_f ?_ | refine iff_t ?_ | refine iff_f ?_ | refine not_t ?_ | refine not_f ?_ | refine beq_s ?_ | refine bne_s ?_ | refine ncP_p ?_ | refine nc_p ?_ | refine fld_at ?_ | refine xt_02 ?_ | refine xt_12 ?_ | refine xt_03 ?_ | refine xt_13 ?_ | refine xt_23 ?_ | refine eq_t (by omega) ?_ | refine eq_f (by omega) ?_ | refine ne_t (by omega) ?_ | refine ne_f (by omega) ?_ | refine lt_t (by omega) ?_ | refine lt_f (by omega) ?_ | refine gt_t (by omega) ?_ | refine gt_f (by omega) ?_ | refine ge_t (by omega) ?_ | refine ge_f (by omega) ?_ | refine le_t (by omega) ?_ | refine le_f (by omega) ?_)
  refine bnp_s _ ?_
  repeat (first | refine gd_tt ?_ | refine gd_ff ?_ | refine gd_tf ?_ | refine gd_ft ?_ | refine gd_u ?_ | refine pk_t ?_ | refine pk_f ?_ | refine iff_t ?_ | refine iff_f ?_ | refine not_t ?_ | refine not_f ?_ | refine beq_s ?_ | refine bne_s ?_ | refine ncP_p ?_ | refine nc_p ?_ | refine fld_at ?_ | refine xt_02 ?_ | refine xt_12 ?_ | refine xt_03 ?_ | refine xt_13 ?_ | refine xt_23 ?_ | refine eq_t (by omega) ?_ | refine eq_f (by omega) ?_ | refine ne_t (by omega) ?_ | refine ne_f (by omega) ?_ | refine lt_t (by omega) ?_ | refine lt_f (by omega) ?_ | refine gt_t (by omega) ?_ | refine gt_f (by omega) ?_ | refine ge_t (by omega) ?_ | refine ge_f (by omega) ?_ | refine le_t (by omega) ?_ | refine le_f (by omega) ?_)
  refine bsl0 h1 Item.cs fun v1 w2 h2 => ?_
  refine lpi2 (fun q t5 t6 w => ∃ (i : Nat) (on : List Item) (Q : Nat → Nat → List Item), i ≤ l.length ∧ t6 = .int .i64 i ∧ q = l.length - i ∧ OnOk on Q i ∧
      Sat e w (ownS 33 8 Item.cs t5 on :: IsNet x 4 16 Q :: S :: R)) l.length
    ⟨0, [], fun _ _ => [], Nat.zero_le _, rfl, rfl, ⟨List.Perm.refl _, Nat.le_refl _, by simp, by simp, by simp⟩, h2⟩ ?_
  rintro q t5 _ w g1 ⟨i, on, Q, hi, rfl, rfl, hon, h3⟩ hg
  refine lnS_rd h3 2 rfl hr ?_
  refine lt_c (fun c2 => iff_t ?_) (fun c2 => iff_f ?_)
  · obtain ⟨s, hs⟩ := get_of_lt (l := l) (j := i) (by omega)
    have hlen := hon.len
    refine ixS_rd h3 2 rfl hr (fun _ => rfl) hs fun p hp => ?_
    refine ldN_of h3 2 rfl hp rfl ?_
    rw [zero_35, zero_33]
    refine al_s (cs := ints [0, 0, 0, 0, 0, 0, 0, 0, 0, 0, 0]) h3 rfl fun o w4 h4 => ?_
    refine stN_at h4 0 rfl (vs := s.cs) rfl rfl (by simp [ints]) (ints_flat _) (cs' := s.cs) (by kernel_rfl) fun w5 h5 => ?_
    repeat (first | refine gd_tt ?_ | refine gd_ff ?_ | refine gd_tf ?_ | refine gd_ft ?_ | refine gd_u ?_ | refine pk_t ?_ | refine pk_f ?_ | refine iff_t ?_ | refine iff_f ?_ | refine not_t ?_ | refine not_f ?_ | refine beq_s ?_ | refine bne_s ?_ | refine ncP_p ?_ | refine nc_p ?_ | refine fld_at ?_ | refine xt_02 ?_ | refine xt_12 ?_ | refine xt_03 ?_ | refine xt_13 ?_ | refine xt_23 ?_ | refine eq_t (by omega) ?_ | refine eq_f (by omega) ?_ | refine ne_t (by omega) ?_ | refine ne_f (by omega) ?_ | refine lt_t (by omega) ?_ | refine lt_f (by omega) ?_ | refine gt_t (by omega) ?_ | refine gt_f (by omega) ?_ | refine ge_t (by omega) ?_ | refine ge_f (by omega) ?_ | refine le_t (by omega) ?_ | refine le_f (by omega) ?_)
    obtain ⟨y, hy⟩ : ∃ y : Item, y = ⟨s.I.Kind, ⟨s.I.m.key, s.I.m.To, s.I.m.Class, i⟩, s.I.Colour⟩ := ⟨_, rfl⟩
    have hyb : y.m.Body = i := by rw [hy]
    refine stN_at h5 0 rfl (vs := ints [(i : Int)]) rfl rfl (Nat.le_of_ble_eq_true rfl) (ints_flat _) (cs' := .int .i64 s.Kind :: .int .i64 s.A :: .int .i64 s.B :: y.cs) (by rw [hy]; rfl) fun w6 h6 => ?_
    clear h1 h2 h4 h5
    repeat (first | refine gd_tt ?_ | refine gd_ff ?_ | refine gd_tf ?_ | refine gd_ft ?_ | refine gd_u ?_ | refine pk_t ?_ | refine pk_f ?_ | refine iff_t ?_ | refine iff_f ?_ | refine not_t ?_ | refine not_f ?_ | refine beq_s ?_ | refine bne_s ?_ | refine ncP_p ?_ | refine nc_p ?_ | refine fld_at ?_ | refine xt_02 ?_ | refine xt_12 ?_ | refine xt_03 ?_ | refine xt_13 ?_ | refine xt_23 ?_ | refine eq_t (by omega) ?_ | refine eq_f (by omega) ?_ | refine ne_t (by omega) ?_ | refine ne_f (by omega) ?_ | refine lt_t (by omega) ?_ | refine lt_f (by omega) ?_ | refine gt_t (by omega) ?_ | refine gt_f (by omega) ?_ | refine ge_t (by omega) ?_ | refine ge_f (by omega) ?_ | refine le_t (by omega) ?_ | refine le_f (by omega) ?_)
    refine ld1_at h6 0 rfl (v := .int .i64 s.Kind) rfl ?_
    refine trySend_s (h6.selR [_, _, _] [_, _, _] [2, 0, 1] (by decide) rfl) fun w7 b Q1 hb hQ1 h7 => ?_
    clear h6 h3
    refine J1.cut (fun t5 w => ∃ (on : List Item) (Q : Nat → Nat → List Item), OnOk on Q (i + 1) ∧ Sat e w (blk o 35 (.int .i64 s.Kind :: .int .i64 s.A :: .int .i64 s.B :: y.cs) :: ownS 33 8 Item.cs t5 on :: IsNet x 4 16 Q :: S :: R)) (fun k2 hcut => ?_) (fun t5 w hA => ?_)
    · cases b with
      | true =>
        refine iff_t ?_
        rw [if_pos rfl] at hQ1
        subst hQ1
        repeat (first | refine gd_tt ?_ | refine gd_ff ?_ | refine gd_tf ?_ | refine gd_ft ?_ | refine gd_u ?_ | refine pk_t ?_ | refine pk_f ?_ | refine iff_t ?_ | refine iff_f ?_ | refine not_t ?_ | refine not_f ?_ | refine beq_s ?_ | refine bne_s ?_ | refine ncP_p ?_ | refine nc_p ?_ | refine fld_at ?_ | refine xt_02 ?_ | refine xt_12 ?_ | refine xt_03 ?_ | refine xt_13 ?_ | refine xt_23 ?_ | refine eq_t (by omega) ?_ | refine eq_f (by omega) ?_ | refine ne_t (by omega) ?_ | refine ne_f (by omega) ?_ | refine lt_t (by omega) ?_ | refine lt_f (by omega) ?_ | refine gt_t (by omega) ?_ | refine gt_f (by omega) ?_ | refine ge_t (by omega) ?_ | refine ge_f (by omega) ?_ | refine le_t (by omega) ?_ | refine le_f (by omega) ?_)
        refine ldN_at h7 1 (vs := y.cs) rfl (by rfl) rfl ?_
        refine push1 te_27 (f := Item.cs) (fun _ => rfl) (fun _ => ints_flat _) (h7.pick 2 rfl) (x := y) rfl (by omega) fun v' w8 h8 => ?_
        exact hcut _ _ ⟨on ++ [y], _, hon.send hyb (hb rfl), h8.selR [_, _, _] [_, _, _] [2, 0, 1] (by decide) rfl⟩
      | false =>
        rw [if_neg (by decide)] at hQ1
        subst hQ1
        exact iff_f (hcut _ _ ⟨on, _, hon.up, h7.selR [_, _, _] [_, _, _] [1, 2, 0] (by decide) rfl⟩)
    · clear h7 hb hQ1 hon hlen
      obtain ⟨on, Q, hon, h7⟩ := hA
      have hlen := hon.len
      repeat (first | refine gd_tt ?_ | refine gd_ff ?_ | refine gd_tf ?_ | refine gd_ft ?_ | refine gd_u ?_ | refine pk_t ?_ | refine pk_f ?_ | refine iff_t ?_ | refine iff_f ?_ | refine not_t ?_ | refine not_f ?_ | refine beq_s ?_ | refine bne_s ?_ | refine ncP_p ?_ | refine nc_p ?_ | refine fld_at ?_ | refine xt_02 ?_ | refine xt_12 ?_ | refine xt_03 ?_ | refine xt_13 ?_ | refine xt_23 ?_ | refine eq_t (by omega) ?_ | refine eq_f (by omega) ?_ | refine ne_t (by omega) ?_ | refine ne_f (by omega) ?_ | refine lt_t (by omega) ?_ | refine lt_f (by omega) ?_ | refine gt_t (by omega) ?_ | refine gt_f (by omega) ?_ | refine ge_t (by omega) ?_ | refine ge_f (by omega) ?_ | refine le_t (by omega) ?_ | refine le_f (by omega) ?_)
      refine ld1_at h7 0 rfl (v := .int .i64 s.Kind) rfl ?_
      refine eq_d ?_
      refine J1.cut (fun t5 w => ∃ (on : List Item) (Q : Nat → Nat → List Item), OnOk on Q (i + 1) ∧ Sat e w (ownS 33 8 Item.cs t5 on :: IsNet x 4 16 Q :: S :: R)) (fun k3 hcut => ?_) (fun t5 w hA => ?_)
      · refine iff_d (fun c4 => ?_) (fun c4 => hcut _ _ ⟨on, Q, hon, h7.selR [_, _, _] [_, _] [1, 2] (by decide) rfl⟩)
        repeat (first | refine gd_tt ?_ | refine gd_ff ?_ | refine gd_tf ?_ | refine gd_ft ?_ | refine gd_u ?_ | refine pk_t ?_ | refine pk_f ?_ | refine iff_t ?_ | refine iff_f ?_ | refine not_t ?_ | refine not_f ?_ | refine beq_s ?_ | refine bne_s ?_ | refine ncP_p ?_ | refine nc_p ?_ | refine fld_at ?_ | refine xt_02 ?_ | refine xt_12 ?_ | refine xt_03 ?_ | refine xt_13 ?_ | refine xt_23 ?_ | refine eq_t (by omega) ?_ | refine eq_f (by omega) ?_ | refine ne_t (by omega) ?_ | refine ne_f (by omega) ?_ | refine lt_t (by omega) ?_ | refine lt_f (by omega) ?_ | refine gt_t (by omega) ?_ | refine gt_f (by omega) ?_ | refine ge_t (by omega) ?_ | refine ge_f (by omega) ?_ | refine le_t (by omega) ?_ | refine le_f (by omega) ?_)
        refine ld1_at h7 0 rfl (v := .int .i64 s.A) rfl ?_
        repeat (first | refine gd_tt ?_ | refine gd_ff ?_ | refine gd_tf ?_ | refine gd_ft ?_ | refine gd_u ?_ | refine pk_t ?_ | refine pk_f ?_ | refine iff_t ?_ | refine iff_f ?_ | refine not_t ?_ | refine not_f ?_ | refine beq_s ?_ | refine bne_s ?_ | refine ncP_p ?_ | refine nc_p ?_ | refine fld_at ?_ | refine xt_02 ?_ | refine xt_12 ?_ | refine xt_03 ?_ | refine xt_13 ?_ | refine xt_23 ?_ | refine eq_t (by omega) ?_ | refine eq_f (by omega) ?_ | refine ne_t (by omega) ?_ | refine ne_f (by omega) ?_ | refine lt_t (by omega) ?_ | refine lt_f (by omega) ?_ | refine gt_t (by omega) ?_ | refine gt_f (by omega) ?_ | refine ge_t (by omega) ?_ | refine ge_f (by omega) ?_ | refine le_t (by omega) ?_ | refine le_f (by omega) ?_)
        refine ld1_at h7 0 rfl (v := .int .i64 s.B) rfl ?_
        refine link_Recv_a (h7.pick 2 rfl) fun w8 h8 => ?_
        repeat (first | refine gd_tt ?_ | refine gd_ff ?_ | refine gd_tf ?_ | refine gd_ft ?_ | refine gd_u ?_ | refine pk_t ?_ | refine pk_f ?_ | refine iff_t ?_ | refine iff_f ?_ | refine not_t ?_ | refine not_f ?_ | refine beq_s ?_ | refine bne_s ?_ | refine ncP_p ?_ | refine nc_p ?_ | refine fld_at ?_ | refine xt_02 ?_ | refine xt_12 ?_ | refine xt_03 ?_ | refine xt_13 ?_ | refine xt_23 ?_ | refine eq_t (by omega) ?_ | refine eq_f (by omega) ?_ | refine ne_t (by omega) ?_ | refine ne_f (by omega) ?_ | refine lt_t (by omega) ?_ | refine lt_f (by omega) ?_ | refine gt_t (by omega) ?_ | refine gt_f (by omega) ?_ | refine ge_t (by omega) ?_ | refine ge_f (by omega) ?_ | refine le_t (by omega) ?_ | refine le_f (by omega) ?_)
        refine al_s (cs := Item.zero.cs) h8 rfl fun u w9 h9 => ?_
        refine stN_at h9 0 rfl (vs := (recvV 4 Q s.A s.B).cs) rfl rfl (by decide) (ints_flat _) (cs' := (recvV 4 Q s.A s.B).cs) (by rfl) fun w10 h10 => ?_
        refine bsl0 h10 Item.cs fun v2 w11 h11 => ?_
        clear h7 h8 h9 h10
        generalize hB : recvB 4 Q s.A s.B = is at h11 ⊢
        generalize hy2 : recvV 4 Q s.A s.B = y2 at h11 ⊢
        refine lpi2 (fun q t10 t11 w => ∃ j : Nat, j ≤ on.length ∧ t11 = .int .i64 j ∧ q = on.length - j ∧
          Sat e w (ownS 33 8 Item.cs t10 ((on.take j).filter fun z => !is || decide (z ≠ y2)) :: blk u 33 y2.cs :: ownS 33 8 Item.cs t5 on :: IsNet x 4 16 (recvQ 4 Q s.A s.B) :: S :: R)) on.length
          ⟨0, Nat.zero_le _, rfl, rfl, h11.selR [_, _, _, _, _] [_, _, _, _] [0, 1, 4, 2] (by decide) rfl⟩ ?_
        rintro q t10 _ w g7 ⟨j, hj, rfl, rfl, h12⟩ hg7
        refine lnS_rd h12 2 rfl (fun g hg => own_rd hg) ?_
        refine lt_c (fun c5 => iff_t ?_) (fun c5 => iff_f ?_)
        · obtain ⟨z, hz⟩ := get_of_lt (l := on) (j := j) (by omega)
          have hfl : ((on.take j).filter fun z => !is || decide (z ≠ y2)).length ≤ on.length := Nat.le_trans (List.length_filter_le _ _) (by rw [List.length_take]; omega)
          refine J1.cut (fun t10 w => Sat e w (ownS 33 8 Item.cs t10 ((on.take (j + 1)).filter fun z => !is || decide (z ≠ y2)) :: blk u 33 y2.cs :: ownS 33 8 Item.cs t5 on :: IsNet x 4 16 (recvQ 4 Q s.A s.B) :: S :: R)) (fun k8 hcut8 => ?_) (fun t10 w h13 => ?_)
          · rw [take_snoc hz, List.filter_append] at hcut8
            refine dr_s h12 fun w13 h13 => ?_
            refine not_d ?_
            have hpush : ∀ (h : (!is || decide (z ≠ y2)) = true), ixS 8 t5 (.int .i64 j) w13 fun t95 w =>
              ldN 8 t95 w fun t96 w => bsl 33 8 1 (zeroD prog 33) [(0, t96)] w fun t97 w => apS prog #[27, 27] 27 t10 t97 w fun t98 w => k8 t98 w := by
              intro h
              refine ixS_rd h13 2 rfl (fun g hg => own_rd hg) (fun _ => rfl) hz fun p hp => ?_
              refine ldN_of h13 2 rfl hp rfl ?_
              refine push1 te_27 (f := Item.cs) (fun _ => rfl) (fun _ => ints_flat _) h13 (x := z) rfl (by omega) fun v' w14 h14 => ?_
              rw [List.filter_cons_of_pos (by exact h), List.filter_nil] at hcut8
              exact hcut8 _ _ h14
            rw [zero_33] at hpush
            cases is with
            | false =>
              repeat (first | refine gd_tt ?_ | refine gd_ff ?_ | refine gd_tf ?_ | refine gd_ft ?_ | refine gd_u ?_ | refine pk_t ?_ | refine pk_f ?_ | refine iff_t ?_ | refine iff_f ?_ | refine not_t ?_ | refine not_f ?_ | refine beq_s ?_ | refine bne_s ?_ | refine ncP_p ?_ | refine nc_p ?_ | refine fld_at ?_ | refine xt_02 ?_ | refine xt_12 ?_ | refine xt_03 ?_ | refine xt_13 ?_ | refine xt_23 ?_ | refine eq_t (by omega) ?_ | refine eq_f (by omega) ?_ | refine ne_t (by omega) ?_ | refine ne_f (by omega) ?_ | refine lt_t (by omega) ?_ | refine lt_f (by omega) ?_ | refine gt_t (by omega) ?_ | refine gt_f (by omega) ?_ | refine ge_t (by omega) ?_ | refine ge_f (by omega) ?_ | refine le_t (by omega) ?_ | refine le_f (by omega) ?_)
              exact hpush rfl
            | true =>
              refine gd_ff (gd_ff (gd_ff (ixS_rd h13 2 rfl (fun g hg => own_rd hg) (fun _ => rfl) hz fun p hp => ?_)))
              refine gd_ff (ldN_of h13 2 rfl hp rfl ?_)
              refine gd_ff (ldN_at h13 1 (vs := y2.cs) rfl (by rfl) rfl ?_)
              refine gd_ff (bO_ne (ns := z.ns) (ms := y2.ns) eqT_33 agg_33 egt_33 (by decide) rfl ?_)
              rw [Item.eq_ns]
              refine pk_f ?_
              by_cases hzy : z = y2
              · rw [decide_eq_true hzy]
                refine iff_f (hcut8 _ _ ?_)
                rw [List.filter_cons_of_neg (by simp [hzy]), List.filter_nil, List.append_nil]
                exact h13
              · rw [decide_eq_false hzy]
                exact iff_t (hpush (by simp [hzy]))
          · refine inc_s (by omega) ?_
            exact hg7 _ _ _ _ (by omega) ⟨j + 1, by omega, rfl, rfl, h13⟩
        · have ej : j = on.length := by omega
          subst ej
          rw [List.take_length] at h12
          cases is with
          | false =>
            repeat (first | refine gd_tt ?_ | refine gd_ff ?_ | refine gd_tf ?_ | refine gd_ft ?_ | refine gd_u ?_ | refine pk_t ?_ | refine pk_f ?_ | refine iff_t ?_ | refine iff_f ?_ | refine not_t ?_ | refine not_f ?_ | refine beq_s ?_ | refine bne_s ?_ | refine ncP_p ?_ | refine nc_p ?_ | refine fld_at ?_ | refine xt_02 ?_ | refine xt_12 ?_ | refine xt_03 ?_ | refine xt_13 ?_ | refine xt_23 ?_ | refine eq_t (by omega) ?_ | refine eq_f (by omega) ?_ | refine ne_t (by omega) ?_ | refine ne_f (by omega) ?_ | refine lt_t (by omega) ?_ | refine lt_f (by omega) ?_ | refine gt_t (by omega) ?_ | refine gt_f (by omega) ?_ | refine ge_t (by omega) ?_ | refine ge_f (by omega) ?_ | refine le_t (by omega) ?_ | refine le_f (by omega) ?_)
            refine hcut _ _ ⟨on, Q, hon, ?_⟩
            have ef : (on.filter fun z => !false || decide (z ≠ y2)) = on := List.filter_eq_self.2 fun _ _ => rfl
            rw [recvQ_bad hB, ef] at h12
            exact h12.selR [_, _, _, _] [_, _] [0, 3] (by decide) rfl
          | true =>
            obtain ⟨k1, k2⟩ := hon.recv hB
            rw [hy2] at k1 k2
            have ef : (on.filter fun z => !true || decide (z ≠ y2)) = on.filter fun z => decide (z ≠ y2) := by simp
            rw [ef] at h12
            refine gd_tt (gd_tt (lnS_rd h12 0 rfl (fun g hg => own_rd hg) ?_))
            refine gd_tt (gd_tt (lnS_rd h12 2 rfl (fun g hg => own_rd hg) ?_))
            refine gd_tt (sub_s (by omega) (by omega) ?_)
            refine gd_tt (ne_f (by omega) ?_)
            repeat (first | refine gd_tt ?_ | refine gd_ff ?_ | refine gd_tf ?_ | refine gd_ft ?_ | refine gd_u ?_ | refine pk_t ?_ | refine pk_f ?_ | refine iff_t ?_ | refine iff_f ?_ | refine not_t ?_ | refine not_f ?_ | refine beq_s ?_ | refine bne_s ?_ | refine ncP_p ?_ | refine nc_p ?_ | refine fld_at ?_ | refine xt_02 ?_ | refine xt_12 ?_ | refine xt_03 ?_ | refine xt_13 ?_ | refine xt_23 ?_ | refine eq_t (by omega) ?_ | refine eq_f (by omega) ?_ | refine ne_t (by omega) ?_ | refine ne_f (by omega) ?_ | refine lt_t (by omega) ?_ | refine lt_f (by omega) ?_ | refine gt_t (by omega) ?_ | refine gt_f (by omega) ?_ | refine ge_t (by omega) ?_ | refine ge_f (by omega) ?_ | refine le_t (by omega) ?_ | refine le_f (by omega) ?_)
            exact hcut _ _ ⟨_, _, k2, h12.selR [_, _, _, _] [_, _] [0, 3] (by decide) rfl⟩
      · clear h7 hon hlen
        obtain ⟨on, Q, hon, h7⟩ := hA
        have hlen := hon.len
        refine lpi4 (fun q t12 t13 t14 t15 w => ∃ j : Nat, j ≤ on.length ∧ t15 = .int .i64 j ∧ t12 = .int .i64 (cntC 0 (on.take j)) ∧ t13 = .int .i64 (cntM (on.take j)) ∧ t14 = .int .i64 (leastL (on.take j)) ∧ q = on.length - j ∧
          Sat e w (ownS 33 8 Item.cs t5 on :: IsNet x 4 16 Q :: S :: R)) on.length ⟨0, Nat.zero_le _, rfl, rfl, rfl, rfl, rfl, h7⟩ ?_
        rintro q _ _ _ _ w g4 ⟨j, hj, rfl, rfl, rfl, rfl, rfl, h8⟩ hg4
        refine lnS_rd h8 0 rfl (fun g hg => own_rd hg) ?_
        refine lt_c (fun c5 => iff_t ?_) (fun c5 => iff_f ?_)
        · obtain ⟨z, hz⟩ := get_of_lt (l := on) (j := j) (by omega)
          have hb1 := cntC_le 0 (on.take j)
          have hb2 := cntM_le (on.take j)
          rw [List.length_take] at hb1 hb2
          refine J3.cut (fun t12 t13 t14 w => t12 = .int .i64 (cntC 0 (on.take (j + 1))) ∧ t13 = .int .i64 (cntM (on.take (j + 1))) ∧ t14 = .int .i64 (leastL (on.take (j + 1))) ∧ Sat e w (ownS 33 8 Item.cs t5 on :: IsNet x 4 16 Q :: S :: R)) (fun k5 hcut => ?_) ?_
          · rw [take_snoc hz, cntC_snoc, cntM_snoc, leastL_snoc] at hcut
            refine ixS_rd h8 0 rfl (fun g hg => own_rd hg) (fun _ => rfl) hz fun p hp => ?_
            refine fld_of hp fun p1 hp1 => ?_
            refine ld1_of h8 0 rfl hp1 (v := .int .i64 z.Kind) rfl ?_
            refine ne_c (fun c6 => iff_t ?_) (fun c6 => iff_f ?_)
            · refine ixS_rd h8 0 rfl (fun g hg => own_rd hg) (fun _ => rfl) hz fun p hp => ?_
              refine fld_of hp fun p1 hp1 => ?_
              refine ld1_of h8 0 rfl hp1 (v := .int .i64 z.Colour) rfl ?_
              refine eq_d ?_
              refine J2.cut (fun t12 t13 w => t12 = .int .i64 ((cntC 0 (on.take j) + if z.Kind ≠ 2 ∧ z.Colour = 0 then 1 else 0 : Nat)) ∧ t13 = .int .i64 ((cntM (on.take j) + if z.Kind ≠ 2 ∧ ¬ z.Colour = 0 then 1 else 0 : Nat)) ∧ Sat e w (ownS 33 8 Item.cs t5 on :: IsNet x 4 16 Q :: S :: R)) (fun k6 hcut6 => ?_) ?_
              · refine iff_d (fun c7 => ?_) (fun c7 => ?_)
                · refine inc_s (by omega) ?_
                  refine hcut6 _ _ _ ⟨?_, ?_, h8⟩
                  · rw [if_pos ⟨c6, c7⟩]
                  · rw [if_neg fun h => h.2 c7]; rfl
                · refine inc_s (by omega) ?_
                  refine hcut6 _ _ _ ⟨?_, ?_, h8⟩
                  · rw [if_neg fun h => c7 h.2]; rfl
                  · rw [if_pos ⟨c6, c7⟩]
              · rintro _ _ w ⟨rfl, rfl, h9⟩
                refine ixS_rd h9 0 rfl (fun g hg => own_rd hg) (fun _ => rfl) hz fun p hp => ?_
                refine fld_of hp fun p1 hp1 => ?_
                refine fld_of hp1 fun p2 hp2 => ?_
                refine fld_of hp2 fun p3 hp3 => ?_
                refine ld1_of h9 0 rfl hp3 (v := .int .i64 z.m.key.T) rfl ?_
                refine max_s (min_s ?_)
                exact hcut _ _ _ _ ⟨rfl, rfl, by rw [if_pos c6], h9⟩
            · refine hcut _ _ _ _ ⟨?_, ?_, ?_, h8⟩
              · rw [if_neg fun h => h.1 c6]; rfl
              · rw [if_neg fun h => h.1 c6]; rfl
              · rw [if_neg fun h => h c6]
          · rintro _ _ _ w ⟨rfl, rfl, rfl, h9⟩
            refine inc_s (by omega) ?_
            exact hg4 _ _ _ _ _ _ (by omega) ⟨j + 1, by omega, rfl, rfl, rfl, rfl, rfl, h9⟩
        · have ej : j = on.length := by omega
          subst ej
          rw [List.take_length]
          have p0 : cntC 0 on = cntC 0 (allQ 4 Q) := hon.perm.countP_eq _
          have p1 : cntM on = cntC 1 (allQ 4 Q) := (cntM_one hon.col).trans (hon.perm.countP_eq _)
          have p2 : leastT (timesC (allQ 4 Q)) = leastT (timesC on) := leastT_perm ((hon.perm.symm.filter _).map _)
          have p3 := hon.perm.length_eq
          refine link_Carried_s (n := 4) (h8.pick 1 rfl) fun w9 h9 => ?_
          rw [← p0]
          repeat (first | refine gd_tt ?_ | refine gd_ff ?_ | refine gd_tf ?_ | refine gd_ft ?_ | refine gd_u ?_ | refine pk_t ?_ | refine pk_f ?_ | refine iff_t ?_ | refine iff_f ?_ | refine not_t ?_ | refine not_f ?_ | refine beq_s ?_ | refine bne_s ?_ | refine ncP_p ?_ | refine nc_p ?_ | refine fld_at ?_ | refine xt_02 ?_ | refine xt_12 ?_ | refine xt_03 ?_ | refine xt_13 ?_ | refine xt_23 ?_ | refine eq_t (by omega) ?_ | refine eq_f (by omega) ?_ | refine ne_t (by omega) ?_ | refine ne_f (by omega) ?_ | refine lt_t (by omega) ?_ | refine lt_f (by omega) ?_ | refine gt_t (by omega) ?_ | refine gt_f (by omega) ?_ | refine ge_t (by omega) ?_ | refine ge_f (by omega) ?_ | refine le_t (by omega) ?_ | refine le_f (by omega) ?_)
          refine link_Carried_s (n := 4) h9 fun w10 h10 => ?_
          rw [← p1]
          repeat (first | refine gd_tt ?_ | refine gd_ff ?_ | refine gd_tf ?_ | refine gd_ft ?_ | refine gd_u ?_ | refine pk_t ?_ | refine pk_f ?_ | refine iff_t ?_ | refine iff_f ?_ | refine not_t ?_ | refine not_f ?_ | refine beq_s ?_ | refine bne_s ?_ | refine ncP_p ?_ | refine nc_p ?_ | refine fld_at ?_ | refine xt_02 ?_ | refine xt_12 ?_ | refine xt_03 ?_ | refine xt_13 ?_ | refine xt_23 ?_ | refine eq_t (by omega) ?_ | refine eq_f (by omega) ?_ | refine ne_t (by omega) ?_ | refine ne_f (by omega) ?_ | refine lt_t (by omega) ?_ | refine lt_f (by omega) ?_ | refine gt_t (by omega) ?_ | refine gt_f (by omega) ?_ | refine ge_t (by omega) ?_ | refine ge_f (by omega) ?_ | refine le_t (by omega) ?_ | refine le_f (by omega) ?_)
          refine link_All_s (n := 4) h10 fun w11 h11 => ?_
          rw [← p3]
          repeat (first | refine gd_tt ?_ | refine gd_ff ?_ | refine gd_tf ?_ | refine gd_ft ?_ | refine gd_u ?_ | refine pk_t ?_ | refine pk_f ?_ | refine iff_t ?_ | refine iff_f ?_ | refine not_t ?_ | refine not_f ?_ | refine beq_s ?_ | refine bne_s ?_ | refine ncP_p ?_ | refine nc_p ?_ | refine fld_at ?_ | refine xt_02 ?_ | refine xt_12 ?_ | refine xt_03 ?_ | refine xt_13 ?_ | refine xt_23 ?_ | refine eq_t (by omega) ?_ | refine eq_f (by omega) ?_ | refine ne_t (by omega) ?_ | refine ne_f (by omega) ?_ | refine lt_t (by omega) ?_ | refine lt_f (by omega) ?_ | refine gt_t (by omega) ?_ | refine gt_f (by omega) ?_ | refine ge_t (by omega) ?_ | refine ge_f (by omega) ?_ | refine le_t (by omega) ?_ | refine le_f (by omega) ?_)
          refine lnS_rd h11 1 rfl (fun g hg => own_rd hg) ?_
          repeat (first | refine gd_tt ?_ | refine gd_ff ?_ | refine gd_tf ?_ | refine gd_ft ?_ | refine gd_u ?_ | refine pk_t ?_ | refine pk_f ?_ | refine iff_t ?_ | refine iff_f ?_ | refine not_t ?_ | refine not_f ?_ | refine beq_s ?_ | refine bne_s ?_ | refine ncP_p ?_ | refine nc_p ?_ | refine fld_at ?_ | refine xt_02 ?_ | refine xt_12 ?_ | refine xt_03 ?_ | refine xt_13 ?_ | refine xt_23 ?_ | refine eq_t (by omega) ?_ | refine eq_f (by omega) ?_ | refine ne_t (by omega) ?_ | refine ne_f (by omega) ?_ | refine lt_t (by omega) ?_ | refine lt_f (by omega) ?_ | refine gt_t (by omega) ?_ | refine gt_f (by omega) ?_ | refine ge_t (by omega) ?_ | refine ge_f (by omega) ?_ | refine le_t (by omega) ?_ | refine le_f (by omega) ?_)
          refine link_Least_s (n := 4) h11 fun w12 h12 => ?_
          rw [p2, leastL_t]
          have hfin : g1 [t5, .int .i64 ((i + 1 : Nat) : Int)] w12 := hg _ _ _ _ (by omega) ⟨i + 1, on, Q, by omega, rfl, rfl, hon, h12.selR [_, _] [_, _] [1, 0] (by decide) rfl⟩
          by_cases c6 : leastL on ≤ 1099511627776
          · rw [if_pos c6]
            repeat (first | refine gd_tt ?_ | refine gd_ff ?_ | refine gd_tf ?_ | refine gd_ft ?_ | refine gd_u ?_ | refine pk_t ?_ | refine pk_f ?_ | refine iff_t ?_ | refine iff_f ?_ | refine not_t ?_ | refine not_f ?_ | refine beq_s ?_ | refine bne_s ?_ | refine ncP_p ?_ | refine nc_p ?_ | refine fld_at ?_ | refine xt_02 ?_ | refine xt_12 ?_ | refine xt_03 ?_ | refine xt_13 ?_ | refine xt_23 ?_ | refine eq_t (by omega) ?_ | refine eq_f (by omega) ?_ | refine ne_t (by omega) ?_ | refine ne_f (by omega) ?_ | refine lt_t (by omega) ?_ | refine lt_f (by omega) ?_ | refine gt_t (by omega) ?_ | refine gt_f (by omega) ?_ | refine ge_t (by omega) ?_ | refine ge_f (by omega) ?_ | refine le_t (by omega) ?_ | refine le_f (by omega) ?_)
            exact inc_s (by omega) hfin
          · rw [if_neg c6]
            refine gd_ff (gd_ff (ne_c (fun c7 => ?_) (fun c7 => ?_)))
            · repeat (first | refine gd_tt ?_ | refine gd_ff ?_ | refine gd_tf ?_ | refine gd_ft ?_ | refine gd_u ?_ | refine pk_t ?_ | refine pk_f ?_ | refine iff_t ?_ | refine iff_f ?_ | refine not_t ?_ | refine not_f ?_ | refine beq_s ?_ | refine bne_s ?_ | refine ncP_p ?_ | refine nc_p ?_ | refine fld_at ?_ | refine xt_02 ?_ | refine xt_12 ?_ | refine xt_03 ?_ | refine xt_13 ?_ | refine xt_23 ?_ | refine eq_t (by omega) ?_ | refine eq_f (by omega) ?_ | refine ne_t (by omega) ?_ | refine ne_f (by omega) ?_ | refine lt_t (by omega) ?_ | refine lt_f (by omega) ?_ | refine gt_t (by omega) ?_ | refine gt_f (by omega) ?_ | refine ge_t (by omega) ?_ | refine ge_f (by omega) ?_ | refine le_t (by omega) ?_ | refine le_f (by omega) ?_)
              exact inc_s (by omega) hfin
            · repeat (first | refine gd_tt ?_ | refine gd_ff ?_ | refine gd_tf ?_ | refine gd_ft ?_ | refine gd_u ?_ | refine pk_t ?_ | refine pk_f ?_ | refine iff_t ?_ | refine iff_f ?_ | refine not_t ?_ | refine not_f ?_ | refine beq_s ?_ | refine bne_s ?_ | refine ncP_p ?_ | refine nc_p ?_ | refine fld_at ?_ | refine xt_02 ?_ | refine xt_12 ?_ | refine xt_03 ?_ | refine xt_13 ?_ | refine xt_23 ?_ | refine eq_t (by omega) ?_ | refine eq_f (by omega) ?_ | refine ne_t (by omega) ?_ | refine ne_f (by omega) ?_ | refine lt_t (by omega) ?_ | refine lt_f (by omega) ?_ | refine gt_t (by omega) ?_ | refine gt_f (by omega) ?_ | refine ge_t (by omega) ?_ | refine ge_f (by omega) ?_ | refine le_t (by omega) ?_ | refine le_f (by omega) ?_)
              exact inc_s (by omega) hfin
  · repeat (first | refine gd_tt ?_ | refine gd_ff ?_ | refine gd_tf ?_ | refine gd_ft ?_ | refine gd_u ?_ | refine pk_t ?_ | refine pk_f ?_ | refine iff_t ?_ | refine iff_f ?_ | refine not_t ?_ | refine not_f ?_ | refine beq_s ?_ | refine bne_s ?_ | refine ncP_p ?_ | refine nc_p ?_ | refine fld_at ?_ | refine xt_02 ?_ | refine xt_12 ?_ | refine xt_03 ?_ | refine xt_13 ?_ | refine xt_23 ?_ | refine eq_t (by omega) ?_ | refine eq_f (by omega) ?_ | refine ne_t (by omega) ?_ | refine ne_f (by omega) ?_ | refine lt_t (by omega) ?_ | refine lt_f (by omega) ?_ | refine gt_t (by omega) ?_ | refine gt_f (by omega) ?_ | refine ge_t (by omega) ?_ | refine ge_f (by omega) ?_ | refine le_t (by omega) ?_ | refine le_f (by omega) ?_)
    rw [zero_33]
    refine bld_s Item.zero.cs (by kernel_rfl) ?_
    refine link_Send_a (h3.pick 1 rfl) fun w6 h6 => ?_
    rw [show sendE 4 16 Q 0 0 Item.zero = 1 from if_pos (.inl (by decide))]
    repeat (first | refine gd_tt ?_ | refine gd_ff ?_ | refine gd_tf ?_ | refine gd_ft ?_ | refine gd_u ?_ | refine pk_t ?_ | refine pk_f ?_ | refine iff_t ?_ | refine iff_f ?_ | refine not_t ?_ | refine not_f ?_ | refine beq_s ?_ | refine bne_s ?_ | refine ncP_p ?_ | refine nc_p ?_ | refine fld_at ?_ | refine xt_02 ?_ | refine xt_12 ?_ | refine xt_03 ?_ | refine xt_13 ?_ | refine xt_23 ?_ | refine eq_t (by omega) ?_ | refine eq_f (by omega) ?_ | refine ne_t (by omega) ?_ | refine ne_f (by omega) ?_ | refine lt_t (by omega) ?_ | refine lt_f (by omega) ?_ | refine gt_t (by omega) ?_ | refine gt_f (by omega) ?_ | refine ge_t (by omega) ?_ | refine ge_f (by omega) ?_ | refine le_t (by omega) ?_ | refine le_f (by omega) ?_)
    exact hk _ h6.drop.drop
end Go.Proofs.Ytcocbmbadigjbaa
