/- The laws LinkApart and LinkOrder. Conditions: none. -/
import Derived.Test.YtiiekfcfledkhaaLinkB
namespace Go.Proofs.Ytiiekfcfledkhaa
open Go Go.E
set_option maxRecDepth 100000
variable {e w : World} {R : List HP} {K : KV}

instance (n a b : Int) (x : Item) : Decidable (sendBad n a b x) := inferInstanceAs (Decidable (_ ∨ _))
def sendE (n room : Int) (Q : Nat → Nat → List Item) (a b : Int) (x : Item) : Int := if sendBad n a b x then 1 else if ((Q a.toNat b.toNat).length : Int) = room then 2 else 0
def sendQ (n room : Int) (Q : Nat → Nat → List Item) (a b : Int) (x : Item) : Nat → Nat → List Item := if sendE n room Q a b x = 0 then updQ Q a.toNat b.toNat (Q a.toNat b.toNat ++ [x]) else Q
theorem link_Send_a {g : Nat} {n room : Int} {Q : Nat → Nat → List Item} {a b : Int} {x : Item} (hS : Sat e w (IsNet g n room Q :: R)) (hk : ∀ w', Sat e w' (IsNet g n room (sendQ n room Q a b x) :: R) → K (.int .i64 (sendE n room Q a b x)) w') :
    Cl prog 25 #[.pointer (some ⟨g, 0, none⟩), .int .i64 a, .int .i64 b, .agg x.cs.toArray] w K := by
  unfold sendQ at hk
  by_cases hb : sendBad n a b x
  · have e1 : sendE n room Q a b x = 1 := if_pos hb
    rw [e1, if_neg (by decide)] at hk
    exact link_Send_bad hb hS hk
  · have ho : okL n a b := by by_cases h : okL n a b; exact h; exact absurd (Or.inl h) hb
    have h0 := ho.1
    have h1 := ho.2.1
    rw [← Int.toNat_of_nonneg h0, ← Int.toNat_of_nonneg h1] at hb ⊢
    refine link_Send_s hb hS (fun hl w' h' => ?_) (fun hl w' h' => ?_)
    · have e1 : sendE n room Q a b x = 2 := by
        rw [Int.toNat_of_nonneg h0, Int.toNat_of_nonneg h1] at hb
        unfold sendE
        rw [if_neg hb, if_pos hl]
      rw [e1, if_neg (by decide)] at hk
      exact hk _ h'
    · have e1 : sendE n room Q a b x = 0 := by
        rw [Int.toNat_of_nonneg h0, Int.toNat_of_nonneg h1] at hb
        unfold sendE
        rw [if_neg hb, if_neg (by omega)]
      rw [e1, if_pos rfl] at hk
      exact hk _ h'
theorem sendE_ok {n room : Int} {Q : Nat → Nat → List Item} {a b : Int} {x : Item} (h : sendE n room Q a b x = 0) : okL n a b := by
  unfold sendE at h
  by_cases hb : sendBad n a b x
  · rw [if_pos hb] at h; cases h
  · by_cases ho : okL n a b
    · exact ho
    · exact absurd (Or.inl ho) hb
theorem sendQ_apart {n room : Int} {Q : Nat → Nat → List Item} {a b : Int} {x : Item} {c d : Nat} (h : ¬ (a = c ∧ b = d)) : sendQ n room Q a b x c d = Q c d := by
  unfold sendQ
  split
  · rename_i h0
    obtain ⟨o1, o2, _⟩ := sendE_ok h0
    unfold updQ
    rw [if_neg (by omega)]
  · rfl
theorem sendQ_bad {n room : Int} {Q : Nat → Nat → List Item} {a b : Int} {x : Item} (h : sendE n room Q a b x ≠ 0) : sendQ n room Q a b x = Q := if_neg h
theorem sendQ_at {n room : Int} {Q : Nat → Nat → List Item} {c d : Nat} {x : Item} (h : sendE n room Q c d x = 0) : sendQ n room Q c d x c d = Q c d ++ [x] := by
  unfold sendQ
  rw [if_pos h]
  unfold updQ
  rw [if_pos (by simp), Int.toNat_natCast, Int.toNat_natCast]
theorem sendE_same {n room : Int} {P Q : Nat → Nat → List Item} {c d : Nat} {x : Item} (h : P c d = Q c d) : sendE n room P c d x = sendE n room Q c d x := by
  unfold sendE
  rw [Int.toNat_natCast, Int.toNat_natCast, h]
theorem sendQ_same {n room : Int} {P Q : Nat → Nat → List Item} {c d : Nat} {x : Item} (h : P c d = Q c d) : sendQ n room P c d x c d = sendQ n room Q c d x c d := by
  by_cases h0 : sendE n room P c d x = 0
  · rw [sendQ_at h0, sendQ_at ((sendE_same h).symm.trans h0), h]
  · rw [sendQ_bad h0, sendQ_bad (fun k => h0 ((sendE_same h).trans k)), h]

def recvB (n : Int) (Q : Nat → Nat → List Item) (a b : Int) : Bool := decide (okL n a b) && !(Q a.toNat b.toNat).isEmpty
def recvV (n : Int) (Q : Nat → Nat → List Item) (a b : Int) : Item := if recvB n Q a b = true then (Q a.toNat b.toNat).headD Item.zero else Item.zero
def recvQ (n : Int) (Q : Nat → Nat → List Item) (a b : Int) : Nat → Nat → List Item := if recvB n Q a b = true then updQ Q a.toNat b.toNat (Q a.toNat b.toNat).tail else Q
theorem link_Recv_a {g : Nat} {n room : Int} {Q : Nat → Nat → List Item} {a b : Int} (hS : Sat e w (IsNet g n room Q :: R)) (hk : ∀ w', Sat e w' (IsNet g n room (recvQ n Q a b) :: R) → K (.tuple #[.agg (recvV n Q a b).cs.toArray, .bool (recvB n Q a b)]) w') :
    Cl prog 26 #[.pointer (some ⟨g, 0, none⟩), .int .i64 a, .int .i64 b] w K := by
  by_cases ho : okL n a b
  · have h0 := ho.1
    have h1 := ho.2.1
    cases hq : Q a.toNat b.toNat with
    | nil =>
      have e1 : recvB n Q a b = false := by unfold recvB; rw [hq]; simp
      unfold recvQ recvV at hk
      rw [e1, if_neg (by decide), if_neg (by decide)] at hk
      exact link_Recv_bad (.inr hq) hS hk
    | cons x q =>
      have e1 : recvB n Q a b = true := by unfold recvB; rw [hq]; simp [ho]
      unfold recvQ recvV at hk
      rw [e1, if_pos rfl, if_pos rfl, hq] at hk
      rw [← Int.toNat_of_nonneg h0, ← Int.toNat_of_nonneg h1] at ho ⊢
      exact link_Recv_s ho hq hS hk
  · have e1 : recvB n Q a b = false := by unfold recvB; rw [decide_eq_false ho]; rfl
    unfold recvQ recvV at hk
    rw [e1, if_neg (by decide), if_neg (by decide)] at hk
    exact link_Recv_bad (.inl ho) hS hk
theorem recvQ_bad {n : Int} {Q : Nat → Nat → List Item} {a b : Int} (h : recvB n Q a b = false) : recvQ n Q a b = Q := if_neg (by rw [h]; decide)
theorem recvQ_apart {n : Int} {Q : Nat → Nat → List Item} {a b : Int} {c d : Nat} (h : ¬ (a = c ∧ b = d)) : recvQ n Q a b c d = Q c d := by
  unfold recvQ
  split
  · rename_i h0
    unfold recvB at h0
    rw [Bool.and_eq_true, decide_eq_true_eq] at h0
    obtain ⟨o1, o2, _⟩ := h0.1
    unfold updQ
    rw [if_neg (by omega)]
  · rfl
theorem recv_at {n : Int} {Q : Nat → Nat → List Item} {c d : Nat} (h : recvB n Q c d = true) : Q c d = recvV n Q c d :: recvQ n Q c d c d := by
  unfold recvV recvQ
  rw [if_pos h, if_pos h]
  unfold recvB at h
  rw [Int.toNat_natCast, Int.toNat_natCast] at h ⊢
  unfold updQ
  rw [if_pos ⟨rfl, rfl⟩]
  cases hq : Q c d with
  | nil => rw [hq] at h; simp at h
  | cons x q => rfl
theorem recv_same {n : Int} {P Q : Nat → Nat → List Item} {c d : Nat} (h : P c d = Q c d) : recvB n P c d = recvB n Q c d ∧ recvV n P c d = recvV n Q c d ∧ recvQ n P c d c d = recvQ n Q c d c d := by
  have e1 : recvB n P c d = recvB n Q c d := by unfold recvB; rw [Int.toNat_natCast, Int.toNat_natCast, h]
  refine ⟨e1, ?_, ?_⟩
  · unfold recvV
    rw [e1, Int.toNat_natCast, Int.toNat_natCast, h]
  · unfold recvQ
    rw [e1]
    split
    · unfold updQ
      rw [if_pos (by simp), if_pos (by simp), Int.toNat_natCast, Int.toNat_natCast, h]
    · exact h

structure LStep where
  Kind : Int
  A : Int
  B : Int
  I : Item
  deriving DecidableEq
def LStep.ns (s : LStep) : List Int := [s.Kind, s.A, s.B, s.I.Kind, s.I.m.key.T, s.I.m.key.From, s.I.m.key.Seq, s.I.m.To, s.I.m.Class, s.I.m.Body, s.I.Colour]
abbrev LStep.cs (s : LStep) : List Value := ints s.ns
def LStep.of (l : List Int) : LStep := ⟨l.getD 0 0, l.getD 1 0, l.getD 2 0, ⟨l.getD 3 0, ⟨⟨l.getD 4 0, l.getD 5 0, l.getD 6 0⟩, l.getD 7 0, l.getD 8 0, l.getD 9 0⟩, l.getD 10 0⟩⟩
theorem LStep.of_cs {l : List Int} (h : l.length = 11) : (LStep.of l).cs = ints l := by
  match l, h with
  | [_, _, _, _, _, _, _, _, _, _, _], _ => rfl

theorem wf8l {n : Int} (h : (Lit.int .u8 n).wf = true) : 0 ≤ n ∧ n ≤ 255 := by
  simp only [Lit.wf, IntKind.min, IntKind.max, IntKind.signed, IntKind.bits] at h
  simp at h
  omega
/-- A == f && B == t, B in a cell. -/
theorem mine_s {A f B t : Int} {b : Nat} (hld : ∀ K : KV, K (.int .i64 B) w → ld1 (.pointer (some ⟨b, 0 + 2, none⟩)) w K) (hk : K (.bool (decide (A = f) && decide (B = t))) w) :
    bi .eql .i64 (.int .i64 A) (.int .i64 f) w fun t65 w => gd t65 true (fun k => fld 2 (.pointer (some ⟨b, 0, none⟩)) w k) w fun t67 w => gd t65 true (fun k => ld1 t67 w k) w fun t68 w =>
      gd t65 true (fun k => k (.int .i64 t) w) w fun t69 w => gd t65 true (fun k => bi .eql .i64 t68 t69 w k) w fun t70 w => pk t65 t70 (.bool false) w K := by
  refine eq_c (fun c => ?_) (fun c => ?_)
  · rw [decide_eq_true c, Bool.true_and] at hk
    refine gd_tt (fld_at (gd_tt (hld _ (gd_tt (gd_tt (eq_d (pk_t ?_)))))))
    exact hk
  · rw [decide_eq_false c, Bool.false_and] at hk
    exact gd_ft (gd_ft (gd_ft (gd_ft (pk_f hk))))

theorem linkApart_s {v : Value} {l : List LStep} {S : HP} (hS : Sat e w (S :: R)) (hr : ∀ g, S g → rdS 11 LStep.cs v l g) {a b : Int} (ha : (Lit.int .u8 a).wf = true) (hb : (Lit.int .u8 b).wf = true)
    (hk : ∀ w', Sat e w' (S :: R) → K (.bool true) w') : Cl prog 6 #[v, .int .u8 a, .int .u8 b] w K := by
  have ha' := wf8l ha
  have hb' := wf8l hb
  refine pacelinelaw10_LinkApart_calls ?_
  unfold pacelinelaw10_LinkApart
  refine lnS_rd hS 0 rfl hr ?_
  refine gt_c (fun c1 => iff_t (hk _ hS)) (fun c1 => iff_f ?_)
  refine link_New_s (by omega) (by omega) (by omega) (by omega) hS fun x w1 h1 => ?_
  repeat (first | refine gd_tt ?_ | refine gd_ff ?_ | refine gd_tf ?_ | refine gd_ft ?_ | refine gd_u ?_ | refine pk_t ?_ | refine pk_f ?_ | refine iff_t ?_ | refine iff_f ?_ | refine not_t ?_ | refine not_f ?_ | refine beq_s ?_ | refine bne_s ?_ | refine ncP_p ?_ | refine nc_p ?_ | refine fld_at ?_ | refine xt_02 ?_ | refine xt_12 ?_ | refine xt_03 ?_ | refine xt_13 ?_ | refine xt_23 ?_ | refine eq_t (by omega) ?_ | refine eq_f (by omega) ?_ | refine ne_t (by omega) ?_ | refine ne_f (by omega) ?_ | refine lt_t (by omega) ?_ | refine lt_f (by omega) ?_ | refine gt_t (by omega) ?_ | refine gt_f (by omega) ?_ | refine ge_t (by omega) ?_ | refine ge_f (by omega) ?_ | refine le_t (by omega) ?_ | refine le_f (by omega) ?_)
  refine link_New_s (by omega) (by omega) (by omega) (by omega) h1 fun y w2 h2 => ?_
  repeat (first | refine gd_tt ?_ | refine gd_ff ?_ | refine gd_tf ?_ | refine gd_ft ?_ | refine gd_u ?_ | refine pk_t ?_ | refine pk_f ?_ | refine iff_t ?_ | refine iff_f ?_ | refine not_t ?_ | refine not_f ?_ | refine beq_s ?_ | refine bne_s ?_ | refine ncP_p ?_ | refine nc_p ?_ | refine fld_at ?_ | refine xt_02 ?_ | refine xt_12 ?_ | refine xt_03 ?_ | refine xt_13 ?_ | refine xt_23 ?_ | refine eq_t (by omega) ?_ | refine eq_f (by omega) ?_ | refine ne_t (by omega) ?_ | refine ne_f (by omega) ?_ | refine lt_t (by omega) ?_ | refine lt_f (by omega) ?_ | refine gt_t (by omega) ?_ | refine gt_f (by omega) ?_ | refine ge_t (by omega) ?_ | refine ge_f (by omega) ?_ | refine le_t (by omega) ?_ | refine le_f (by omega) ?_)
  refine bnp_s _ ?_
  repeat (first | refine gd_tt ?_ | refine gd_ff ?_ | refine gd_tf ?_ | refine gd_ft ?_ | refine gd_u ?_ | refine pk_t ?_ | refine pk_f ?_ | refine iff_t ?_ | refine iff_f ?_ | refine not_t ?_ | refine not_f ?_ | refine beq_s ?_ | refine bne_s ?_ | refine ncP_p ?_ | refine nc_p ?_ | refine fld_at ?_ | refine xt_02 ?_ | refine xt_12 ?_ | refine xt_03 ?_ | refine xt_13 ?_ | refine xt_23 ?_ | refine eq_t (by omega) ?_ | refine eq_f (by omega) ?_ | refine ne_t (by omega) ?_ | refine ne_f (by omega) ?_ | refine lt_t (by omega) ?_ | refine lt_f (by omega) ?_ | refine gt_t (by omega) ?_ | refine gt_f (by omega) ?_ | refine ge_t (by omega) ?_ | refine ge_f (by omega) ?_ | refine le_t (by omega) ?_ | refine le_f (by omega) ?_)
  refine bnp_s _ ?_
  repeat (first | refine gd_tt ?_ | refine gd_ff ?_ | refine gd_tf ?_ | refine gd_ft ?_ | refine gd_u ?_ | refine pk_t ?_ | refine pk_f ?_ | refine iff_t ?_ | refine iff_f ?_ | refine not_t ?_ | refine not_f ?_ | refine beq_s ?_ | refine bne_s ?_ | refine ncP_p ?_ | refine nc_p ?_ | refine fld_at ?_ | refine xt_02 ?_ | refine xt_12 ?_ | refine xt_03 ?_ | refine xt_13 ?_ | refine xt_23 ?_ | refine eq_t (by omega) ?_ | refine eq_f (by omega) ?_ | refine ne_t (by omega) ?_ | refine ne_f (by omega) ?_ | refine lt_t (by omega) ?_ | refine lt_f (by omega) ?_ | refine gt_t (by omega) ?_ | refine gt_f (by omega) ?_ | refine ge_t (by omega) ?_ | refine ge_f (by omega) ?_ | refine le_t (by omega) ?_ | refine le_f (by omega) ?_)
  refine cv_s ?_
  rw [wrap_i64 (by omega) (by omega)]
  refine rem_s (by decide) ?_
  rw [Int.tmod_eq_emod_of_nonneg (by omega)]
  refine cv_s ?_
  rw [wrap_i64 (by omega) (by omega)]
  refine rem_s (by decide) ?_
  rw [Int.tmod_eq_emod_of_nonneg (by omega)]
  obtain ⟨c, hc⟩ : ∃ c : Nat, a % 4 = c := ⟨(a % 4).toNat, by omega⟩
  obtain ⟨d, hd⟩ : ∃ d : Nat, b % 4 = d := ⟨(b % 4).toNat, by omega⟩
  rw [hc, hd]
  refine lpi1 (fun m t13 w => ∃ (j : Nat) (P Q : Nat → Nat → List Item), j ≤ l.length ∧ t13 = .int .i64 j ∧ m = l.length - j ∧ P c d = Q c d ∧ Sat e w (IsNet x 4 5 P :: IsNet y 4 5 Q :: S :: R)) l.length
    ⟨0, fun _ _ => [], fun _ _ => [], Nat.zero_le _, rfl, rfl, rfl, h2.swap⟩ ?_
  rintro m _ w g1 ⟨j, P, Q, hj, rfl, rfl, hPQ, h3⟩ hg
  refine lnS_rd h3 2 rfl hr ?_
  refine lt_c (fun c2 => iff_t ?_) (fun c2 => iff_f ?_)
  · obtain ⟨s, hs⟩ := get_of_lt (l := l) (j := j) (by omega)
    refine J0.cut (fun w => ∃ P Q : Nat → Nat → List Item, P c d = Q c d ∧ Sat e w (IsNet x 4 5 P :: IsNet y 4 5 Q :: S :: R)) (fun k2 hcut => ?_) (fun w hA => ?_)
    · refine ixS_rd h3 2 rfl hr (fun _ => rfl) hs fun p hp => ?_
      refine ldN_of h3 2 rfl hp rfl ?_
      rw [zero_57, zero_55]
      refine al_s (cs := ints [0, 0, 0, 0, 0, 0, 0, 0, 0, 0, 0]) h3 rfl fun o w4 h4 => ?_
      refine stN_at h4 0 rfl (vs := s.cs) rfl rfl (by simp [ints]) (ints_flat _) (cs' := s.cs) (by kernel_rfl) fun w5 h5 => ?_
      repeat (first | refine gd_tt ?_ | refine gd_ff ?_ | refine gd_tf ?_ | refine gd_ft ?_ | refine gd_u ?_ | refine pk_t ?_ | refine pk_f ?_ | refine iff_t ?_ | refine iff_f ?_ | refine not_t ?_ | refine not_f ?_ | refine beq_s ?_ | refine bne_s ?_ | refine ncP_p ?_ | refine nc_p ?_ | refine fld_at ?_ | refine xt_02 ?_ | refine xt_12 ?_ | refine xt_03 ?_ | refine xt_13 ?_ | refine xt_23 ?_ | refine eq_t (by omega) ?_ | refine eq_f (by omega) ?_ | refine ne_t (by omega) ?_ | refine ne_f (by omega) ?_ | refine lt_t (by omega) ?_ | refine lt_f (by omega) ?_ | refine gt_t (by omega) ?_ | refine gt_f (by omega) ?_ | refine ge_t (by omega) ?_ | refine ge_f (by omega) ?_ | refine le_t (by omega) ?_ | refine le_f (by omega) ?_)
      refine ld1_at h5 0 rfl (v := .int .i64 s.A) rfl ?_
      refine mine_s (fun K hK => ld1_at h5 0 rfl (v := .int .i64 s.B) rfl hK) ?_
      generalize hmine : (decide (s.A = (c : Int)) && decide (s.B = (d : Int))) = mine
      repeat (first | refine gd_tt ?_ | refine gd_ff ?_ | refine gd_tf ?_ | refine gd_ft ?_ | refine gd_u ?_ | refine pk_t ?_ | refine pk_f ?_ | refine iff_t ?_ | refine iff_f ?_ | refine not_t ?_ | refine not_f ?_ | refine beq_s ?_ | refine bne_s ?_ | refine ncP_p ?_ | refine nc_p ?_ | refine fld_at ?_ | refine xt_02 ?_ | refine xt_12 ?_ | refine xt_03 ?_ | refine xt_13 ?_ | refine xt_23 ?_ | refine eq_t (by omega) ?_ | refine eq_f (by omega) ?_ | refine ne_t (by omega) ?_ | refine ne_f (by omega) ?_ | refine lt_t (by omega) ?_ | refine lt_f (by omega) ?_ | refine gt_t (by omega) ?_ | refine gt_f (by omega) ?_ | refine ge_t (by omega) ?_ | refine ge_f (by omega) ?_ | refine le_t (by omega) ?_ | refine le_f (by omega) ?_)
      refine ld1_at h5 0 rfl (v := .int .i64 s.Kind) rfl ?_
      refine eq_c (fun c3 => iff_t ?_) (fun c3 => iff_f ?_)
      · repeat (first | refine gd_tt ?_ | refine gd_ff ?_ | refine gd_tf ?_ | refine gd_ft ?_ | refine gd_u ?_ | refine pk_t ?_ | refine pk_f ?_ | refine iff_t ?_ | refine iff_f ?_ | refine not_t ?_ | refine not_f ?_ | refine beq_s ?_ | refine bne_s ?_ | refine ncP_p ?_ | refine nc_p ?_ | refine fld_at ?_ | refine xt_02 ?_ | refine xt_12 ?_ | refine xt_03 ?_ | refine xt_13 ?_ | refine xt_23 ?_ | refine eq_t (by omega) ?_ | refine eq_f (by omega) ?_ | refine ne_t (by omega) ?_ | refine ne_f (by omega) ?_ | refine lt_t (by omega) ?_ | refine lt_f (by omega) ?_ | refine gt_t (by omega) ?_ | refine gt_f (by omega) ?_ | refine ge_t (by omega) ?_ | refine ge_f (by omega) ?_ | refine le_t (by omega) ?_ | refine le_f (by omega) ?_)
        refine ld1_at h5 0 rfl (v := .int .i64 s.A) rfl ?_
        repeat (first | refine gd_tt ?_ | refine gd_ff ?_ | refine gd_tf ?_ | refine gd_ft ?_ | refine gd_u ?_ | refine pk_t ?_ | refine pk_f ?_ | refine iff_t ?_ | refine iff_f ?_ | refine not_t ?_ | refine not_f ?_ | refine beq_s ?_ | refine bne_s ?_ | refine ncP_p ?_ | refine nc_p ?_ | refine fld_at ?_ | refine xt_02 ?_ | refine xt_12 ?_ | refine xt_03 ?_ | refine xt_13 ?_ | refine xt_23 ?_ | refine eq_t (by omega) ?_ | refine eq_f (by omega) ?_ | refine ne_t (by omega) ?_ | refine ne_f (by omega) ?_ | refine lt_t (by omega) ?_ | refine lt_f (by omega) ?_ | refine gt_t (by omega) ?_ | refine gt_f (by omega) ?_ | refine ge_t (by omega) ?_ | refine ge_f (by omega) ?_ | refine le_t (by omega) ?_ | refine le_f (by omega) ?_)
        refine ld1_at h5 0 rfl (v := .int .i64 s.B) rfl ?_
        repeat (first | refine gd_tt ?_ | refine gd_ff ?_ | refine gd_tf ?_ | refine gd_ft ?_ | refine gd_u ?_ | refine pk_t ?_ | refine pk_f ?_ | refine iff_t ?_ | refine iff_f ?_ | refine not_t ?_ | refine not_f ?_ | refine beq_s ?_ | refine bne_s ?_ | refine ncP_p ?_ | refine nc_p ?_ | refine fld_at ?_ | refine xt_02 ?_ | refine xt_12 ?_ | refine xt_03 ?_ | refine xt_13 ?_ | refine xt_23 ?_ | refine eq_t (by omega) ?_ | refine eq_f (by omega) ?_ | refine ne_t (by omega) ?_ | refine ne_f (by omega) ?_ | refine lt_t (by omega) ?_ | refine lt_f (by omega) ?_ | refine gt_t (by omega) ?_ | refine gt_f (by omega) ?_ | refine ge_t (by omega) ?_ | refine ge_f (by omega) ?_ | refine le_t (by omega) ?_ | refine le_f (by omega) ?_)
        refine ldN_at h5 0 (vs := s.I.cs) rfl (by rfl) rfl ?_
        refine link_Send_a (h5.pick 1 rfl) fun w6 h6 => ?_
        cases mine with
        | true =>
          rw [Bool.and_eq_true, decide_eq_true_eq, decide_eq_true_eq] at hmine
          repeat (first | refine gd_tt ?_ | refine gd_ff ?_ | refine gd_tf ?_ | refine gd_ft ?_ | refine gd_u ?_ | refine pk_t ?_ | refine pk_f ?_ | refine iff_t ?_ | refine iff_f ?_ | refine not_t ?_ | refine not_f ?_ | refine beq_s ?_ | refine bne_s ?_ | refine ncP_p ?_ | refine nc_p ?_ | refine fld_at ?_ | refine xt_02 ?_ | refine xt_12 ?_ | refine xt_03 ?_ | refine xt_13 ?_ | refine xt_23 ?_ | refine eq_t (by omega) ?_ | refine eq_f (by omega) ?_ | refine ne_t (by omega) ?_ | refine ne_f (by omega) ?_ | refine lt_t (by omega) ?_ | refine lt_f (by omega) ?_ | refine gt_t (by omega) ?_ | refine gt_f (by omega) ?_ | refine ge_t (by omega) ?_ | refine ge_f (by omega) ?_ | refine le_t (by omega) ?_ | refine le_f (by omega) ?_)
          refine ld1_at h6 1 rfl (v := .int .i64 s.A) rfl ?_
          repeat (first | refine gd_tt ?_ | refine gd_ff ?_ | refine gd_tf ?_ | refine gd_ft ?_ | refine gd_u ?_ | refine pk_t ?_ | refine pk_f ?_ | refine iff_t ?_ | refine iff_f ?_ | refine not_t ?_ | refine not_f ?_ | refine beq_s ?_ | refine bne_s ?_ | refine ncP_p ?_ | refine nc_p ?_ | refine fld_at ?_ | refine xt_02 ?_ | refine xt_12 ?_ | refine xt_03 ?_ | refine xt_13 ?_ | refine xt_23 ?_ | refine eq_t (by omega) ?_ | refine eq_f (by omega) ?_ | refine ne_t (by omega) ?_ | refine ne_f (by omega) ?_ | refine lt_t (by omega) ?_ | refine lt_f (by omega) ?_ | refine gt_t (by omega) ?_ | refine gt_f (by omega) ?_ | refine ge_t (by omega) ?_ | refine ge_f (by omega) ?_ | refine le_t (by omega) ?_ | refine le_f (by omega) ?_)
          refine ld1_at h6 1 rfl (v := .int .i64 s.B) rfl ?_
          repeat (first | refine gd_tt ?_ | refine gd_ff ?_ | refine gd_tf ?_ | refine gd_ft ?_ | refine gd_u ?_ | refine pk_t ?_ | refine pk_f ?_ | refine iff_t ?_ | refine iff_f ?_ | refine not_t ?_ | refine not_f ?_ | refine beq_s ?_ | refine bne_s ?_ | refine ncP_p ?_ | refine nc_p ?_ | refine fld_at ?_ | refine xt_02 ?_ | refine xt_12 ?_ | refine xt_03 ?_ | refine xt_13 ?_ | refine xt_23 ?_ | refine eq_t (by omega) ?_ | refine eq_f (by omega) ?_ | refine ne_t (by omega) ?_ | refine ne_f (by omega) ?_ | refine lt_t (by omega) ?_ | refine lt_f (by omega) ?_ | refine gt_t (by omega) ?_ | refine gt_f (by omega) ?_ | refine ge_t (by omega) ?_ | refine ge_f (by omega) ?_ | refine le_t (by omega) ?_ | refine le_f (by omega) ?_)
          refine ldN_at h6 1 (vs := s.I.cs) rfl (by rfl) rfl ?_
          refine gd_tt (link_Send_a (h6.pick 2 rfl) fun w7 h7 => ?_)
          rw [hmine.1, hmine.2] at h7 ⊢
          rw [sendE_same (n := 4) (room := 5) (x := s.I) hPQ]
          repeat (first | refine gd_tt ?_ | refine gd_ff ?_ | refine gd_tf ?_ | refine gd_ft ?_ | refine gd_u ?_ | refine pk_t ?_ | refine pk_f ?_ | refine iff_t ?_ | refine iff_f ?_ | refine not_t ?_ | refine not_f ?_ | refine beq_s ?_ | refine bne_s ?_ | refine ncP_p ?_ | refine nc_p ?_ | refine fld_at ?_ | refine xt_02 ?_ | refine xt_12 ?_ | refine xt_03 ?_ | refine xt_13 ?_ | refine xt_23 ?_ | refine eq_t (by omega) ?_ | refine eq_f (by omega) ?_ | refine ne_t (by omega) ?_ | refine ne_f (by omega) ?_ | refine lt_t (by omega) ?_ | refine lt_f (by omega) ?_ | refine gt_t (by omega) ?_ | refine gt_f (by omega) ?_ | refine ge_t (by omega) ?_ | refine ge_f (by omega) ?_ | refine le_t (by omega) ?_ | refine le_f (by omega) ?_)
          exact hcut _ ⟨_, _, sendQ_same hPQ, h7.selR [_, _, _] [_, _] [1, 0] (by decide) rfl⟩
        | false =>
          have hm : ¬ (s.A = (c : Int) ∧ s.B = (d : Int)) := fun h => by rw [h.1, h.2] at hmine; simp at hmine
          repeat (first | refine gd_tt ?_ | refine gd_ff ?_ | refine gd_tf ?_ | refine gd_ft ?_ | refine gd_u ?_ | refine pk_t ?_ | refine pk_f ?_ | refine iff_t ?_ | refine iff_f ?_ | refine not_t ?_ | refine not_f ?_ | refine beq_s ?_ | refine bne_s ?_ | refine ncP_p ?_ | refine nc_p ?_ | refine fld_at ?_ | refine xt_02 ?_ | refine xt_12 ?_ | refine xt_03 ?_ | refine xt_13 ?_ | refine xt_23 ?_ | refine eq_t (by omega) ?_ | refine eq_f (by omega) ?_ | refine ne_t (by omega) ?_ | refine ne_f (by omega) ?_ | refine lt_t (by omega) ?_ | refine lt_f (by omega) ?_ | refine gt_t (by omega) ?_ | refine gt_f (by omega) ?_ | refine ge_t (by omega) ?_ | refine ge_f (by omega) ?_ | refine le_t (by omega) ?_ | refine le_f (by omega) ?_)
          exact hcut _ ⟨_, Q, (sendQ_apart hm).trans hPQ, h6.selR [_, _, _] [_, _] [0, 2] (by decide) rfl⟩
      · refine eq_c (fun c4 => iff_t ?_) (fun c4 => iff_f (hcut _ ⟨P, Q, hPQ, h5.selR [_, _, _] [_, _] [1, 2] (by decide) rfl⟩))
        repeat (first | refine gd_tt ?_ | refine gd_ff ?_ | refine gd_tf ?_ | refine gd_ft ?_ | refine gd_u ?_ | refine pk_t ?_ | refine pk_f ?_ | refine iff_t ?_ | refine iff_f ?_ | refine not_t ?_ | refine not_f ?_ | refine beq_s ?_ | refine bne_s ?_ | refine ncP_p ?_ | refine nc_p ?_ | refine fld_at ?_ | refine xt_02 ?_ | refine xt_12 ?_ | refine xt_03 ?_ | refine xt_13 ?_ | refine xt_23 ?_ | refine eq_t (by omega) ?_ | refine eq_f (by omega) ?_ | refine ne_t (by omega) ?_ | refine ne_f (by omega) ?_ | refine lt_t (by omega) ?_ | refine lt_f (by omega) ?_ | refine gt_t (by omega) ?_ | refine gt_f (by omega) ?_ | refine ge_t (by omega) ?_ | refine ge_f (by omega) ?_ | refine le_t (by omega) ?_ | refine le_f (by omega) ?_)
        refine ld1_at h5 0 rfl (v := .int .i64 s.A) rfl ?_
        repeat (first | refine gd_tt ?_ | refine gd_ff ?_ | refine gd_tf ?_ | refine gd_ft ?_ | refine gd_u ?_ | refine pk_t ?_ | refine pk_f ?_ | refine iff_t ?_ | refine iff_f ?_ | refine not_t ?_ | refine not_f ?_ | refine beq_s ?_ | refine bne_s ?_ | refine ncP_p ?_ | refine nc_p ?_ | refine fld_at ?_ | refine xt_02 ?_ | refine xt_12 ?_ | refine xt_03 ?_ | refine xt_13 ?_ | refine xt_23 ?_ | refine eq_t (by omega) ?_ | refine eq_f (by omega) ?_ | refine ne_t (by omega) ?_ | refine ne_f (by omega) ?_ | refine lt_t (by omega) ?_ | refine lt_f (by omega) ?_ | refine gt_t (by omega) ?_ | refine gt_f (by omega) ?_ | refine ge_t (by omega) ?_ | refine ge_f (by omega) ?_ | refine le_t (by omega) ?_ | refine le_f (by omega) ?_)
        refine ld1_at h5 0 rfl (v := .int .i64 s.B) rfl ?_
        refine link_Recv_a (h5.pick 1 rfl) fun w6 h6 => ?_
        repeat (first | refine gd_tt ?_ | refine gd_ff ?_ | refine gd_tf ?_ | refine gd_ft ?_ | refine gd_u ?_ | refine pk_t ?_ | refine pk_f ?_ | refine iff_t ?_ | refine iff_f ?_ | refine not_t ?_ | refine not_f ?_ | refine beq_s ?_ | refine bne_s ?_ | refine ncP_p ?_ | refine nc_p ?_ | refine fld_at ?_ | refine xt_02 ?_ | refine xt_12 ?_ | refine xt_03 ?_ | refine xt_13 ?_ | refine xt_23 ?_ | refine eq_t (by omega) ?_ | refine eq_f (by omega) ?_ | refine ne_t (by omega) ?_ | refine ne_f (by omega) ?_ | refine lt_t (by omega) ?_ | refine lt_f (by omega) ?_ | refine gt_t (by omega) ?_ | refine gt_f (by omega) ?_ | refine ge_t (by omega) ?_ | refine ge_f (by omega) ?_ | refine le_t (by omega) ?_ | refine le_f (by omega) ?_)
        refine al_s (cs := Item.zero.cs) h6 rfl fun u w7 h7 => ?_
        refine stN_at h7 0 rfl (vs := (recvV 4 P s.A s.B).cs) rfl rfl (by decide) (ints_flat _) (cs' := (recvV 4 P s.A s.B).cs) (by rfl) fun w8 h8 => ?_
        cases mine with
        | true =>
          rw [Bool.and_eq_true, decide_eq_true_eq, decide_eq_true_eq] at hmine
          repeat (first | refine gd_tt ?_ | refine gd_ff ?_ | refine gd_tf ?_ | refine gd_ft ?_ | refine gd_u ?_ | refine pk_t ?_ | refine pk_f ?_ | refine iff_t ?_ | refine iff_f ?_ | refine not_t ?_ | refine not_f ?_ | refine beq_s ?_ | refine bne_s ?_ | refine ncP_p ?_ | refine nc_p ?_ | refine fld_at ?_ | refine xt_02 ?_ | refine xt_12 ?_ | refine xt_03 ?_ | refine xt_13 ?_ | refine xt_23 ?_ | refine eq_t (by omega) ?_ | refine eq_f (by omega) ?_ | refine ne_t (by omega) ?_ | refine ne_f (by omega) ?_ | refine lt_t (by omega) ?_ | refine lt_f (by omega) ?_ | refine gt_t (by omega) ?_ | refine gt_f (by omega) ?_ | refine ge_t (by omega) ?_ | refine ge_f (by omega) ?_ | refine le_t (by omega) ?_ | refine le_f (by omega) ?_)
          refine ld1_at h8 2 rfl (v := .int .i64 s.A) rfl ?_
          repeat (first | refine gd_tt ?_ | refine gd_ff ?_ | refine gd_tf ?_ | refine gd_ft ?_ | refine gd_u ?_ | refine pk_t ?_ | refine pk_f ?_ | refine iff_t ?_ | refine iff_f ?_ | refine not_t ?_ | refine not_f ?_ | refine beq_s ?_ | refine bne_s ?_ | refine ncP_p ?_ | refine nc_p ?_ | refine fld_at ?_ | refine xt_02 ?_ | refine xt_12 ?_ | refine xt_03 ?_ | refine xt_13 ?_ | refine xt_23 ?_ | refine eq_t (by omega) ?_ | refine eq_f (by omega) ?_ | refine ne_t (by omega) ?_ | refine ne_f (by omega) ?_ | refine lt_t (by omega) ?_ | refine lt_f (by omega) ?_ | refine gt_t (by omega) ?_ | refine gt_f (by omega) ?_ | refine ge_t (by omega) ?_ | refine ge_f (by omega) ?_ | refine le_t (by omega) ?_ | refine le_f (by omega) ?_)
          refine ld1_at h8 2 rfl (v := .int .i64 s.B) rfl ?_
          refine link_Recv_a (h8.pick 3 rfl) fun w9 h9 => ?_
          repeat (first | refine gd_tt ?_ | refine gd_ff ?_ | refine gd_tf ?_ | refine gd_ft ?_ | refine gd_u ?_ | refine pk_t ?_ | refine pk_f ?_ | refine iff_t ?_ | refine iff_f ?_ | refine not_t ?_ | refine not_f ?_ | refine beq_s ?_ | refine bne_s ?_ | refine ncP_p ?_ | refine nc_p ?_ | refine fld_at ?_ | refine xt_02 ?_ | refine xt_12 ?_ | refine xt_03 ?_ | refine xt_13 ?_ | refine xt_23 ?_ | refine eq_t (by omega) ?_ | refine eq_f (by omega) ?_ | refine ne_t (by omega) ?_ | refine ne_f (by omega) ?_ | refine lt_t (by omega) ?_ | refine lt_f (by omega) ?_ | refine gt_t (by omega) ?_ | refine gt_f (by omega) ?_ | refine ge_t (by omega) ?_ | refine ge_f (by omega) ?_ | refine le_t (by omega) ?_ | refine le_f (by omega) ?_)
          refine al_s (cs := Item.zero.cs) h9 rfl fun z w10 h10 => ?_
          refine stN_at h10 0 rfl (vs := (recvV 4 Q s.A s.B).cs) rfl rfl (by decide) (ints_flat _) (cs' := (recvV 4 Q s.A s.B).cs) (by rfl) fun w11 h11 => ?_
          refine ldN_at h11 2 (vs := (recvV 4 P s.A s.B).cs) rfl (by rfl) rfl ?_
          refine ldN_at h11 0 (vs := (recvV 4 Q s.A s.B).cs) rfl (by rfl) rfl ?_
          obtain ⟨e1, e2, e3⟩ := recv_same (n := 4) hPQ
          rw [hmine.1, hmine.2] at h11 ⊢
          rw [e1, e2]
          refine bO_ne (ns := (recvV 4 Q c d).ns) (ms := (recvV 4 Q c d).ns) eqT_55 agg_55 egt_55 (by decide) rfl ?_
          rw [Item.eq_ns, decide_eq_true rfl]
          refine gd_ff (gd_ff (gd_ff (bne_s ?_)))
          rw [bne_self_eq_false]
          repeat (first | refine gd_tt ?_ | refine gd_ff ?_ | refine gd_tf ?_ | refine gd_ft ?_ | refine gd_u ?_ | refine pk_t ?_ | refine pk_f ?_ | refine iff_t ?_ | refine iff_f ?_ | refine not_t ?_ | refine not_f ?_ | refine beq_s ?_ | refine bne_s ?_ | refine ncP_p ?_ | refine nc_p ?_ | refine fld_at ?_ | refine xt_02 ?_ | refine xt_12 ?_ | refine xt_03 ?_ | refine xt_13 ?_ | refine xt_23 ?_ | refine eq_t (by omega) ?_ | refine eq_f (by omega) ?_ | refine ne_t (by omega) ?_ | refine ne_f (by omega) ?_ | refine lt_t (by omega) ?_ | refine lt_f (by omega) ?_ | refine gt_t (by omega) ?_ | refine gt_f (by omega) ?_ | refine ge_t (by omega) ?_ | refine ge_f (by omega) ?_ | refine le_t (by omega) ?_ | refine le_f (by omega) ?_)
          exact hcut _ ⟨_, _, e3, h11.selR [_, _, _, _, _] [_, _] [3, 1] (by decide) rfl⟩
        | false =>
          have hm : ¬ (s.A = (c : Int) ∧ s.B = (d : Int)) := fun h => by rw [h.1, h.2] at hmine; simp at hmine
          repeat (first | refine gd_tt ?_ | refine gd_ff ?_ | refine gd_tf ?_ | refine gd_ft ?_ | refine gd_u ?_ | refine pk_t ?_ | refine pk_f ?_ | refine iff_t ?_ | refine iff_f ?_ | refine not_t ?_ | refine not_f ?_ | refine beq_s ?_ | refine bne_s ?_ | refine ncP_p ?_ | refine nc_p ?_ | refine fld_at ?_ | refine xt_02 ?_ | refine xt_12 ?_ | refine xt_03 ?_ | refine xt_13 ?_ | refine xt_23 ?_ | refine eq_t (by omega) ?_ | refine eq_f (by omega) ?_ | refine ne_t (by omega) ?_ | refine ne_f (by omega) ?_ | refine lt_t (by omega) ?_ | refine lt_f (by omega) ?_ | refine gt_t (by omega) ?_ | refine gt_f (by omega) ?_ | refine ge_t (by omega) ?_ | refine ge_f (by omega) ?_ | refine le_t (by omega) ?_ | refine le_f (by omega) ?_)
          exact hcut _ ⟨_, Q, (recvQ_apart hm).trans hPQ, h8.selR [_, _, _, _] [_, _] [1, 3] (by decide) rfl⟩
    · obtain ⟨P', Q', hPQ', h4⟩ := hA
      refine inc_s (by omega) ?_
      exact hg _ _ _ (by omega) ⟨j + 1, P', Q', by omega, rfl, rfl, hPQ', h4⟩
  · refine link_Len_s h3 ?_
    refine link_Len_s h3.swap ?_
    rw [Int.toNat_natCast, Int.toNat_natCast, hPQ]
    refine eq_t rfl ?_
    repeat (first | refine gd_tt ?_ | refine gd_ff ?_ | refine gd_tf ?_ | refine gd_ft ?_ | refine gd_u ?_ | refine pk_t ?_ | refine pk_f ?_ | refine iff_t ?_ | refine iff_f ?_ | refine not_t ?_ | refine not_f ?_ | refine beq_s ?_ | refine bne_s ?_ | refine ncP_p ?_ | refine nc_p ?_ | refine fld_at ?_ | refine xt_02 ?_ | refine xt_12 ?_ | refine xt_03 ?_ | refine xt_13 ?_ | refine xt_23 ?_ | refine eq_t (by omega) ?_ | refine eq_f (by omega) ?_ | refine ne_t (by omega) ?_ | refine ne_f (by omega) ?_ | refine lt_t (by omega) ?_ | refine lt_f (by omega) ?_ | refine gt_t (by omega) ?_ | refine gt_f (by omega) ?_ | refine ge_t (by omega) ?_ | refine ge_f (by omega) ?_ | refine le_t (by omega) ?_ | refine le_f (by omega) ?_)
    refine link_Room_s h3 fun w4 h4 => ?_
    repeat (first | refine gd_tt ?_ | refine gd_ff ?_ | refine gd_tf ?_ | refine gd_ft ?_ | refine gd_u ?_ | refine pk_t ?_ | refine pk_f ?_ | refine iff_t ?_ | refine iff_f ?_ | refine not_t ?_ | refine not_f ?_ | refine beq_s ?_ | refine bne_s ?_ | refine ncP_p ?_ | refine nc_p ?_ | refine fld_at ?_ | refine xt_02 ?_ | refine xt_12 ?_ | refine xt_03 ?_ | refine xt_13 ?_ | refine xt_23 ?_ | refine eq_t (by omega) ?_ | refine eq_f (by omega) ?_ | refine ne_t (by omega) ?_ | refine ne_f (by omega) ?_ | refine lt_t (by omega) ?_ | refine lt_f (by omega) ?_ | refine gt_t (by omega) ?_ | refine gt_f (by omega) ?_ | refine ge_t (by omega) ?_ | refine ge_f (by omega) ?_ | refine le_t (by omega) ?_ | refine le_f (by omega) ?_)
    refine link_Room_s h4.swap fun w5 h5 => ?_
    rw [Int.toNat_natCast, Int.toNat_natCast, hPQ]
    refine gd_tt (eq_t rfl ?_)
    repeat (first | refine gd_tt ?_ | refine gd_ff ?_ | refine gd_tf ?_ | refine gd_ft ?_ | refine gd_u ?_ | refine pk_t ?_ | refine pk_f ?_ | refine iff_t ?_ | refine iff_f ?_ | refine not_t ?_ | refine not_f ?_ | refine beq_s ?_ | refine bne_s ?_ | refine ncP_p ?_ | refine nc_p ?_ | refine fld_at ?_ | refine xt_02 ?_ | refine xt_12 ?_ | refine xt_03 ?_ | refine xt_13 ?_ | refine xt_23 ?_ | refine eq_t (by omega) ?_ | refine eq_f (by omega) ?_ | refine ne_t (by omega) ?_ | refine ne_f (by omega) ?_ | refine lt_t (by omega) ?_ | refine lt_f (by omega) ?_ | refine gt_t (by omega) ?_ | refine gt_f (by omega) ?_ | refine ge_t (by omega) ?_ | refine ge_f (by omega) ?_ | refine le_t (by omega) ?_ | refine le_f (by omega) ?_)
    rw [zero_55]
    refine bld_s Item.zero.cs (by kernel_rfl) ?_
    refine gd_tt (link_Send_a h5.swap fun w6 h6 => ?_)
    rw [show sendE 4 5 P 0 0 Item.zero = 1 from if_pos (.inl (by decide))]
    repeat (first | refine gd_tt ?_ | refine gd_ff ?_ | refine gd_tf ?_ | refine gd_ft ?_ | refine gd_u ?_ | refine pk_t ?_ | refine pk_f ?_ | refine iff_t ?_ | refine iff_f ?_ | refine not_t ?_ | refine not_f ?_ | refine beq_s ?_ | refine bne_s ?_ | refine ncP_p ?_ | refine nc_p ?_ | refine fld_at ?_ | refine xt_02 ?_ | refine xt_12 ?_ | refine xt_03 ?_ | refine xt_13 ?_ | refine xt_23 ?_ | refine eq_t (by omega) ?_ | refine eq_f (by omega) ?_ | refine ne_t (by omega) ?_ | refine ne_f (by omega) ?_ | refine lt_t (by omega) ?_ | refine lt_f (by omega) ?_ | refine gt_t (by omega) ?_ | refine gt_f (by omega) ?_ | refine ge_t (by omega) ?_ | refine ge_f (by omega) ?_ | refine le_t (by omega) ?_ | refine le_f (by omega) ?_)
    exact hk _ h6.drop.drop
end Go.Proofs.Ytiiekfcfledkhaa
