/- The laws LinkApart and LinkOrder. Conditions: none. -/
import Derived.Test.YtcocbmbadigjbaaLinkB
namespace Go.Proofs.Ytcocbmbadigjbaa
open Go Go.E
set_option maxRecDepth 100000
variable {e w : World} {R : List HP} {K : KV}

instance (n a b : Int) (x : Item) : Decidable (sendBad n a b x) := inferInstanceAs (Decidable (_ ∨ _))
def sendE (n room : Int) (Q : Nat → Nat → List Item) (a b : Int) (x : Item) : Int := if sendBad n a b x then 1 else if ((Q a.toNat b.toNat).length : Int) = room then 2 else 0
def sendQ (n room : Int) (Q : Nat → Nat → List Item) (a b : Int) (x : Item) : Nat → Nat → List Item := if sendE n room Q a b x = 0 then updQ Q a.toNat b.toNat (Q a.toNat b.toNat ++ [x]) else Q
theorem link_Send_a {g : Nat} {n room : Int} {Q : Nat → Nat → List Item} {a b : Int} {x : Item} (hS : Sat e w (IsNet g n room Q :: R)) (hk : ∀ w', Sat e w' (IsNet g n room (sendQ n room Q a b x) :: R) → K (.int .i64 (sendE n room Q a b x)) w') :
    Cl prog 7 #[.pointer (some ⟨g, 0, none⟩), .int .i64 a, .int .i64 b, .agg x.cs.toArray] w K := by
  unfold sendQ at hk
  by_cases hb : sendBad n a b x
  · have e1 : sendE n room Q a b x = 1 := if_pos hb
    rw [e1, if_neg (by decide)] at hk
    exact link_Send_bad hb hS hk
  · have ho : okL n a b := by by_cases h : okL n a b; exact h; exact absurd (Or.inl h) hb
    have h0 := ho.1
    have h1 := ho.2.1
    rw [← Int.toNat_of_nonneg h0, ← Int.toNat_of_nonneg h1] at hb ⊢
    refine link_Send_s hb hS (fun hl w' h' => ?_) (fun hl w' h' => ?_)
    · have e1 : sendE n room Q a b x = 2 := by
        rw [Int.toNat_of_nonneg h0, Int.toNat_of_nonneg h1] at hb
        unfold sendE
        rw [if_neg hb, if_pos hl]
      rw [e1, if_neg (by decide)] at hk
      exact hk _ h'
    · have e1 : sendE n room Q a b x = 0 := by
        rw [Int.toNat_of_nonneg h0, Int.toNat_of_nonneg h1] at hb
        unfold sendE
        rw [if_neg hb, if_neg (by omega)]
      rw [e1, if_pos rfl] at hk
      exact hk _ h'
theorem sendE_ok {n room : Int} {Q : Nat → Nat → List Item} {a b : Int} {x : Item} (h : sendE n room Q a b x = 0) : okL n a b := by
  unfold sendE at h
  by_cases hb : sendBad n a b x
  · rw [if_pos hb] at h; cases h
  · by_cases ho : okL n a b
    · exact ho
    · exact absurd (Or.inl ho) hb
theorem sendQ_apart {n room : Int} {Q : Nat → Nat → List Item} {a b : Int} {x : Item} {c d : Nat} (h : ¬ (a = c ∧ b = d)) : sendQ n room Q a b x c d = Q c d := by
  unfold sendQ
  split
  · rename_i h0
    obtain ⟨o1, o2, _⟩ := sendE_ok h0
    unfold updQ
    rw [if_neg (by omega)]
  · rfl
theorem sendQ_bad {n room : Int} {Q : Nat → Nat → List Item} {a b : Int} {x : Item} (h : sendE n room Q a b x ≠ 0) : sendQ n room Q a b x = Q := if_neg h
theorem sendQ_at {n room : Int} {Q : Nat → Nat → List Item} {c d : Nat} {x : Item} (h : sendE n room Q c d x = 0) : sendQ n room Q c d x c d = Q c d ++ [x] := by
  unfold sendQ
  rw [if_pos h]
  unfold updQ
  rw [if_pos (by simp), Int.toNat_natCast, Int.toNat_natCast]
theorem sendE_same {n room : Int} {P Q : Nat → Nat → List Item} {c d : Nat} {x : Item} (h : P c d = Q c d) : sendE n room P c d x = sendE n room Q c d x := by
  unfold sendE
  rw [Int.toNat_natCast, Int.toNat_natCast, h]
theorem sendQ_same {n room : Int} {P Q : Nat → Nat → List Item} {c d : Nat} {x : Item} (h : P c d = Q c d) : sendQ n room P c d x c d = sendQ n room Q c d x c d := by
  by_cases h0 : sendE n room P c d x = 0
  · rw [sendQ_at h0, sendQ_at ((sendE_same h).symm.trans h0), h]
  · rw [sendQ_bad h0, sendQ_bad (fun k => h0 ((sendE_same h).trans k)), h]

def recvB (n : Int) (Q : Nat → Nat → List Item) (a b : Int) : Bool := decide (okL n a b) && !(Q a.toNat b.toNat).isEmpty
def recvV (n : Int) (Q : Nat → Nat → List Item) (a b : Int) : Item := if recvB n Q a b = true then (Q a.toNat b.toNat).headD Item.zero else Item.zero
def recvQ (n : Int) (Q : Nat → Nat → List Item) (a b : Int) : Nat → Nat → List Item := if recvB n Q a b = true then updQ Q a.toNat b.toNat (Q a.toNat b.toNat).tail else Q
theorem link_Recv_a {g : Nat} {n room : Int} {Q : Nat → Nat → List Item} {a b : Int} (hS : Sat e w (IsNet g n room Q :: R)) (hk : ∀ w', Sat e w' (IsNet g n room (recvQ n Q a b) :: R) → K (.tuple #[.agg (recvV n Q a b).cs.toArray, .bool (recvB n Q a b)]) w') :
    Cl prog 8 #[.pointer (some ⟨g, 0, none⟩), .int .i64 a, .int .i64 b] w K := by
  by_cases ho : okL n a b
  · have h0 := ho.1
    have h1 := ho.2.1
    cases hq : Q a.toNat b.toNat with
    | nil =>
      have e1 : recvB n Q a b = false := by unfold recvB; rw [hq]; simp
      unfold recvQ recvV at hk
      rw [e1, if_neg (by decide), if_neg (by decide)] at hk
      exact link_Recv_bad (.inr hq) hS hk
    | cons x q =>
      have e1 : recvB n Q a b = true := by unfold recvB; rw [hq]; simp [ho]
      unfold recvQ recvV at hk
      rw [e1, if_pos rfl, if_pos rfl, hq] at hk
      rw [← Int.toNat_of_nonneg h0, ← Int.toNat_of_nonneg h1] at ho ⊢
      exact link_Recv_s ho hq hS hk
  · have e1 : recvB n Q a b = false := by unfold recvB; rw [decide_eq_false ho]; rfl
    unfold recvQ recvV at hk
    rw [e1, if_neg (by decide), if_neg (by decide)] at hk
    exact link_Recv_bad (.inl ho) hS hk
theorem recvQ_bad {n : Int} {Q : Nat → Nat → List Item} {a b : Int} (h : recvB n Q a b = false) : recvQ n Q a b = Q := if_neg (by rw [h]; decide)
theorem recvQ_apart {n : Int} {Q : Nat → Nat → List Item} {a b : Int} {c d : Nat} (h : ¬ (a = c ∧ b = d)) : recvQ n Q a b c d = Q c d := by
  unfold recvQ
  split
  · rename_i h0
    unfold recvB at h0
    rw [Bool.and_eq_true, decide_eq_true_eq] at h0
    obtain ⟨o1, o2, _⟩ := h0.1
    unfold updQ
    rw [if_neg (by omega)]
  · rfl
theorem recv_at {n : Int} {Q : Nat → Nat → List Item} {c d : Nat} (h : recvB n Q c d = true) : Q c d = recvV n Q c d :: recvQ n Q c d c d := by
  unfold recvV recvQ
  rw [if_pos h, if_pos h]
  unfold recvB at h
  rw [Int.toNat_natCast, Int.toNat_natCast] at h ⊢
  unfold updQ
  rw [if_pos ⟨rfl, rfl⟩]
  cases hq : Q c d with
  | nil => rw [hq] at h; simp at h
  | cons x q => rfl
theorem recv_same {n : Int} {P Q : Nat → Nat → List Item} {c d : Nat} (h : P c d = Q c d) : recvB n P c d = recvB n Q c d ∧ recvV n P c d = recvV n Q c d ∧ recvQ n P c d c d = recvQ n Q c d c d := by
  have e1 : recvB n P c d = recvB n Q c d := by unfold recvB; rw [Int.toNat_natCast, Int.toNat_natCast, h]
  refine ⟨e1, ?_, ?_⟩
  · unfold recvV
    rw [e1, Int.toNat_natCast, Int.toNat_natCast, h]
  · unfold recvQ
    rw [e1]
    split
    · unfold updQ
      rw [if_pos (by simp), if_pos (by simp), Int.toNat_natCast, Int.toNat_natCast, h]
    · exact h

structure LStep where
  Kind : Int
  A : Int
  B : Int
  I : Item
  deriving DecidableEq
def LStep.ns (s : LStep) : List Int := [s.Kind, s.A, s.B, s.I.Kind, s.I.m.key.T, s.I.m.key.From, s.I.m.key.Seq, s.I.m.To, s.I.m.Class, s.I.m.Body, s.I.Colour]
abbrev LStep.cs (s : LStep) : List Value := ints s.ns
def LStep.of (l : List Int) : LStep := ⟨l.getD 0 0, l.getD 1 0, l.getD 2 0, ⟨l.getD 3 0, ⟨⟨l.getD 4 0, l.getD 5 0, l.getD 6 0⟩, l.getD 7 0, l.getD 8 0, l.getD 9 0⟩, l.getD 10 0⟩⟩
theorem LStep.of_cs {l : List Int} (h : l.length = 11) : (LStep.of l).cs = ints l := by
  match l, h with
  | [_, _, _, _, _, _, _, _, _, _, _], _ => rfl

theorem wf8l {n : Int} (h : (Lit.int .u8 n).wf = true) : 0 ≤ n ∧ n ≤ 255 := by
  simp only [Lit.wf, IntKind.min, IntKind.max, IntKind.signed, IntKind.bits] at h
  simp at h
  omega
/-- A == f && B == t, B in a cell. -/
theorem mine_s {A f B t : Int} {b : Nat} (hld : ∀ K : KV, K (.int .i64 B) w → ld1 (.pointer (some ⟨b, 0 + 2, none⟩)) w K) (hk : K (.bool (decide (A = f) && decide (B = t))) w) :
    bi .eql .i64 (.int .i64 A) (.int .i64 f) w fun t65 w => gd t65 true (fun k => fld 2 (.pointer (some ⟨b, 0, none⟩)) w k) w fun t67 w => gd t65 true (fun k => ld1 t67 w k) w fun t68 w =>
      gd t65 true (fun k => k (.int .i64 t) w) w fun t69 w => gd t65 true (fun k => bi .eql .i64 t68 t69 w k) w fun t70 w => pk t65 t70 (.bool false) w K := by
  refine eq_c (fun c => ?_) (fun c => ?_)
  · rw [decide_eq_true c, Bool.true_and] at hk
    refine gd_tt (fld_at (gd_tt (hld _ (gd_tt (gd_tt (eq_d (pk_t ?_)))))))
    exact hk
  · rw [decide_eq_false c, Bool.false_and] at hk
    exact gd_ft (gd_ft (gd_ft (gd_ft (pk_f hk))))

end Go.Proofs.Ytcocbmbadigjbaa
