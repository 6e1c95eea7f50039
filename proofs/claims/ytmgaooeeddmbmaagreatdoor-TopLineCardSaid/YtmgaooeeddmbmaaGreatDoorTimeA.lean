/- Times and keys: what the functions of vtime and of the reference of layer 1 come to. Conditions: numbers fit int where a conversion to uint is made. -/
import Derived.Test.YtmgaooeeddmbmaaGreatDoorData
import Derived.Test.YtmgaooeeddmbmaaGreatDoorPfTy
import Derived.Test.YtmgaooeeddmbmaaGreatDoorPf0
import Derived.Test.YtmgaooeeddmbmaaGreatDoorPf1
import Derived.Test.YtmgaooeeddmbmaaGreatDoorPf2
import Derived.Test.YtmgaooeeddmbmaaGreatDoorPf3
import Derived.Test.YtmgaooeeddmbmaaGreatDoorPf4
namespace Go.Proofs.YtmgaooeeddmbmaaGreatDoor
open Go Go.E
set_option maxRecDepth 100000

def Inf : Int := 1125899906842624
def MaxT : Int := 1099511627776
def validT (t : Int) : Bool := decide (t = Inf ∨ (0 ≤ t ∧ t ≤ MaxT))
def clampT (t : Int) : Int := if t < 0 then 0 else if MaxT < t then Inf else t
def addT (t d : Int) : Int := clampT (clampT t + clampT d)
def leastT (l : List Int) : Int := l.foldl (fun n t => min n (clampT t)) Inf
def cmpI (a b : Int) : Int := if a < b then -1 else if b < a then 1 else 0
def cmpK (a b : Key) : Int := if cmpI a.T b.T ≠ 0 then cmpI a.T b.T else if cmpI a.From b.From ≠ 0 then cmpI a.From b.From else cmpI a.Seq b.Seq
def In64 (n : Int) : Prop := -9223372036854775808 ≤ n ∧ n ≤ 9223372036854775807
theorem In64.of_wf {n : Int} (h : (Lit.int .i64 n).wf = true) : In64 n := by
  simp only [Lit.wf, IntKind.min, IntKind.max, IntKind.signed, IntKind.bits] at h
  simp at h
  unfold In64
  omega
theorem wrap_u64 {n : Int} (h : In64 n) : IntKind.u64.wrap n = if 0 ≤ n then n else n + 18446744073709551616 := by
  have e1 : (2 : Int) ^ 64 = 18446744073709551616 := by decide
  simp only [IntKind.wrap, IntKind.bits, IntKind.signed, Bool.false_and, Bool.false_eq_true, if_false, e1]
  unfold In64 at h
  split <;> omega
theorem clampT_le (t : Int) : 0 ≤ clampT t ∧ clampT t ≤ Inf := by unfold clampT Inf MaxT; split <;> (try split) <;> omega

variable {e w : World} {R : List HP} {K : KV}
theorem vtime_clamp_s {t : Int} (hk : K (.int .i64 (clampT t)) w) : Cl prog 38 #[.int .i64 t] w K := by
  refine vtime_clamp_calls ?_
  unfold vtime_clamp
  unfold clampT Inf MaxT at hk
  refine lt_c (fun c => iff_t ?_) (fun c => iff_f ?_)
  · rw [if_pos c] at hk; exact hk
  · rw [if_neg c] at hk
    refine gt_c (fun c => iff_t ?_) (fun c => iff_f ?_)
    · rw [if_pos c] at hk; exact hk
    · rw [if_neg c] at hk; exact hk
theorem vtime_Add_s {t d : Int} (hk : K (.int .i64 (addT t d)) w) : Cl prog 22 #[.int .i64 t, .int .i64 d] w K := by
  refine vtime_Add_calls ?_
  unfold vtime_Add
  have h1 := clampT_le t
  have h2 := clampT_le d
  unfold Inf at h1 h2
  exact vtime_clamp_s (vtime_clamp_s (add_s (by omega) (by omega) (vtime_clamp_s hk)))
theorem leastT_snoc (l : List Int) (t : Int) : leastT (l ++ [t]) = min (leastT l) (clampT t) := by simp [leastT]
theorem leastT_nil : leastT [] = 1125899906842624 := rfl
theorem isNaN_s {a : Int} (hk : K (.bool false) w) : Cl prog 82 #[.int .i64 a] w K := by
  refine cmp_isNaN_int_calls ?_
  unfold cmp_isNaN_int
  exact ne_f rfl hk
theorem compare_s {a b : Int} (hk : K (.int .i64 (cmpI a b)) w) : Cl prog 66 #[.int .i64 a, .int .i64 b] w K := by
  refine cmp_Compare_int_calls ?_
  unfold cmp_Compare_int
  unfold cmpI at hk
  refine isNaN_s (isNaN_s (iff_f (iff_f (lt_c (fun c => iff_t ?_) (fun c => iff_f (gt_c (fun c2 => iff_t ?_) (fun c2 => iff_f ?_)))))))
  · rw [if_pos c] at hk; exact hk
  · rw [if_neg c, if_pos c2] at hk; exact hk
  · rw [if_neg c, if_neg c2] at hk; exact hk
theorem or_s {v : Value} {l : List Int} {S : HP} (hS : Sat e w (S :: R)) (hr : ∀ g, S g → rdS 1 (intsK .i64) v l g) (hl : l.length ≤ 1000000) (hk : ∀ w', Sat e w' (S :: R) → K (.int .i64 ((l.find? (fun n => decide (n ≠ 0))).getD 0)) w') : Cl prog 65 #[v] w K := by
  refine cmp_Or_int_calls ?_
  unfold cmp_Or_int
  refine lnS_rd hS 0 rfl hr ?_
  refine lp1 (fun t8 w => ∃ j : Nat, j ≤ l.length ∧ t8 = .int .i64 j ∧ (l.take j).find? (fun n => decide (n ≠ 0)) = none ∧ Sat e w (S :: R)) (fun t8 _ => l.length - nOf t8) ⟨0, Nat.zero_le _, rfl, rfl, hS⟩ ?_
  rintro _ w g ⟨j, hj, rfl, hn, h1⟩ hg
  refine lt_c (fun c => iff_t ?_) (fun c => iff_f ?_)
  · obtain ⟨x, hx⟩ := get_of_lt (l := l) (j := j) (by omega)
    refine ixS_rd h1 0 rfl hr (fun _ => rfl) hx fun a ha => ?_
    refine ld1_of h1 0 rfl ha (by rfl) ?_
    refine ne_c (fun c => iff_t ?_) (fun c => iff_f ?_)
    · have h2 := hk _ h1
      have : l.find? (fun n => decide (n ≠ 0)) = some x := by
        rw [← List.take_append_drop j l, List.find?_append, hn, Option.none_or]
        have hd : l.drop j = x :: l.drop (j + 1) := by
          obtain ⟨hlt, e⟩ := List.getElem?_eq_some_iff.1 hx
          rw [List.drop_eq_getElem_cons hlt, e]
        rw [hd, List.find?_cons_of_pos (by simpa using c)]
      rw [this] at h2
      exact h2
    · refine inc_s (by omega) ?_
      exact hg _ _ ⟨j + 1, by omega, rfl, by rw [take_snoc hx, List.find?_append, hn]; simp [c], h1⟩ (by simp [nOf]; omega)
  · obtain rfl : j = l.length := by omega
    rw [List.take_length] at hn
    have h2 := hk _ h1
    rw [hn] at h2
    exact h2
theorem vtime_Cmp_s {a b : Key} (hS : Sat e w R) (hk : ∀ w', Sat e w' R → K (.int .i64 (cmpK a b)) w') : Cl prog 50 #[.agg a.cs.toArray, .agg b.cs.toArray] w K := by
  refine vtime_Cmp_calls ?_
  unfold vtime_Cmp
  rw [zero_3]
  refine al_s (cs := a.cs) hS rfl fun b2 w1 h1 => ?_
  refine al_s (cs := b.cs) h1 rfl fun b3 w2 h2 => ?_
  refine dr_s h2 fun w3 h3 => ?_
  refine fld_at (ld1_at h3 1 rfl rfl (fld_at (ld1_at h3 0 rfl rfl ?_)))
  refine fld_at (ld1_at h3 1 rfl rfl (fld_at (ld1_at h3 0 rfl rfl ?_)))
  refine fld_at (ld1_at h3 1 rfl rfl (fld_at (ld1_at h3 0 rfl rfl ?_)))
  refine compare_s ⟨ld1_at h3 0 rfl rfl ⟨rfl, rfl⟩, ld1_at h3 1 rfl rfl ⟨rfl, rfl⟩, ld1_at h3 0 rfl rfl ⟨rfl, rfl⟩, ld1_at h3 1 rfl rfl ⟨rfl, rfl⟩, ?_⟩
  refine compare_s ⟨ld1_at h3 0 rfl rfl ⟨rfl, rfl⟩, ld1_at h3 1 rfl rfl ⟨rfl, rfl⟩, ?_⟩
  refine compare_s ?_
  refine bsl_s (ints [cmpI a.T b.T, cmpI a.From b.From, cmpI a.Seq b.Seq]) h3 (by kernel_rfl) fun b20 w4 h4 => ?_
  refine or_s h4 (l := [cmpI a.T b.T, cmpI a.From b.From, cmpI a.Seq b.Seq]) (blk_rdn (f := intsK .i64) [cmpI a.T b.T, cmpI a.From b.From, cmpI a.Seq b.Seq] rfl (Nat.le_refl _)) (by simp) fun w5 h5 => ?_
  have h6 := hk w5 (h5.drop.drop.drop)
  have e1 : ([cmpI a.T b.T, cmpI a.From b.From, cmpI a.Seq b.Seq].find? (fun n => decide (n ≠ 0))).getD 0 = cmpK a b := by
    unfold cmpK
    by_cases h1 : cmpI a.T b.T = 0
    · by_cases h2 : cmpI a.From b.From = 0
      · by_cases h3 : cmpI a.Seq b.Seq = 0 <;> simp [h1, h2, h3]
      · simp [h1, h2]
    · simp [h1]
  rw [e1]
  exact h6
end Go.Proofs.YtmgaooeeddmbmaaGreatDoor
