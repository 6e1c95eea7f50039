/- Clocks: what each function of clock does, over what the document's clocks are. Conditions: none. -/
import Derived.Test.YtenglfaeohgkfaaGreatData
import Derived.Test.YtenglfaeohgkfaaGreatPfTy
import Derived.Test.YtenglfaeohgkfaaGreatTimeA
import Derived.Test.YtenglfaeohgkfaaGreatPf0
import Derived.Test.YtenglfaeohgkfaaGreatPf1
import Derived.Test.YtenglfaeohgkfaaGreatPf2
import Derived.Test.YtenglfaeohgkfaaGreatPf3
namespace Go.Proofs.YtenglfaeohgkfaaGreat
open Go Go.E
set_option maxRecDepth 100000

/-- Clocks, as the document has them: of each federate its clock; who oneself is; what was told. -/
structure Clk where
  (L : List Int) (self : Int) (told : Int)
def Clk.okJ (c : Clk) (j : Int) : Prop := 0 ≤ j ∧ j < c.L.length ∧ j ≠ c.self
instance (c : Clk) (j : Int) : Decidable (c.okJ j) := inferInstanceAs (Decidable (_ ∧ _))
def Clk.get (c : Clk) (j : Int) : Int := c.L.getD j.toNat 0
def Clk.at' (c : Clk) (j : Int) : Int := if c.okJ j then c.get j else -1
def Clk.hearE (c : Clk) (j t : Int) : Int := if ¬ c.okJ j ∨ validT t = false then 1 else if t < c.get j then 110 else 0
def Clk.hear (c : Clk) (j t : Int) : Clk := if c.hearE j t = 0 then ⟨c.L.set j.toNat t, c.self, c.told⟩ else c
def Clk.bound (c : Clk) : Int := (List.range c.L.length).foldl (fun (n : Int) (j : Nat) => if (j : Int) = c.self then n else min n (c.get j)) Inf
def Clk.tellT (c : Clk) (first look : Int) : Int := addT (leastT [first, c.bound]) look
def Clk.tell (c : Clk) (first look : Int) : Clk := if c.tellT first look ≤ c.told then c else ⟨c.L, c.self, c.tellT first look⟩
def Clk.tellB (c : Clk) (first look : Int) : Bool := decide (c.told < c.tellT first look)

theorem Clk.hearE_bad {c : Clk} {j t : Int} (h : ¬ c.okJ j ∨ validT t = false) : c.hearE j t = 1 := if_pos h
theorem Clk.hearE_early {c : Clk} {j t : Int} (h : c.okJ j) (hv : validT t = true) (h1 : t < c.get j) : c.hearE j t = 110 := by
  unfold Clk.hearE
  rw [if_neg (by simp [h, hv]), if_pos h1]
theorem Clk.hearE_ok {c : Clk} {j t : Int} (h : c.okJ j) (hv : validT t = true) (h1 : ¬ t < c.get j) : c.hearE j t = 0 := by
  unfold Clk.hearE
  rw [if_neg (by simp [h, hv]), if_neg h1]
theorem Clk.hear_bad {c : Clk} {j t : Int} (h : ¬ c.okJ j ∨ validT t = false) : c.hear j t = c := by
  unfold Clk.hear
  rw [hearE_bad h, if_neg (by decide)]
theorem Clk.hear_early {c : Clk} {j t : Int} (h : c.okJ j) (hv : validT t = true) (h1 : t < c.get j) : c.hear j t = c := by
  unfold Clk.hear
  rw [hearE_early h hv h1, if_neg (by decide)]
theorem Clk.hear_ok {c : Clk} {j t : Int} (h : c.okJ j) (hv : validT t = true) (h1 : ¬ t < c.get j) : c.hear j t = ⟨c.L.set j.toNat t, c.self, c.told⟩ := by
  unfold Clk.hear
  rw [hearE_ok h hv h1, if_pos rfl]

/-- What a bound is. -/
def Clk.IsBound (c : Clk) (b : Int) : Prop := b ≤ Inf ∧ (∀ j, c.okJ j → b ≤ c.get j) ∧ (b = Inf ∨ ∃ j, c.okJ j ∧ b = c.get j)
theorem Clk.IsBound.uniq {c : Clk} {a b : Int} (ha : c.IsBound a) (hb : c.IsBound b) : a = b := by
  obtain ⟨a1, a2, a3⟩ := ha
  obtain ⟨b1, b2, b3⟩ := hb
  have h1 : a ≤ b := by
    rcases b3 with rfl | ⟨j, hj, rfl⟩
    · exact a1
    · exact a2 j hj
  have h2 : b ≤ a := by
    rcases a3 with rfl | ⟨j, hj, rfl⟩
    · exact b1
    · exact b2 j hj
  omega
def Clk.upTo (c : Clk) (n : Nat) : Int := (List.range n).foldl (fun (n : Int) (j : Nat) => if (j : Int) = c.self then n else min n (c.get j)) Inf
theorem Clk.upTo_succ (c : Clk) (n : Nat) : c.upTo (n + 1) = if (n : Int) = c.self then c.upTo n else min (c.upTo n) (c.get n) := by
  simp only [Clk.upTo, List.range_succ, List.foldl_append, List.foldl_cons, List.foldl_nil]
theorem Clk.upTo_spec (c : Clk) : ∀ n : Nat, n ≤ c.L.length → c.upTo n ≤ Inf ∧ (∀ j, c.okJ j → j < n → c.upTo n ≤ c.get j) ∧ (c.upTo n = Inf ∨ ∃ j, c.okJ j ∧ c.upTo n = c.get j)
  | 0, _ => ⟨Int.le_refl _, fun j hj hl => by have := hj.1; omega, .inl (by rfl)⟩
  | n + 1, hn => by
    obtain ⟨h1, h2, h3⟩ := c.upTo_spec n (by omega)
    rw [c.upTo_succ]
    split
    · rename_i hs
      refine ⟨h1, fun j hj hl => h2 j hj ?_, h3⟩
      have := hj.2.2
      omega
    · rename_i hs
      refine ⟨by omega, fun j hj hl => ?_, ?_⟩
      · by_cases hjn : j = n
        · subst hjn; omega
        · have := h2 j hj (by omega); omega
      · by_cases hm : c.upTo n ≤ c.get n
        · rw [Int.min_eq_left hm]; exact h3
        · rw [Int.min_eq_right (by omega)]
          exact .inr ⟨n, ⟨by omega, by omega, hs⟩, rfl⟩
theorem Clk.bound_is (c : Clk) : c.IsBound c.bound := by
  obtain ⟨h1, h2, h3⟩ := c.upTo_spec c.L.length (Nat.le_refl _)
  exact ⟨h1, fun j hj => h2 j hj hj.2.1, h3⟩

def kI : Int → Value := fun n => .int .i64 n
/-- The map that the clocks are kept in. -/
def MapOf (c : Clk) (m : List (Int × Int)) : Prop := Uniq m ∧ ∀ j, lkA m j = if c.okJ j then some (c.get j) else none
def IsClk (g : Nat) (c : Clk) : HP := hex fun p : Nat × List (Int × Int) => sepL [blk g 99 [.map (some p.1), .int .i64 c.told], isMap kI kI p.1 p.2, pur (MapOf c p.2)]

variable {e w : World} {R : List HP} {K : KV}

theorem MapOf.mem {c : Clk} {m : List (Int × Int)} (h : MapOf c m) {p : Int × Int} : p ∈ m ↔ c.okJ p.1 ∧ p.2 = c.get p.1 := by
  have hk := h.2 p.1
  constructor
  · intro hp
    have hf : lkA m p.1 = some p.2 := by
      unfold lkA
      rw [find_uniq h.1 hp]
      rfl
    rw [hf] at hk
    by_cases ho : c.okJ p.1
    · rw [if_pos ho] at hk
      exact ⟨ho, Option.some.inj hk⟩
    · rw [if_neg ho] at hk
      cases hk
  · rintro ⟨ho, he⟩
    rw [if_pos ho] at hk
    unfold lkA at hk
    obtain ⟨q, hq, hv⟩ := Option.map_eq_some_iff.1 hk
    have h1 := List.mem_of_find?_eq_some hq
    have h2 := List.find?_some hq
    simp only [decide_eq_true_eq] at h2
    have : q = p := by cases q; cases p; simp_all
    exact this ▸ h1

theorem MapOf.step {c : Clk} {m : List (Int × Int)} (h : MapOf c m) {j t : Int} (hj : c.okJ j) (told : Int) : MapOf ⟨c.L.set j.toNat t, c.self, told⟩ (upA m j t) := by
  refine ⟨h.1.up j t, fun i => ?_⟩
  rw [lkA_up h.1]
  have hok : ∀ i, Clk.okJ ⟨c.L.set j.toNat t, c.self, told⟩ i ↔ c.okJ i := fun i => by simp [Clk.okJ]
  have hlt : j.toNat < c.L.length := by have := hj.2.1; have := hj.1; omega
  by_cases hij : i = j
  · subst hij
    rw [if_pos rfl, if_pos ((hok _).2 hj)]
    simp [Clk.get, List.getD_eq_getElem?_getD, hlt]
  · rw [if_neg hij, h.2 i]
    by_cases ho : c.okJ i
    · rw [if_pos ho, if_pos ((hok _).2 ho)]
      have hne : j.toNat ≠ i.toNat := by have := ho.1; have := hj.1; omega
      simp [Clk.get, List.getD_eq_getElem?_getD, hne]
    · rw [if_neg ho, if_neg (fun k => ho ((hok _).1 k))]

theorem IsClk.open {g : Nat} {c : Clk} (hS : Sat e w (IsClk g c :: R)) : ∃ b m, MapOf c m ∧ Sat e w (blk g 99 [.map (some b), .int .i64 c.told] :: isMap kI kI b m :: R) := by
  obtain ⟨⟨b, m⟩, h0⟩ := hS.ex
  have h1 := h0.split
  have h2 := h1.pick 2 rfl
  obtain ⟨h3, h4⟩ := h2.pure
  exact ⟨b, m, h3, h4⟩
theorem IsClk.close {g b : Nat} {c : Clk} {m : List (Int × Int)} (h : MapOf c m) (hS : Sat e w (blk g 99 [.map (some b), .int .i64 c.told] :: isMap kI kI b m :: R)) : Sat e w (IsClk g c :: R) := by
  refine .mk_ex (b, m) (.join (l' := [_, _, _]) ?_)
  exact (Sat.mk_pure h hS).selR [_, _, _] [_, _, _] [1, 2, 0] (by decide) rfl

theorem clock_New_bad {n self : Int} (hb : n < 1 ∨ 8 < n ∨ self < 0 ∨ n ≤ self) (hk : K (.tuple #[.pointer none, .int .i64 1]) w) : Cl prog 29 #[.int .i64 n, .int .i64 self] w K := by
  refine clock_New_calls ?_
  unfold clock_New
  refine lt_c (fun c1 => ?_) (fun c1 => ?_)
  · repeat (first | refine gd_tt ?_ | refine gd_ff ?_ | refine gd_tf ?_ | refine gd_ft ?_ | refine gd_u ?_ | refine pk_t ?_ | refine pk_f ?_ | refine iff_t ?_ | refine iff_f ?_ | refine not_t ?_ | refine not_f ?_ | refine beq_s ?_ | refine bne_s ?_ | refine ncP_p ?_ | refine nc_p ?_ | refine fld_at ?_ | refine xt_02 ?_ | refine xt_12 ?_ | refine xt_03 ?_ | refine xt_13 ?_ | refine xt_23 ?_ | refine eq_t (by omega) ?_ | refine eq_f (by omega) ?_ | refine ne_t (by omega) ?_ | refine ne_f (by omega) ?_ | refine lt_t (by omega) ?_ | refine lt_f (by omega) ?_ | refine gt_t (by omega) ?_ | refine gt_f (by omega) ?_ | refine ge_t (by omega) ?_ | refine ge_f (by omega) ?_ | refine le_t (by omega) ?_ | refine le_f (by omega) ?_)
    exact hk
  · refine gd_ff (gd_ff (gt_c (fun c2 => ?_) (fun c2 => ?_)))
    · repeat (first | refine gd_tt ?_ | refine gd_ff ?_ | refine gd_tf ?_ | refine gd_ft ?_ | refine gd_u ?_ | refine pk_t ?_ | refine pk_f ?_ | refine iff_t ?_ | refine iff_f ?_ | refine not_t ?_ | refine not_f ?_ | refine beq_s ?_ | refine bne_s ?_ | refine ncP_p ?_ | refine nc_p ?_ | refine fld_at ?_ | refine xt_02 ?_ | refine xt_12 ?_ | refine xt_03 ?_ | refine xt_13 ?_ | refine xt_23 ?_ | refine eq_t (by omega) ?_ | refine eq_f (by omega) ?_ | refine ne_t (by omega) ?_ | refine ne_f (by omega) ?_ | refine lt_t (by omega) ?_ | refine lt_f (by omega) ?_ | refine gt_t (by omega) ?_ | refine gt_f (by omega) ?_ | refine ge_t (by omega) ?_ | refine ge_f (by omega) ?_ | refine le_t (by omega) ?_ | refine le_f (by omega) ?_)
      exact hk
    · refine pk_f (gd_ff (gd_ff (lt_c (fun c3 => ?_) (fun c3 => ?_))))
      · repeat (first | refine gd_tt ?_ | refine gd_ff ?_ | refine gd_tf ?_ | refine gd_ft ?_ | refine gd_u ?_ | refine pk_t ?_ | refine pk_f ?_ | refine iff_t ?_ | refine iff_f ?_ | refine not_t ?_ | refine not_f ?_ | refine beq_s ?_ | refine bne_s ?_ | refine ncP_p ?_ | refine nc_p ?_ | refine fld_at ?_ | refine xt_02 ?_ | refine xt_12 ?_ | refine xt_03 ?_ | refine xt_13 ?_ | refine xt_23 ?_ | refine eq_t (by omega) ?_ | refine eq_f (by omega) ?_ | refine ne_t (by omega) ?_ | refine ne_f (by omega) ?_ | refine lt_t (by omega) ?_ | refine lt_f (by omega) ?_ | refine gt_t (by omega) ?_ | refine gt_f (by omega) ?_ | refine ge_t (by omega) ?_ | refine ge_f (by omega) ?_ | refine le_t (by omega) ?_ | refine le_f (by omega) ?_)
        exact hk
      · repeat (first | refine gd_tt ?_ | refine gd_ff ?_ | refine gd_tf ?_ | refine gd_ft ?_ | refine gd_u ?_ | refine pk_t ?_ | refine pk_f ?_ | refine iff_t ?_ | refine iff_f ?_ | refine not_t ?_ | refine not_f ?_ | refine beq_s ?_ | refine bne_s ?_ | refine ncP_p ?_ | refine nc_p ?_ | refine fld_at ?_ | refine xt_02 ?_ | refine xt_12 ?_ | refine xt_03 ?_ | refine xt_13 ?_ | refine xt_23 ?_ | refine eq_t (by omega) ?_ | refine eq_f (by omega) ?_ | refine ne_t (by omega) ?_ | refine ne_f (by omega) ?_ | refine lt_t (by omega) ?_ | refine lt_f (by omega) ?_ | refine gt_t (by omega) ?_ | refine gt_f (by omega) ?_ | refine ge_t (by omega) ?_ | refine ge_f (by omega) ?_ | refine le_t (by omega) ?_ | refine le_f (by omega) ?_)
        exact hk

theorem clock_New_s {n : Nat} {self : Int} (h1 : 1 ≤ n) (h2 : n ≤ 8) (h3 : 0 ≤ self) (h4 : self < n) (hS : Sat e w R)
    (hk : ∀ g w', Sat e w' (IsClk g ⟨List.replicate n 0, self, 0⟩ :: R) → K (.tuple #[.pointer (some ⟨g, 0, none⟩), .int .i64 0]) w') : Cl prog 29 #[.int .i64 n, .int .i64 self] w K := by
  refine clock_New_calls ?_
  unfold clock_New
  repeat (first | refine gd_tt ?_ | refine gd_ff ?_ | refine gd_tf ?_ | refine gd_ft ?_ | refine gd_u ?_ | refine pk_t ?_ | refine pk_f ?_ | refine iff_t ?_ | refine iff_f ?_ | refine not_t ?_ | refine not_f ?_ | refine beq_s ?_ | refine bne_s ?_ | refine ncP_p ?_ | refine nc_p ?_ | refine fld_at ?_ | refine xt_02 ?_ | refine xt_12 ?_ | refine xt_03 ?_ | refine xt_13 ?_ | refine xt_23 ?_ | refine eq_t (by omega) ?_ | refine eq_f (by omega) ?_ | refine ne_t (by omega) ?_ | refine ne_f (by omega) ?_ | refine lt_t (by omega) ?_ | refine lt_f (by omega) ?_ | refine gt_t (by omega) ?_ | refine gt_f (by omega) ?_ | refine ge_t (by omega) ?_ | refine ge_f (by omega) ?_ | refine le_t (by omega) ?_ | refine le_f (by omega) ?_)
  refine mkMap_s kI kI hS fun b w1 hm => ?_
  rw [zero_99]
  refine bld_s [.map (some b), .int .i64 0] (by rfl) ?_
  refine al_s (cs := [.map (some b), .int .i64 0]) hm rfl fun g w2 hg => ?_
  refine lp1 (fun t27 w => ∃ j : Nat, j ≤ n ∧ t27 = .int .i64 j ∧ ∃ m : List (Int × Int), (Uniq m ∧ ∀ i, lkA m i = if 0 ≤ i ∧ i < (j : Int) ∧ i ≠ self then some 0 else none) ∧
    Sat e w (blk g 99 [.map (some b), .int .i64 0] :: isMap kI kI b m :: R)) (fun t27 _ => n - nOf t27) ⟨0, Nat.zero_le _, rfl, [], ⟨List.Pairwise.nil, fun i => ?_⟩, hg⟩ ?_
  · rw [if_neg (by omega)]; rfl
  rintro _ w g1 ⟨j, hj, rfl, m, ⟨hu, hl⟩, h0⟩ hg
  refine lt_c (fun c => ?_) (fun c => ?_)
  · refine iff_t ?_
    refine J0.cut (fun w => ∃ m : List (Int × Int), (Uniq m ∧ ∀ i, lkA m i = if 0 ≤ i ∧ i < ((j + 1 : Nat) : Int) ∧ i ≠ self then some 0 else none) ∧ Sat e w (blk g 99 [.map (some b), .int .i64 0] :: isMap kI kI b m :: R)) (fun k hcut => ?_) (fun w hA => ?_)
    · refine ne_c (fun c2 => ?_) (fun c2 => ?_)
      · refine iff_t (ncP_p (fld_at ?_))
        refine ld1_at h0 0 rfl rfl ?_
        refine upM_s keyT_97 mapT_97 hu h0.swap (j : Int) (0 : Int) (vf := kI) rfl fun w3 h3 => ?_
        refine hcut _ ⟨upA m j 0, ⟨hu.up _ _, fun i => ?_⟩, h3.swap⟩
        rw [lkA_up hu, hl]
        by_cases hij : i = j
        · subst hij
          rw [if_pos rfl, if_pos (by omega)]
        · rw [if_neg hij]
          by_cases hq : 0 ≤ i ∧ i < (j : Int) ∧ i ≠ self
          · rw [if_pos hq, if_pos (by omega)]
          · rw [if_neg hq, if_neg (by omega)]
      · refine iff_f (hcut _ ⟨m, ⟨hu, fun i => ?_⟩, h0⟩)
        rw [hl]
        by_cases hq : 0 ≤ i ∧ i < (j : Int) ∧ i ≠ self
        · rw [if_pos hq, if_pos (by omega)]
        · rw [if_neg hq, if_neg (by omega)]
    · obtain ⟨m', hm', h3⟩ := hA
      refine inc_s (by omega) ?_
      exact hg _ _ ⟨j + 1, by omega, rfl, m', hm', h3⟩ (by simp [nOf]; omega)
  · refine iff_f (hk _ _ (IsClk.close (m := m) ⟨hu, fun i => ?_⟩ h0))
    obtain rfl : j = n := by omega
    rw [hl]
    have : (Clk.okJ ⟨List.replicate j 0, self, 0⟩ i) ↔ (0 ≤ i ∧ i < (j : Int) ∧ i ≠ self) := by simp [Clk.okJ]
    by_cases hq : 0 ≤ i ∧ i < (j : Int) ∧ i ≠ self
    · rw [if_pos hq, if_pos (this.2 hq)]
      simp only [Clk.get, List.getD_eq_getElem?_getD, List.getElem?_replicate]
      split <;> rfl
    · rw [if_neg hq, if_neg (fun k => hq (this.1 k))]

theorem clock_At_s {g : Nat} {c : Clk} {j : Int} (hS : Sat e w (IsClk g c :: R)) (hk : K (.int .i64 (c.at' j)) w) : Cl prog 36 #[.pointer (some ⟨g, 0, none⟩), .int .i64 j] w K := by
  obtain ⟨b, m, hm, h1⟩ := IsClk.open hS
  refine clock_Clocks_At_calls ?_
  unfold clock_Clocks_At
  refine ncP_p (fld_at ?_)
  refine ld1_at h1 0 rfl rfl ?_
  refine lkM_s keyT_97 mapT_97 h1 1 rfl j ?_
  rw [hm.2 j]
  unfold Clk.at' at hk
  by_cases ho : c.okJ j
  · rw [if_pos ho] at hk ⊢
    exact xt_s rfl (xt_s rfl (iff_t hk))
  · rw [if_neg ho] at hk ⊢
    exact xt_s rfl (xt_s rfl (iff_f hk))

theorem clock_Hear_s {g : Nat} {c : Clk} {j t : Int} (ht : In64 t) (hS : Sat e w (IsClk g c :: R)) (hk : ∀ w', Sat e w' (IsClk g (c.hear j t) :: R) → K (.int .i64 (c.hearE j t)) w') : Cl prog 35 #[.pointer (some ⟨g, 0, none⟩), .int .i64 j, .int .i64 t] w K := by
  obtain ⟨b, m, hm, h1⟩ := IsClk.open hS
  refine clock_Clocks_Hear_calls ?_
  unfold clock_Clocks_Hear
  refine ncP_p (fld_at ?_)
  refine ld1_at h1 0 rfl rfl ?_
  refine lkM_s keyT_97 mapT_97 h1 1 rfl j ?_
  rw [hm.2 j]
  by_cases ho : c.okJ j
  · rw [if_pos ho]
    refine xt_s rfl (xt_s rfl (not_t (gd_ff (gd_ff (vtime_Valid_s ht (gd_ff ?_))))))
    cases hv : validT t with
    | false =>
      rw [Clk.hear_bad (Or.inr hv), Clk.hearE_bad (Or.inr hv)] at hk
      exact not_f (pk_f (iff_t (hk _ hS)))
    | true =>
      refine not_t (pk_f (iff_f ?_))
      refine lt_c (fun c1 => ?_) (fun c1 => ?_)
      · rw [Clk.hear_early ho hv c1, Clk.hearE_early ho hv c1] at hk
        exact iff_t (hk _ hS)
      · rw [Clk.hear_ok ho hv c1, Clk.hearE_ok ho hv c1] at hk
        refine iff_f (ncP_p (fld_at ?_))
        refine ld1_at h1 0 rfl rfl ?_
        refine upM_s keyT_97 mapT_97 hm.1 h1.swap j t (vf := kI) rfl fun w3 h3 => ?_
        exact hk _ (IsClk.close (c := ⟨c.L.set j.toNat t, c.self, c.told⟩) (hm.step ho c.told) h3.swap)
  · rw [if_neg ho]
    rw [Clk.hear_bad (Or.inl ho), Clk.hearE_bad (Or.inl ho)] at hk
    refine xt_s rfl (xt_s rfl (not_f (gd_tf (gd_tf (gd_tf (pk_t (iff_t ?_)))))))
    exact hk _ hS

theorem clock_Bound1_s {b : Nat} {a t : Int} (hS : Sat e w (blk b 3 [.int .i64 a] :: R)) (hk : ∀ w', Sat e w' (blk b 3 [.int .i64 (min a t)] :: R) → K (.tuple #[]) w') : Cl prog 48 #[.int .i64 t, .pointer (some ⟨b, 0, none⟩)] w K := by
  refine clock_Clocks_Bound_1_calls ?_
  unfold clock_Clocks_Bound_1
  refine ld1_at hS 0 rfl rfl ?_
  refine min_s ?_
  refine stN_at hS 0 rfl (vs := [.int .i64 (min a t)]) rfl rfl (by simp) (by simp [flat]) (cs' := [.int .i64 (min a t)]) (by rfl) fun w' h' => ?_
  exact hk _ h'

theorem clock_Bound_s {g : Nat} {c : Clk} (hS : Sat e w (IsClk g c :: R)) (hk : ∀ w', Sat e w' (IsClk g c :: R) → K (.int .i64 c.bound) w') : Cl prog 14 #[.pointer (some ⟨g, 0, none⟩)] w K := by
  obtain ⟨b, m, hm, h1⟩ := IsClk.open hS
  refine clock_Clocks_Bound_calls ?_
  unfold clock_Clocks_Bound
  rw [zero_3]
  refine al_s (cs := [.int .i64 0]) h1 rfl fun x w2 h2 => ?_
  refine stN_at h2 0 rfl (vs := [.int .i64 Inf]) rfl rfl (by simp) (by simp [flat]) (cs' := [.int .i64 Inf]) (by rfl) fun w3 h3 => ?_
  refine ncP_p (fld_at ?_)
  refine ld1_at h3 1 rfl rfl ?_
  refine rgM_s und_97 (h3.pick 2 rfl) fun r w4 h4 => ?_
  refine lpi0 (fun n w => ∃ (a : Int) (rem : List (Int × Int)) (cur : Option (Int × Int)), Sat e w (rngM kI kI b r m rem cur :: blk x 3 [.int .i64 a] :: blk g 99 [.map (some b), .int .i64 c.told] :: R) ∧
    a ≤ Inf ∧ (∀ p ∈ m, p ∈ rem ∨ a ≤ p.2) ∧ (∀ p ∈ rem, p ∈ m) ∧ (a = Inf ∨ ∃ p ∈ m, a = p.2) ∧ n = rem.length) m.length ⟨Inf, m, none, h4, Int.le_refl _, fun p hp => .inl hp, fun p hp => hp, .inl rfl, rfl⟩ ?_
  rintro n w g1 ⟨a, rem, cur, h5, i1, i2, i3, i4, rfl⟩ hg
  refine nxM_s h5 (fun hr w6 h6 => ?_) (fun i p w6 hp h6 => ?_)
  · refine xt_s rfl (iff_f ?_)
    refine ld1_at h6 1 rfl rfl ?_
    have hb : a = c.bound := by
      refine Clk.IsBound.uniq ⟨i1, fun j hj => ?_, ?_⟩ c.bound_is
      · rcases i2 (j, c.get j) (hm.mem.2 ⟨hj, rfl⟩) with h | h
        · rw [hr] at h; cases h
        · exact h
      · rcases i4 with h | ⟨p, hp, h⟩
        · exact .inl h
        · have := hm.mem.1 hp
          exact .inr ⟨p.1, this.1, h.trans this.2⟩
    subst hb
    refine hk _ (IsClk.close (b := b) hm ?_)
    have h7 := h6.imp rngM_map
    exact h7.selR [_, _, _] [_, _] [2, 0] (by decide) rfl
  · refine xt_s rfl (iff_t ?_)
    refine enM_s 0 h6 rfl ?_
    refine xt_s rfl ?_
    refine ⟨_, _, _, rfl, clock_Bound1_s (h6.swap) fun w7 h7 => ?_⟩
    have hil := (List.getElem?_eq_some_iff.1 hp).1
    have hpm : p ∈ rem := List.mem_of_getElem? hp
    refine hg _ _ ?_ ⟨min a p.2, rem.eraseIdx i, some p, h7.swap, by omega, fun q hq => ?_, fun q hq => i3 q (List.mem_of_mem_eraseIdx hq), ?_, rfl⟩
    · rw [List.length_eraseIdx_of_lt hil]; omega
    · rcases i2 q hq with h | h
      · rw [List.mem_eraseIdx_iff_getElem?]
        obtain ⟨k, hk', hqk⟩ := List.getElem_of_mem h
        by_cases hki : k = i
        · subst hki
          rw [List.getElem?_eq_getElem hk', hqk] at hp
          cases hp
          exact .inr (by omega)
        · exact .inl ⟨k, hki, by rw [List.getElem?_eq_getElem hk', hqk]⟩
      · exact .inr (by omega)
    · by_cases hm2 : a ≤ p.2
      · rw [Int.min_eq_left hm2]; exact i4
      · rw [Int.min_eq_right (by omega)]
        exact .inr ⟨p, i3 p hpm, rfl⟩

theorem clock_Tell_s {g : Nat} {c : Clk} {first look : Int} (hS : Sat e w (IsClk g c :: R)) (hk : ∀ w', Sat e w' (IsClk g (c.tell first look) :: R) → K (.tuple #[.int .i64 (c.tell first look).told, .bool (c.tellB first look)]) w') :
    Cl prog 51 #[.pointer (some ⟨g, 0, none⟩), .int .i64 first, .int .i64 look] w K := by
  refine clock_Clocks_Tell_calls ?_
  unfold clock_Clocks_Tell
  refine clock_Bound_s hS fun w1 h1 => ?_
  refine bsl_s [.int .i64 first, .int .i64 c.bound] h1 (by rw [zero_3]; kernel_rfl) fun b w2 h2 => ?_
  refine vtime_Least_s (l := [first, c.bound]) h2 (blk_rdn (size := 1) (f := intsK .i64) [first, c.bound] rfl (Nat.le_refl _)) (by simp) fun w3 h3 => ?_
  refine vtime_Add_s ?_
  obtain ⟨m, x, hm, h4⟩ := IsClk.open h3.drop
  refine ncP_p (fld_at ?_)
  refine ld1_at h4 0 rfl rfl ?_
  refine le_c (fun c1 => ?_) (fun c1 => ?_)
  · refine iff_t (ncP_p (fld_at ?_))
    refine ld1_at h4 0 rfl rfl ?_
    have h5 : c.tell first look = c := if_pos c1
    have h6 : c.tellB first look = false := decide_eq_false (show ¬ c.told < c.tellT first look from by have : c.tellT first look ≤ c.told := c1; omega)
    rw [h5, h6] at hk
    exact hk _ h3.drop
  · have h5 : c.tell first look = ⟨c.L, c.self, c.tellT first look⟩ := if_neg c1
    have h6 : c.tellB first look = true := decide_eq_true (show c.told < c.tellT first look from by have : ¬ c.tellT first look ≤ c.told := c1; omega)
    rw [h5, h6] at hk
    refine iff_f (ncP_p (fld_at ?_))
    refine stN_at h4 0 rfl (vs := [.int .i64 (c.tellT first look)]) rfl rfl (by simp) (by simp [flat]) (cs' := [.map (some m), .int .i64 (c.tellT first look)]) (by rfl) fun w5 h5 => ?_
    exact hk _ (IsClk.close (c := ⟨c.L, c.self, c.tellT first look⟩) (m := x) ⟨hm.1, hm.2⟩ h5)
end Go.Proofs.YtenglfaeohgkfaaGreat
