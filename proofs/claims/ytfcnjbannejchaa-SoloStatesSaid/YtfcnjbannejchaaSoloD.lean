/- config.Check over a federation that reads from memory: a federate, the whole. Conditions: the lists are short. -/
import Derived.Test.YtfcnjbannejchaaSoloC
namespace Go.Proofs.Ytfcnjbannejchaa
open Go Go.E
set_option maxRecDepth 100000
variable {e w : World} {L R : List HP} {K : KV} {S : HP}

/-- Each list of a federate is short. -/
structure FedX.short (f : FedX) : Prop where
  pubs : f.Pubs.length ≤ 1000
  subs : f.Subs.length ≤ 1000
  init : f.Init.length ≤ 1000
  rules : f.Rules.length ≤ 1000
  sends : ∀ r ∈ f.Rules, r.Sends.length ≤ 1000
theorem rising_drop {most lo : Int} : ∀ {l : List Int}, rising most lo l ↔ ∀ (i : Nat) c, l[i]? = some c → (if i = 0 then lo else l.getD (i - 1) 0) < c ∧ c < most := by
  intro l
  induction l generalizing lo with
  | nil => simp [rising]
  | cons a l ih =>
    unfold rising
    rw [ih]
    constructor
    · rintro ⟨h1, h2, h3⟩ i c hc
      match i with
      | 0 => simp at hc; subst hc; exact ⟨h1, h2⟩
      | 1 => have := h3 0 c (by simpa using hc); simpa using this
      | i + 2 => have := h3 (i + 1) c (by simpa using hc); simpa using this
    · intro h
      refine ⟨(h 0 a rfl).1, (h 0 a rfl).2, fun i c hc => ?_⟩
      match i with
      | 0 => have := h 1 c (by simpa using hc); simpa using this
      | i + 1 => have := h (i + 2) c (by simpa using hc); simpa using this
open Classical in
theorem rising_s {v : Value} {l : List Int} {most : Int} {b : Nat} (i k : Nat) (hi : L[i]? = some S) (hb : L[k]? = some (blk b 3 [.int .i64 most])) (hS : Sat e w L) (hr : ∀ g, S g → rdS 1 (intsK .i64) v l g) (hl : l.length ≤ 1000)
    (hk : K (.bool (decide (rising most (-1) l))) w) : clV prog (.func (.func 67) #[] #[.pointer (some ⟨b, 0, none⟩)]) #[v] w K := by
  refine ⟨_, _, _, rfl, ?_⟩
  refine config_fed_1_calls (t0 := v) (t1 := .pointer (some ⟨b, 0, none⟩)) ?_
  unfold config_fed_1
  have hbad : ¬ rising most (-1) l → K (.bool false) w := fun h => by rw [decide_eq_false h] at hk; exact hk
  refine lnS_rd hS i hi hr ?_
  refine lpi2 (fun q t4 t9 w' => ∃ j : Nat, j ≤ l.length ∧ t9 = .int .i64 j ∧ t4 = .int .i64 (if j = 0 then -1 else l.getD (j - 1) 0) ∧ q = l.length - j ∧ (∀ (i : Nat) c, i < j → l[i]? = some c → (if i = 0 then -1 else l.getD (i - 1) 0) < c ∧ c < most) ∧ w' = w) l.length ⟨0, Nat.zero_le _, rfl, rfl, rfl, fun _ _ h => absurd h (by omega), rfl⟩ ?_
  rintro q _ _ w' g ⟨j, hj, rfl, rfl, rfl, hno, rfl⟩ hg
  refine lt_c (fun c => iff_t ?_) (fun c => iff_f ?_)
  · obtain ⟨y, hy⟩ := get_of_lt (l := l) (j := j) (by omega)
    refine ixS_rd hS i hi hr (fun _ => rfl) hy fun a ha => ?_
    refine ld1_of hS i hi ha (v := .int .i64 y) rfl ?_
    generalize hlo : (if j = 0 then (-1 : Int) else l.getD (j - 1) 0) = lo
    by_cases c1 : y ≤ lo
    · repeat (first | refine gd_tt ?_ | refine gd_ff ?_ | refine gd_tf ?_ | refine gd_ft ?_ | refine gd_u ?_ | refine pk_t ?_ | refine pk_f ?_ | refine iff_t ?_ | refine iff_f ?_ | refine not_t ?_ | refine not_f ?_ | refine beq_s ?_ | refine bne_s ?_ | refine ncP_p ?_ | refine nc_p ?_ | refine fld_at ?_ | refine xt_02 ?_ | refine xt_12 ?_ | refine xt_03 ?_ | refine xt_13 ?_ | refine xt_23 ?_ | refine eq_t (by omega) ?_ | refine eq_f (by omega) ?_ | refine ne_t (by omega) ?_ | refine ne_f (by omega) ?_ | refine lt_t (by omega) ?_ | refine lt_f (by omega) ?_ | refine gt_t (by omega) ?_ | refine gt_f (by omega) ?_ | refine ge_t (by omega) ?_ | refine ge_f (by omega) ?_ | refine le_t (by omega) ?_ | refine le_f (by omega) ?_)
      refine hbad fun h => ?_
      have := (rising_drop.1 h j y hy).1
      omega
    refine le_f c1 ?_
    repeat (first | refine gd_tt ?_ | refine gd_ff ?_ | refine gd_tf ?_ | refine gd_ft ?_ | refine gd_u ?_ | refine pk_t ?_ | refine pk_f ?_ | refine iff_t ?_ | refine iff_f ?_ | refine not_t ?_ | refine not_f ?_ | refine beq_s ?_ | refine bne_s ?_ | refine ncP_p ?_ | refine nc_p ?_ | refine fld_at ?_ | refine xt_02 ?_ | refine xt_12 ?_ | refine xt_03 ?_ | refine xt_13 ?_ | refine xt_23 ?_ | refine eq_t (by omega) ?_ | refine eq_f (by omega) ?_ | refine ne_t (by omega) ?_ | refine ne_f (by omega) ?_ | refine lt_t (by omega) ?_ | refine lt_f (by omega) ?_ | refine gt_t (by omega) ?_ | refine gt_f (by omega) ?_ | refine ge_t (by omega) ?_ | refine ge_f (by omega) ?_ | refine le_t (by omega) ?_ | refine le_f (by omega) ?_)
    refine ld1_at hS k hb rfl ?_
    by_cases c2 : most ≤ y
    · repeat (first | refine gd_tt ?_ | refine gd_ff ?_ | refine gd_tf ?_ | refine gd_ft ?_ | refine gd_u ?_ | refine pk_t ?_ | refine pk_f ?_ | refine iff_t ?_ | refine iff_f ?_ | refine not_t ?_ | refine not_f ?_ | refine beq_s ?_ | refine bne_s ?_ | refine ncP_p ?_ | refine nc_p ?_ | refine fld_at ?_ | refine xt_02 ?_ | refine xt_12 ?_ | refine xt_03 ?_ | refine xt_13 ?_ | refine xt_23 ?_ | refine eq_t (by omega) ?_ | refine eq_f (by omega) ?_ | refine ne_t (by omega) ?_ | refine ne_f (by omega) ?_ | refine lt_t (by omega) ?_ | refine lt_f (by omega) ?_ | refine gt_t (by omega) ?_ | refine gt_f (by omega) ?_ | refine ge_t (by omega) ?_ | refine ge_f (by omega) ?_ | refine le_t (by omega) ?_ | refine le_f (by omega) ?_)
      refine hbad fun h => ?_
      have := (rising_drop.1 h j y hy).2
      omega
    refine gd_ff (ge_f (by omega) (pk_f (iff_f (inc_s (by omega) ?_))))
    refine hg _ _ _ _ (by omega) ⟨j + 1, by omega, rfl, ?_, rfl, fun i c hi hc => ?_, rfl⟩
    · rw [if_neg (by omega), Nat.add_sub_cancel, List.getD_eq_getElem?_getD, hy]
      rfl
    · by_cases h : i = j
      · subst h
        rw [hy] at hc
        cases hc
        rw [hlo]
        omega
      · exact hno i c (by omega) hc
  · have ej : j = l.length := by omega
    rw [decide_eq_true (rising_drop.2 fun i c hc => hno i c (by have := (List.getElem?_eq_some_iff.1 hc).1; omega) hc)] at hk
    exact hk

/-! ### The rules' sends -/
theorem sendsE_cons (f : Fed) (o : Out) (l : List Out) : sendsE f (o :: l) = if o.Class ∉ f.Pubs then 81 else if o.Delay < f.Look then 80 else sendsE f l := rfl
theorem rulesE_cons (f : Fed) (most : Int) (r : Rule) (l : List Rule) : rulesE f most (r :: l) = if most ≤ r.Class then 81 else if sendsE f r.Sends ≠ 0 then sendsE f r.Sends else rulesE f most l := rfl
theorem sendsE_app (f : Fed) : ∀ (a b : List Out), sendsE f a = 0 → sendsE f (a ++ b) = sendsE f b
  | [], _, _ => rfl
  | o :: a, b, h => by
    rw [sendsE_cons] at h
    rw [List.cons_append, sendsE_cons]
    split at h
    · cases h
    · rename_i h1
      split at h
      · cases h
      · rename_i h2
        rw [if_neg h1, if_neg h2]
        exact sendsE_app f a b h
theorem rulesE_app (f : Fed) (most : Int) : ∀ (a b : List Rule), rulesE f most a = 0 → rulesE f most (a ++ b) = rulesE f most b
  | [], _, _ => rfl
  | r :: a, b, h => by
    rw [rulesE_cons] at h
    rw [List.cons_append, rulesE_cons]
    split at h
    · cases h
    · rename_i h1
      split at h
      · rename_i h2
        exact absurd h h2
      · rename_i h2
        rw [if_neg h1, if_neg h2]
        exact rulesE_app f most a b h
theorem take_split {α : Type} {l : List α} {j : Nat} {x : α} (h : l[j]? = some x) : l = l.take j ++ x :: l.drop (j + 1) := by rw [← drop_cons h, List.take_append_drop]
theorem rules_s {f : FedX} {most : Int} {b c : Nat} (i k m : Nat) (hi : L[i]? = some S) (hb : L[k]? = some (blk b 53 f.cs)) (hc : L[m]? = some (blk c 3 [.int .i64 most])) (hS : Sat e w L) (hr : ∀ g, S g → RdFed f g) (hs : f.short)
    (hk : ∀ w', Sat e w' L → K (.int .i64 (rulesE f.f most f.f.Rules)) w') : clV prog (.func (.func 68) #[] #[.pointer (some ⟨b, 0, none⟩), .pointer (some ⟨c, 0, none⟩)]) #[] w K := by
  refine ⟨_, _, _, rfl, ?_⟩
  refine config_fed_2_calls (t0 := .pointer (some ⟨b, 0, none⟩)) (t1 := .pointer (some ⟨c, 0, none⟩)) ?_
  unfold config_fed_2
  rw [zero_55, zero_63]
  refine fld_at (ld1_at hS k hb (v := f.rv) rfl ?_)
  refine lnS_rd hS i hi (fun g hg => (hr g hg).rules.s) ?_
  have hrl := hs.rules
  refine lpi1 (fun q t11 w => ∃ j : Nat, j ≤ f.Rules.length ∧ t11 = .int .i64 j ∧ q = f.Rules.length - j ∧ rulesE f.f most ((f.Rules.take j).map RuleX.r) = 0 ∧ Sat e w L) f.Rules.length ⟨0, Nat.zero_le _, rfl, rfl, rfl, hS⟩ ?_
  rintro q _ w g ⟨j, hj, rfl, rfl, hno, h1⟩ hg
  refine lt_c (fun c0 => iff_t ?_) (fun c0 => iff_f ?_)
  · obtain ⟨r, hrj⟩ := get_of_lt (l := f.Rules) (j := j) (by omega)
    have hrm := List.mem_of_getElem? hrj
    have hsl := hs.sends r hrm
    have hsp : f.f.Rules = (f.Rules.take j).map RuleX.r ++ r.r :: (f.Rules.drop (j + 1)).map RuleX.r := by
      show f.Rules.map RuleX.r = _
      conv => lhs; rw [take_split hrj]
      simp
    have hkE : ∀ w', Sat e w' L → K (.int .i64 (rulesE f.f most (r.r :: (f.Rules.drop (j + 1)).map RuleX.r))) w' := by
      intro w' h'
      have := hk w' h'
      rw [hsp, rulesE_app _ _ _ _ hno] at this
      exact this
    refine ixS_rd h1 i hi (fun g hg => (hr g hg).rules.s) (fun _ => rfl) hrj fun a ha => ?_
    refine ldN_of h1 i hi ha rfl ?_
    have hflat : ∀ c ∈ r.cs, flat c = true := by
      obtain ⟨g, hg, _⟩ := hS.get i hi
      obtain ⟨A, c', hsv, _⟩ := (hr g hg).rules.e r hrm
      intro c hc
      simp only [RuleX.cs, List.mem_cons, List.not_mem_nil, or_false] at hc
      rcases hc with rfl | rfl | rfl | rfl
      · rfl
      · rfl
      · rfl
      · rw [hsv]; rfl
    refine al_s (cs := [.int .i64 0, .int .i64 0, .int .i64 0, .slice none 0 0]) h1 rfl fun t w3 h3 => ?_
    refine stN_at h3 0 rfl (vs := r.cs) rfl rfl (by simp) hflat (cs' := r.cs) (by rfl) fun w4 h4 => ?_
    have hi1 : (blk t 55 r.cs :: L)[i + 1]? = some S := by simpa using hi
    have hb1 : (blk t 55 r.cs :: L)[k + 1]? = some (blk b 53 f.cs) := by simpa using hb
    have hc1 : (blk t 55 r.cs :: L)[m + 1]? = some (blk c 3 [.int .i64 most]) := by simpa using hc
    refine fld_at (ld1_at h4 0 rfl (v := .int .i64 r.Class) rfl ?_)
    refine ld1_at h4 (m + 1) hc1 rfl ?_
    refine ge_c (fun c2 => iff_t ?_) (fun c2 => iff_f ?_)
    · have := hkE _ h4.drop
      rw [rulesE_cons] at this
      rw [if_pos (show most ≤ r.r.Class from c2)] at this
      exact this
    refine fld_at (ld1_at h4 0 rfl (v := r.sv) rfl ?_)
    refine lnS_rd h4 (i + 1) hi1 (fun g hg => (hr g hg).rules.e r hrm) ?_
    refine lpi1 (fun q t22 w => ∃ n : Nat, n ≤ r.Sends.length ∧ t22 = .int .i64 n ∧ q = r.Sends.length - n ∧ sendsE f.f (r.Sends.take n) = 0 ∧ Sat e w (blk t 55 r.cs :: L)) r.Sends.length ⟨0, Nat.zero_le _, rfl, rfl, rfl, h4⟩ ?_
    rintro q _ w g2 ⟨n, hn, rfl, rfl, hso, h5⟩ hg2
    refine lt_c (fun c3 => iff_t ?_) (fun c3 => iff_f ?_)
    · obtain ⟨o, ho⟩ := get_of_lt (l := r.Sends) (j := n) (by omega)
      have hsp2 := take_split ho
      refine ixS_rd h5 (i + 1) hi1 (fun g hg => (hr g hg).rules.e r hrm) (fun _ => rfl) ho fun a ha => ?_
      refine ldN_of h5 (i + 1) hi1 ha rfl ?_
      refine al_s (cs := ints [0, 0, 0]) h5 rfl fun t2 w6 h6 => ?_
      refine stN_at h6 0 rfl (vs := o.cs) rfl rfl (by decide) (ints_flat _) (cs' := o.cs) (by rfl) fun w7 h7 => ?_
      refine dr_s h7 fun w8 h8 => ?_
      have hi2 : (blk t2 63 o.cs :: blk t 55 r.cs :: L)[i + 2]? = some S := by simpa using hi
      have hb2 : (blk t2 63 o.cs :: blk t 55 r.cs :: L)[k + 2]? = some (blk b 53 f.cs) := by simpa using hb
      refine fld_at (ld1_at h8 (k + 2) hb2 (v := f.pv) rfl ?_)
      refine fld_at (ld1_at h8 0 rfl (v := .int .i64 o.Class) rfl ?_)
      refine fld_at (ld1_at h8 0 rfl (v := .int .i64 o.Delay) rfl ?_)
      refine fld_at (ld1_at h8 (k + 2) hb2 (v := .int .i64 f.Look) rfl ?_)
      refine ge_d ?_
      refine contains_s (i + 2) hi2 h8 (fun g hg => (hr g hg).pubs) (by have := hs.pubs; omega) ?_
      refine ⟨ld1_at h8 (k + 2) hb2 (v := .int .i64 f.Look) rfl ⟨rfl, rfl⟩, ld1_at h8 0 rfl (v := .int .i64 o.Delay) rfl ⟨rfl, rfl⟩, ?_⟩
      refine unless_s h8 fun c3' d3 w9 h9 => ?_
      have hb3 : (UN c3' d3 (decide (o.Class ∈ f.Pubs)) 81 :: blk t2 63 o.cs :: blk t 55 r.cs :: L)[k + 3]? = some (blk b 53 f.cs) := by simpa using hb
      refine ⟨ld1_at h9 (k + 3) hb3 (v := .int .i64 f.Look) rfl ⟨rfl, rfl⟩, ld1_at h9 1 rfl (v := .int .i64 o.Delay) rfl ⟨rfl, rfl⟩, ?_⟩
      refine unless_s h9 fun c4 d4 w10 h10 => ?_
      refine bsl_s [unV c3' d3, unV c4 d4] h10 (by kernel_rfl) fun bb w11 h11 => ?_
      refine first_s (fs := [unV c3' d3, unV c4 d4]) (Es := [if decide (o.Class ∈ f.Pubs) = true then 0 else 81, if decide (f.Look ≤ o.Delay) = true then 0 else 80]) 0 rfl h11 (blk_rdn (f := fun v => [v]) [unV c3' d3, unV c4 d4] rfl (Nat.le_refl _)) (by simp) rfl (fun j fv E hf hE _ w K hw hK => ?_) fun w12 h12 => ?_
      · match j with
        | 0 =>
          simp only [List.getElem?_cons_zero, Option.some.injEq] at hf hE
          subst hf hE
          exact unless1_s 2 rfl hw (hK _ hw)
        | 1 =>
          simp only [List.getElem?_cons_succ, List.getElem?_cons_zero, Option.some.injEq] at hf hE
          subst hf hE
          exact unless1_s 1 rfl hw (hK _ hw)
        | j + 2 => simp at hf
      · have h13 : Sat e w12 (blk t 55 r.cs :: L) := h12.drop.drop.drop.drop
        have hkS : ∀ E, E ≠ 0 → sendsE f.f (o :: r.Sends.drop (n + 1)) = E → K (.int .i64 E) w12 := by
          intro E hE0 hE
          have := hkE _ h13.drop
          rw [rulesE_cons] at this
          have e1 : sendsE f.f r.r.Sends = E := by
            show sendsE f.f r.Sends = E
            rw [hsp2, sendsE_app _ _ _ hso]
            exact hE
          rw [if_neg (show ¬ most ≤ r.r.Class by simp only [RuleX.r]; omega), e1, if_pos hE0] at this
          exact this
        rw [firstE_cons, firstE_cons, firstE_nil]
        by_cases d1 : o.Class ∈ f.Pubs
        · by_cases d2 : f.Look ≤ o.Delay
          · rw [decide_eq_true d1, decide_eq_true d2]
            simp only [if_true]
            refine ne_f rfl (iff_f (inc_s (by omega) ?_))
            refine hg2 _ _ _ (by omega) ⟨n + 1, by omega, rfl, rfl, ?_, h13⟩
            rw [List.take_add_one, ho, sendsE_app _ _ _ hso]
            show sendsE f.f [o] = 0
            rw [sendsE_cons]
            rw [if_neg (show ¬ o.Class ∉ f.f.Pubs from fun h => h d1), if_neg (show ¬ o.Delay < f.f.Look by simp only [FedX.f]; omega)]
            rfl
          · rw [decide_eq_true d1, decide_eq_false d2]
            refine ne_t (by decide) (iff_t (hkS 80 (by decide) ?_))
            rw [sendsE_cons]
            rw [if_neg (show ¬ o.Class ∉ f.f.Pubs from fun h => h d1), if_pos (show o.Delay < f.f.Look by simp only [FedX.f]; omega)]
        · rw [decide_eq_false d1]
          refine ne_t (by simp) (iff_t (hkS 81 (by decide) ?_))
          rw [sendsE_cons]
          rw [if_pos (show o.Class ∉ f.f.Pubs from d1)]
    · have en : n = r.Sends.length := by omega
      rw [en, List.take_length] at hso
      refine inc_s (by omega) ?_
      refine hg _ _ _ (by omega) ⟨j + 1, by omega, rfl, rfl, ?_, h5.drop⟩
      rw [List.take_add_one, hrj, List.map_append, rulesE_app _ _ _ _ hno]
      show rulesE f.f most [r.r] = 0
      rw [rulesE_cons]
      rw [if_neg (show ¬ most ≤ r.r.Class by simp only [RuleX.r]; omega), if_neg (show ¬ sendsE f.f r.r.Sends ≠ 0 from fun h => h hso)]
      rfl
  · have ej : j = f.Rules.length := by omega
    rw [ej, List.take_length] at hno
    have := hk _ h1
    rw [show f.f.Rules = f.Rules.map RuleX.r from rfl, hno] at this
    exact this
end Go.Proofs.Ytfcnjbannejchaa
