/- config.Check over a federation that reads from memory: a federate, the whole. Conditions: the lists are short. config.Check: a federate, a federation. Conditions: the lists are short. -/
import Derived.Test.YtenglfaeohgkfaaGreatSoloC
namespace Go.Proofs.YtenglfaeohgkfaaGreat
open Go Go.E
set_option maxRecDepth 100000
variable {e w : World} {L R : List HP} {K : KV} {S : HP}

/-- Each list of a federate is short. -/
structure FedX.short (f : FedX) : Prop where
  pubs : f.Pubs.length ≤ 1000
  subs : f.Subs.length ≤ 1000
  init : f.Init.length ≤ 1000
  rules : f.Rules.length ≤ 1000
  sends : ∀ r ∈ f.Rules, r.Sends.length ≤ 1000
theorem rising_drop {most lo : Int} : ∀ {l : List Int}, rising most lo l ↔ ∀ (i : Nat) c, l[i]? = some c → (if i = 0 then lo else l.getD (i - 1) 0) < c ∧ c < most := by
  intro l
  induction l generalizing lo with
  | nil => simp [rising]
  | cons a l ih =>
    unfold rising
    rw [ih]
    constructor
    · rintro ⟨h1, h2, h3⟩ i c hc
      match i with
      | 0 => simp at hc; subst hc; exact ⟨h1, h2⟩
      | 1 => have := h3 0 c (by simpa using hc); simpa using this
      | i + 2 => have := h3 (i + 1) c (by simpa using hc); simpa using this
    · intro h
      refine ⟨(h 0 a rfl).1, (h 0 a rfl).2, fun i c hc => ?_⟩
      match i with
      | 0 => have := h 1 c (by simpa using hc); simpa using this
      | i + 1 => have := h (i + 2) c (by simpa using hc); simpa using this
open Classical in
theorem rising_s {v : Value} {l : List Int} {most : Int} {b : Nat} (i k : Nat) (hi : L[i]? = some S) (hb : L[k]? = some (blk b 3 [.int .i64 most])) (hS : Sat e w L) (hr : ∀ g, S g → rdS 1 (intsK .i64) v l g) (hl : l.length ≤ 1000)
    (hk : K (.bool (decide (rising most (-1) l))) w) : clV prog (.func (.func 91) #[] #[.pointer (some ⟨b, 0, none⟩)]) #[v] w K := by
  refine ⟨_, _, _, rfl, ?_⟩
  refine config_fed_1_calls (t0 := v) (t1 := .pointer (some ⟨b, 0, none⟩)) ?_
  unfold config_fed_1
  have hbad : ¬ rising most (-1) l → K (.bool false) w := fun h => by rw [decide_eq_false h] at hk; exact hk
  refine lnS_rd hS i hi hr ?_
  refine lpi2 (fun q t4 t9 w' => ∃ j : Nat, j ≤ l.length ∧ t9 = .int .i64 j ∧ t4 = .int .i64 (if j = 0 then -1 else l.getD (j - 1) 0) ∧ q = l.length - j ∧ (∀ (i : Nat) c, i < j → l[i]? = some c → (if i = 0 then -1 else l.getD (i - 1) 0) < c ∧ c < most) ∧ w' = w) l.length ⟨0, Nat.zero_le _, rfl, rfl, rfl, fun _ _ h => absurd h (by omega), rfl⟩ ?_
  rintro q _ _ w' g ⟨j, hj, rfl, rfl, rfl, hno, rfl⟩ hg
  refine lt_c (fun c => iff_t ?_) (fun c => iff_f ?_)
  · obtain ⟨y, hy⟩ := get_of_lt (l := l) (j := j) (by omega)
    refine ixS_rd hS i hi hr (fun _ => rfl) hy fun a ha => ?_
    refine ld1_of hS i hi ha (v := .int .i64 y) rfl ?_
    generalize hlo : (if j = 0 then (-1 : Int) else l.getD (j - 1) 0) = lo
    by_cases c1 : y ≤ lo
    · repeat (first | refine gd_tt ?_ | refine gd_ff ?_ | refine gd_tf ?_ | refine gd_ft ?_ | refine gd_u ?_ | refine pk_t ?_ | refine pk_f ?_ | refine iff_t ?_ | refine iff_f ?_ | refine not_t ?_ | refine not_f ?_ | refine beq_s ?_ | refine bne_s ?_ | refine ncP_p ?_ | refine nc_p ?_ | refine fld_at ?_ | refine xt_02 ?_ | refine xt_12 ?_ | refine xt_03 ?_ | refine xt_13 ?_ | refine xt_23 ?_ | refine eq_t (by omega) ?_ | refine eq_f (by omega) ?_ | refine ne_t (by omega) ?_ | refine ne_f (by omega) ?_ | refine lt_t (by omega) ?_ | refine lt_f (by omega) ?_ | refine gt_t (by omega) ?_ | refine gt_f (by omega) ?_ | refine ge_t (by omega) ?_ | refine ge_f (by omega) ?_ | refine le_t (by omega) ?_ | refine le_f (by omega) ?_)
      refine hbad fun h => ?_
      have := (rising_drop.1 h j y hy).1
      omega
    refine le_f c1 ?_
    repeat (first | refine gd_tt ?_ | refine gd_ff ?_ | refine gd_tf ?_ | refine gd_ft ?_ | refine gd_u ?_ | refine pk_t ?_ | refine pk_f ?_ | refine iff_t ?_ | refine iff_f ?_ | refine not_t ?_ | refine not_f ?_ | refine beq_s ?_ | refine bne_s ?_ | refine ncP_p ?_ | refine nc_p ?_ | refine fld_at ?_ | refine xt_02 ?_ | refine xt_12 ?_ | refine xt_03 ?_ | refine xt_13 ?_ | refine xt_23 ?_ | refine eq_t (by omega) ?_ | refine eq_f (by omega) ?_ | refine ne_t (by omega) ?_ | refine ne_f (by omega) ?_ | refine lt_t (by omega) ?_ | refine lt_f (by omega) ?_ | refine gt_t (by omega) ?_ | refine gt_f (by omega) ?_ | refine ge_t (by omega) ?_ | refine ge_f (by omega) ?_ | refine le_t (by omega) ?_ | refine le_f (by omega) ?_)
    refine ld1_at hS k hb rfl ?_
    by_cases c2 : most ≤ y
    · repeat (first | refine gd_tt ?_ | refine gd_ff ?_ | refine gd_tf ?_ | refine gd_ft ?_ | refine gd_u ?_ | refine pk_t ?_ | refine pk_f ?_ | refine iff_t ?_ | refine iff_f ?_ | refine not_t ?_ | refine not_f ?_ | refine beq_s ?_ | refine bne_s ?_ | refine ncP_p ?_ | refine nc_p ?_ | refine fld_at ?_ | refine xt_02 ?_ | refine xt_12 ?_ | refine xt_03 ?_ | refine xt_13 ?_ | refine xt_23 ?_ | refine eq_t (by omega) ?_ | refine eq_f (by omega) ?_ | refine ne_t (by omega) ?_ | refine ne_f (by omega) ?_ | refine lt_t (by omega) ?_ | refine lt_f (by omega) ?_ | refine gt_t (by omega) ?_ | refine gt_f (by omega) ?_ | refine ge_t (by omega) ?_ | refine ge_f (by omega) ?_ | refine le_t (by omega) ?_ | refine le_f (by omega) ?_)
      refine hbad fun h => ?_
      have := (rising_drop.1 h j y hy).2
      omega
    refine gd_ff (ge_f (by omega) (pk_f (iff_f (inc_s (by omega) ?_))))
    refine hg _ _ _ _ (by omega) ⟨j + 1, by omega, rfl, ?_, rfl, fun i c hi hc => ?_, rfl⟩
    · rw [if_neg (by omega), Nat.add_sub_cancel, List.getD_eq_getElem?_getD, hy]
      rfl
    · by_cases h : i = j
      · subst h
        rw [hy] at hc
        cases hc
        rw [hlo]
        omega
      · exact hno i c (by omega) hc
  · have ej : j = l.length := by omega
    rw [decide_eq_true (rising_drop.2 fun i c hc => hno i c (by have := (List.getElem?_eq_some_iff.1 hc).1; omega) hc)] at hk
    exact hk

/-! ### The rules' sends -/
theorem sendsE_cons (f : Fed) (o : Out) (l : List Out) : sendsE f (o :: l) = if o.Class ∉ f.Pubs then 81 else if o.Delay < f.Look then 80 else sendsE f l := rfl
theorem rulesE_cons (f : Fed) (most : Int) (r : Rule) (l : List Rule) : rulesE f most (r :: l) = if most ≤ r.Class then 81 else if sendsE f r.Sends ≠ 0 then sendsE f r.Sends else rulesE f most l := rfl
theorem sendsE_app (f : Fed) : ∀ (a b : List Out), sendsE f a = 0 → sendsE f (a ++ b) = sendsE f b
  | [], _, _ => rfl
  | o :: a, b, h => by
    rw [sendsE_cons] at h
    rw [List.cons_append, sendsE_cons]
    split at h
    · cases h
    · rename_i h1
      split at h
      · cases h
      · rename_i h2
        rw [if_neg h1, if_neg h2]
        exact sendsE_app f a b h
theorem rulesE_app (f : Fed) (most : Int) : ∀ (a b : List Rule), rulesE f most a = 0 → rulesE f most (a ++ b) = rulesE f most b
  | [], _, _ => rfl
  | r :: a, b, h => by
    rw [rulesE_cons] at h
    rw [List.cons_append, rulesE_cons]
    split at h
    · cases h
    · rename_i h1
      split at h
      · rename_i h2
        exact absurd h h2
      · rename_i h2
        rw [if_neg h1, if_neg h2]
        exact rulesE_app f most a b h
theorem take_split {α : Type} {l : List α} {j : Nat} {x : α} (h : l[j]? = some x) : l = l.take j ++ x :: l.drop (j + 1) := by rw [← drop_cons h, List.take_append_drop]
theorem rules_s {f : FedX} {most : Int} {b c : Nat} (i k m : Nat) (hi : L[i]? = some S) (hb : L[k]? = some (blk b 72 f.cs)) (hc : L[m]? = some (blk c 3 [.int .i64 most])) (hS : Sat e w L) (hr : ∀ g, S g → RdFed f g) (hs : f.short)
    (hk : ∀ w', Sat e w' L → K (.int .i64 (rulesE f.f most f.f.Rules)) w') : clV prog (.func (.func 92) #[] #[.pointer (some ⟨b, 0, none⟩), .pointer (some ⟨c, 0, none⟩)]) #[] w K := by
  refine ⟨_, _, _, rfl, ?_⟩
  refine config_fed_2_calls (t0 := .pointer (some ⟨b, 0, none⟩)) (t1 := .pointer (some ⟨c, 0, none⟩)) ?_
  unfold config_fed_2
  rw [zero_80, zero_78]
  refine fld_at (ld1_at hS k hb (v := f.rv) rfl ?_)
  refine lnS_rd hS i hi (fun g hg => (hr g hg).rules.s) ?_
  have hrl := hs.rules
  refine lpi1 (fun q t11 w => ∃ j : Nat, j ≤ f.Rules.length ∧ t11 = .int .i64 j ∧ q = f.Rules.length - j ∧ rulesE f.f most ((f.Rules.take j).map RuleX.r) = 0 ∧ Sat e w L) f.Rules.length ⟨0, Nat.zero_le _, rfl, rfl, rfl, hS⟩ ?_
  rintro q _ w g ⟨j, hj, rfl, rfl, hno, h1⟩ hg
  refine lt_c (fun c0 => iff_t ?_) (fun c0 => iff_f ?_)
  · obtain ⟨r, hrj⟩ := get_of_lt (l := f.Rules) (j := j) (by omega)
    have hrm := List.mem_of_getElem? hrj
    have hsl := hs.sends r hrm
    have hsp : f.f.Rules = (f.Rules.take j).map RuleX.r ++ r.r :: (f.Rules.drop (j + 1)).map RuleX.r := by
      show f.Rules.map RuleX.r = _
      conv => lhs; rw [take_split hrj]
      simp
    have hkE : ∀ w', Sat e w' L → K (.int .i64 (rulesE f.f most (r.r :: (f.Rules.drop (j + 1)).map RuleX.r))) w' := by
      intro w' h'
      have := hk w' h'
      rw [hsp, rulesE_app _ _ _ _ hno] at this
      exact this
    refine ixS_rd h1 i hi (fun g hg => (hr g hg).rules.s) (fun _ => rfl) hrj fun a ha => ?_
    refine ldN_of h1 i hi ha rfl ?_
    have hflat : ∀ c ∈ r.cs, flat c = true := by
      obtain ⟨g, hg, _⟩ := hS.get i hi
      obtain ⟨A, c', hsv, _⟩ := (hr g hg).rules.e r hrm
      intro c hc
      simp only [RuleX.cs, List.mem_cons, List.not_mem_nil, or_false] at hc
      rcases hc with rfl | rfl | rfl | rfl
      · rfl
      · rfl
      · rfl
      · rw [hsv]; rfl
    refine al_s (cs := [.int .i64 0, .int .i64 0, .int .i64 0, .slice none 0 0]) h1 rfl fun t w3 h3 => ?_
    refine stN_at h3 0 rfl (vs := r.cs) rfl rfl (by simp) hflat (cs' := r.cs) (by rfl) fun w4 h4 => ?_
    have hi1 : (blk t 80 r.cs :: L)[i + 1]? = some S := by simpa using hi
    have hb1 : (blk t 80 r.cs :: L)[k + 1]? = some (blk b 72 f.cs) := by simpa using hb
    have hc1 : (blk t 80 r.cs :: L)[m + 1]? = some (blk c 3 [.int .i64 most]) := by simpa using hc
    refine fld_at (ld1_at h4 0 rfl (v := .int .i64 r.Class) rfl ?_)
    refine ld1_at h4 (m + 1) hc1 rfl ?_
    refine ge_c (fun c2 => iff_t ?_) (fun c2 => iff_f ?_)
    · have := hkE _ h4.drop
      rw [rulesE_cons] at this
      rw [if_pos (show most ≤ r.r.Class from c2)] at this
      exact this
    refine fld_at (ld1_at h4 0 rfl (v := r.sv) rfl ?_)
    refine lnS_rd h4 (i + 1) hi1 (fun g hg => (hr g hg).rules.e r hrm) ?_
    refine lpi1 (fun q t22 w => ∃ n : Nat, n ≤ r.Sends.length ∧ t22 = .int .i64 n ∧ q = r.Sends.length - n ∧ sendsE f.f (r.Sends.take n) = 0 ∧ Sat e w (blk t 80 r.cs :: L)) r.Sends.length ⟨0, Nat.zero_le _, rfl, rfl, rfl, h4⟩ ?_
    rintro q _ w g2 ⟨n, hn, rfl, rfl, hso, h5⟩ hg2
    refine lt_c (fun c3 => iff_t ?_) (fun c3 => iff_f ?_)
    · obtain ⟨o, ho⟩ := get_of_lt (l := r.Sends) (j := n) (by omega)
      have hsp2 := take_split ho
      refine ixS_rd h5 (i + 1) hi1 (fun g hg => (hr g hg).rules.e r hrm) (fun _ => rfl) ho fun a ha => ?_
      refine ldN_of h5 (i + 1) hi1 ha rfl ?_
      refine al_s (cs := ints [0, 0, 0]) h5 rfl fun t2 w6 h6 => ?_
      refine stN_at h6 0 rfl (vs := o.cs) rfl rfl (by decide) (ints_flat _) (cs' := o.cs) (by rfl) fun w7 h7 => ?_
      refine dr_s h7 fun w8 h8 => ?_
      have hi2 : (blk t2 78 o.cs :: blk t 80 r.cs :: L)[i + 2]? = some S := by simpa using hi
      have hb2 : (blk t2 78 o.cs :: blk t 80 r.cs :: L)[k + 2]? = some (blk b 72 f.cs) := by simpa using hb
      refine fld_at (ld1_at h8 (k + 2) hb2 (v := f.pv) rfl ?_)
      refine fld_at (ld1_at h8 0 rfl (v := .int .i64 o.Class) rfl ?_)
      refine fld_at (ld1_at h8 0 rfl (v := .int .i64 o.Delay) rfl ?_)
      refine fld_at (ld1_at h8 (k + 2) hb2 (v := .int .i64 f.Look) rfl ?_)
      refine ge_d ?_
      refine contains_s (i + 2) hi2 h8 (fun g hg => (hr g hg).pubs) (by have := hs.pubs; omega) ?_
      refine ⟨ld1_at h8 (k + 2) hb2 (v := .int .i64 f.Look) rfl ⟨rfl, rfl⟩, ld1_at h8 0 rfl (v := .int .i64 o.Delay) rfl ⟨rfl, rfl⟩, ?_⟩
      refine unless_s h8 fun c3' d3 w9 h9 => ?_
      have hb3 : (UN c3' d3 (decide (o.Class ∈ f.Pubs)) 81 :: blk t2 78 o.cs :: blk t 80 r.cs :: L)[k + 3]? = some (blk b 72 f.cs) := by simpa using hb
      refine ⟨ld1_at h9 (k + 3) hb3 (v := .int .i64 f.Look) rfl ⟨rfl, rfl⟩, ld1_at h9 1 rfl (v := .int .i64 o.Delay) rfl ⟨rfl, rfl⟩, ?_⟩
      refine unless_s h9 fun c4 d4 w10 h10 => ?_
      refine bsl_s [unV c3' d3, unV c4 d4] h10 (by kernel_rfl) fun bb w11 h11 => ?_
      refine first_s (fs := [unV c3' d3, unV c4 d4]) (Es := [if decide (o.Class ∈ f.Pubs) = true then 0 else 81, if decide (f.Look ≤ o.Delay) = true then 0 else 80]) 0 rfl h11 (blk_rdn (f := fun v => [v]) [unV c3' d3, unV c4 d4] rfl (Nat.le_refl _)) (by simp) rfl (fun j fv E hf hE _ w K hw hK => ?_) fun w12 h12 => ?_
      · match j with
        | 0 =>
          simp only [List.getElem?_cons_zero, Option.some.injEq] at hf hE
          subst hf hE
          exact unless1_s 2 rfl hw (hK _ hw)
        | 1 =>
          simp only [List.getElem?_cons_succ, List.getElem?_cons_zero, Option.some.injEq] at hf hE
          subst hf hE
          exact unless1_s 1 rfl hw (hK _ hw)
        | j + 2 => simp at hf
      · have h13 : Sat e w12 (blk t 80 r.cs :: L) := h12.drop.drop.drop.drop
        have hkS : ∀ E, E ≠ 0 → sendsE f.f (o :: r.Sends.drop (n + 1)) = E → K (.int .i64 E) w12 := by
          intro E hE0 hE
          have := hkE _ h13.drop
          rw [rulesE_cons] at this
          have e1 : sendsE f.f r.r.Sends = E := by
            show sendsE f.f r.Sends = E
            rw [hsp2, sendsE_app _ _ _ hso]
            exact hE
          rw [if_neg (show ¬ most ≤ r.r.Class by simp only [RuleX.r]; omega), e1, if_pos hE0] at this
          exact this
        rw [firstE_cons, firstE_cons, firstE_nil]
        by_cases d1 : o.Class ∈ f.Pubs
        · by_cases d2 : f.Look ≤ o.Delay
          · rw [decide_eq_true d1, decide_eq_true d2]
            simp only [if_true]
            refine ne_f rfl (iff_f (inc_s (by omega) ?_))
            refine hg2 _ _ _ (by omega) ⟨n + 1, by omega, rfl, rfl, ?_, h13⟩
            rw [List.take_add_one, ho, sendsE_app _ _ _ hso]
            show sendsE f.f [o] = 0
            rw [sendsE_cons]
            rw [if_neg (show ¬ o.Class ∉ f.f.Pubs from fun h => h d1), if_neg (show ¬ o.Delay < f.f.Look by simp only [FedX.f]; omega)]
            rfl
          · rw [decide_eq_true d1, decide_eq_false d2]
            refine ne_t (by decide) (iff_t (hkS 80 (by decide) ?_))
            rw [sendsE_cons]
            rw [if_neg (show ¬ o.Class ∉ f.f.Pubs from fun h => h d1), if_pos (show o.Delay < f.f.Look by simp only [FedX.f]; omega)]
        · rw [decide_eq_false d1]
          refine ne_t (by simp) (iff_t (hkS 81 (by decide) ?_))
          rw [sendsE_cons]
          rw [if_pos (show o.Class ∉ f.f.Pubs from d1)]
    · have en : n = r.Sends.length := by omega
      rw [en, List.take_length] at hso
      refine inc_s (by omega) ?_
      refine hg _ _ _ (by omega) ⟨j + 1, by omega, rfl, rfl, ?_, h5.drop⟩
      rw [List.take_add_one, hrj, List.map_append, rulesE_app _ _ _ _ hno]
      show rulesE f.f most [r.r] = 0
      rw [rulesE_cons]
      rw [if_neg (show ¬ most ≤ r.r.Class by simp only [RuleX.r]; omega), if_neg (show ¬ sendsE f.f r.r.Sends ≠ 0 from fun h => h hso)]
      rfl
  · have ej : j = f.Rules.length := by omega
    rw [ej, List.take_length] at hno
    have := hk _ h1
    rw [show f.f.Rules = f.Rules.map RuleX.r from rfl, hno] at this
    exact this
end Go.Proofs.YtenglfaeohgkfaaGreat
namespace Go.Proofs.YtenglfaeohgkfaaGreat
open Go Go.E
set_option maxRecDepth 100000
variable {e w : World} {L R : List HP} {K : KV} {S : HP}

def okIni (f : Fed) (o : Out) : Prop := o.Class ∈ f.Pubs ∧ 0 ≤ o.Delay ∧ o.Delay ≤ 1099511627776 ∧ 0 ≤ o.Add ∧ o.Add ≤ 999
theorem odd2_s {f : FedX} {b : Nat} {o : Out} (i k : Nat) (hi : L[i]? = some S) (hb : L[k]? = some (blk b 72 f.cs)) (hS : Sat e w L) (hr : ∀ g, S g → RdFed f g) (hs : f.short)
    (hk : ∀ w', Sat e w' L → ∀ q : Bool, (q = true ↔ ¬ okIni f.f o) → K (.bool q) w') : clV prog (.func (.func 94) #[] #[.pointer (some ⟨b, 0, none⟩)]) #[.agg o.cs.toArray] w K := by
  refine ⟨_, _, _, rfl, ?_⟩
  refine config_fed_3_calls (t0 := .agg o.cs.toArray) (t1 := .pointer (some ⟨b, 0, none⟩)) ?_
  unfold config_fed_3
  refine al_s (cs := o.cs) hS rfl fun t w1 h1 => ?_
  have hi1 : (blk t 78 o.cs :: L)[i + 1]? = some S := by simpa using hi
  have hb1 : (blk t 78 o.cs :: L)[k + 1]? = some (blk b 72 f.cs) := by simpa using hb
  have hk := hk w1 h1.drop
  refine fld_at (ld1_at h1 (k + 1) hb1 (v := f.pv) rfl ?_)
  refine fld_at (ld1_at h1 0 rfl (v := .int .i64 o.Class) rfl ?_)
  refine contains_s (i + 1) hi1 h1 (fun g hg => (hr g hg).pubs) (by have := hs.pubs; omega) (not_d ?_)
  by_cases c1 : o.Class ∈ f.Pubs
  case neg =>
    rw [decide_eq_false c1, Bool.not_false]
    repeat (first | refine gd_tt ?_ | refine gd_ff ?_ | refine gd_tf ?_ | refine gd_ft ?_ | refine gd_u ?_ | refine pk_t ?_ | refine pk_f ?_ | refine iff_t ?_ | refine iff_f ?_ | refine not_t ?_ | refine not_f ?_ | refine beq_s ?_ | refine bne_s ?_ | refine ncP_p ?_ | refine nc_p ?_ | refine fld_at ?_ | refine xt_02 ?_ | refine xt_12 ?_ | refine xt_03 ?_ | refine xt_13 ?_ | refine xt_23 ?_ | refine eq_t (by omega) ?_ | refine eq_f (by omega) ?_ | refine ne_t (by omega) ?_ | refine ne_f (by omega) ?_ | refine lt_t (by omega) ?_ | refine lt_f (by omega) ?_ | refine gt_t (by omega) ?_ | refine gt_f (by omega) ?_ | refine ge_t (by omega) ?_ | refine ge_f (by omega) ?_ | refine le_t (by omega) ?_ | refine le_f (by omega) ?_)
    exact hk true ⟨fun _ h => c1 h.1, fun _ => rfl⟩
  rw [decide_eq_true c1, Bool.not_true]
  repeat (first | refine gd_tt ?_ | refine gd_ff ?_ | refine gd_tf ?_ | refine gd_ft ?_ | refine gd_u ?_ | refine pk_t ?_ | refine pk_f ?_ | refine iff_t ?_ | refine iff_f ?_ | refine not_t ?_ | refine not_f ?_ | refine beq_s ?_ | refine bne_s ?_ | refine ncP_p ?_ | refine nc_p ?_ | refine fld_at ?_ | refine xt_02 ?_ | refine xt_12 ?_ | refine xt_03 ?_ | refine xt_13 ?_ | refine xt_23 ?_ | refine eq_t (by omega) ?_ | refine eq_f (by omega) ?_ | refine ne_t (by omega) ?_ | refine ne_f (by omega) ?_ | refine lt_t (by omega) ?_ | refine lt_f (by omega) ?_ | refine gt_t (by omega) ?_ | refine gt_f (by omega) ?_ | refine ge_t (by omega) ?_ | refine ge_f (by omega) ?_ | refine le_t (by omega) ?_ | refine le_f (by omega) ?_)
  refine ld1_at h1 0 rfl (v := .int .i64 o.Delay) rfl ?_
  refine gd_ff (within_s ?_)
  refine gd_ff (not_d ?_)
  by_cases c2 : 0 ≤ o.Delay ∧ o.Delay ≤ 1099511627776
  case neg =>
    rw [decide_eq_false c2, Bool.not_false]
    repeat (first | refine gd_tt ?_ | refine gd_ff ?_ | refine gd_tf ?_ | refine gd_ft ?_ | refine gd_u ?_ | refine pk_t ?_ | refine pk_f ?_ | refine iff_t ?_ | refine iff_f ?_ | refine not_t ?_ | refine not_f ?_ | refine beq_s ?_ | refine bne_s ?_ | refine ncP_p ?_ | refine nc_p ?_ | refine fld_at ?_ | refine xt_02 ?_ | refine xt_12 ?_ | refine xt_03 ?_ | refine xt_13 ?_ | refine xt_23 ?_ | refine eq_t (by omega) ?_ | refine eq_f (by omega) ?_ | refine ne_t (by omega) ?_ | refine ne_f (by omega) ?_ | refine lt_t (by omega) ?_ | refine lt_f (by omega) ?_ | refine gt_t (by omega) ?_ | refine gt_f (by omega) ?_ | refine ge_t (by omega) ?_ | refine ge_f (by omega) ?_ | refine le_t (by omega) ?_ | refine le_f (by omega) ?_)
    exact hk true ⟨fun _ h => c2 ⟨h.2.1, h.2.2.1⟩, fun _ => rfl⟩
  rw [decide_eq_true c2, Bool.not_true]
  repeat (first | refine gd_tt ?_ | refine gd_ff ?_ | refine gd_tf ?_ | refine gd_ft ?_ | refine gd_u ?_ | refine pk_t ?_ | refine pk_f ?_ | refine iff_t ?_ | refine iff_f ?_ | refine not_t ?_ | refine not_f ?_ | refine beq_s ?_ | refine bne_s ?_ | refine ncP_p ?_ | refine nc_p ?_ | refine fld_at ?_ | refine xt_02 ?_ | refine xt_12 ?_ | refine xt_03 ?_ | refine xt_13 ?_ | refine xt_23 ?_ | refine eq_t (by omega) ?_ | refine eq_f (by omega) ?_ | refine ne_t (by omega) ?_ | refine ne_f (by omega) ?_ | refine lt_t (by omega) ?_ | refine lt_f (by omega) ?_ | refine gt_t (by omega) ?_ | refine gt_f (by omega) ?_ | refine ge_t (by omega) ?_ | refine ge_f (by omega) ?_ | refine le_t (by omega) ?_ | refine le_f (by omega) ?_)
  refine ld1_at h1 0 rfl (v := .int .i64 o.Add) rfl ?_
  refine gd_ff (within_s ?_)
  refine gd_ff (not_d (pk_f (hk _ ?_)))
  by_cases c3 : 0 ≤ o.Add ∧ o.Add ≤ 999
  · rw [decide_eq_true c3, Bool.not_true]
    exact ⟨(fun h => by cases h), fun h => absurd ⟨c1, c2.1, c2.2, c3.1, c3.2⟩ h⟩
  · rw [decide_eq_false c3, Bool.not_false]
    exact ⟨fun _ h => c3 h.2.2.2, fun _ => rfl⟩
open Classical in
theorem fed4_s {f : FedX} {b : Nat} (i k : Nat) (hi : L[i]? = some S) (hb : L[k]? = some (blk b 72 f.cs)) (hS : Sat e w L) (hr : ∀ g, S g → RdFed f g) (hwf : f.wf) (hs : f.short)
    (hk : ∀ w', Sat e w' L → K (.int .i64 (if okRules f.f.Rules then 0 else 70)) w') : clV prog (.func (.func 95) #[] #[.pointer (some ⟨b, 0, none⟩)]) #[] w K := by
  refine ⟨_, _, _, rfl, ?_⟩
  refine config_fed_4_calls (t0 := .pointer (some ⟨b, 0, none⟩)) ?_
  unfold config_fed_4
  refine fld_at (ld1_at hS k hb (v := f.rv) rfl ?_)
  exact table_Check_s i hi hS (fun g hg => (hr g hg).rules) hwf.2.2.2.1 (fun r hr => by have := hs.sends r hr; omega) hk
theorem ite_dec {p : Prop} {i j : Decidable p} {a b : Int} : (if @decide p i = true then a else b) = @ite _ p j a b := by
  by_cases h : p <;> simp [h]
theorem ite_iff {p q : Prop} {i : Decidable p} {j : Decidable q} (h : p ↔ q) {a b : Int} : @ite _ p i a b = @ite _ q j a b := by
  by_cases hp : p
  · rw [if_pos hp, if_pos (h.1 hp)]
  · rw [if_neg hp, if_neg fun k => hp (h.2 k)]
theorem fed_cells {f : FedX} (i : Nat) (hi : L[i]? = some S) (hS : Sat e w L) (hr : ∀ g, S g → RdFed f g) : ∀ c ∈ f.cs, flat c = true := by
  obtain ⟨g, hg, _⟩ := hS.get i hi
  obtain ⟨_, _, h1, _⟩ := (hr g hg).rules.s
  obtain ⟨_, _, h2, _⟩ := (hr g hg).pubs
  obtain ⟨_, _, h3, _⟩ := (hr g hg).subs
  obtain ⟨_, _, h4, _⟩ := (hr g hg).init
  intro c hc
  simp only [FedX.cs, List.mem_cons, List.not_mem_nil, or_false] at hc
  rcases hc with rfl | rfl | rfl | rfl | rfl | rfl | rfl
  · rfl
  · rfl
  · rfl
  · rw [h1]; rfl
  · rw [h2]; rfl
  · rw [h3]; rfl
  · rw [h4]; rfl
open Classical in
theorem config_fed_s {f : FedX} {most : Int} (i : Nat) (hi : L[i]? = some S) (hS : Sat e w L) (hr : ∀ g, S g → RdFed f g) (hwf : f.wf) (hs : f.short)
    (hk : ∀ w', Sat e w' L → K (.int .i64 (fedE f.f most)) w') : Cl prog 61 #[.agg f.cs.toArray, .int .i64 most] w K := by
  refine config_fed_calls ?_
  unfold config_fed
  refine al_s (cs := f.cs) hS rfl fun b w1 h1 => ?_
  refine al_s (cs := [.int .i64 most]) h1 rfl fun c w2 h2 => ?_
  refine dr_s h2 fun w3 h3 => ?_
  have hi3 : (blk c 3 [.int .i64 most] :: blk b 72 f.cs :: L)[i + 2]? = some S := by simpa using hi
  refine fld_at (ld1_at h3 1 rfl (v := .int .i64 f.Kind) rfl ?_)
  refine fld_at (ld1_at h3 1 rfl (v := .int .i64 f.Look) rfl ?_)
  refine fld_at (ld1_at h3 1 rfl (v := .int .i64 f.Start) rfl ?_)
  refine fld_at (ld1_at h3 1 rfl (v := f.pv) rfl ?_)
  refine fld_at (ld1_at h3 1 rfl (v := f.iv) rfl ?_)
  refine lnS_rd h3 (i + 2) hi3 (fun g hg => (hr g hg).init) ?_
  refine le_d ?_
  refine within_s ?_
  have ld : ∀ {A : List HP} {w : World} (n : Nat), Sat e w A → A[n]? = some (blk b 72 f.cs) → ∀ (o : Nat) (v : Value), f.cs[o]? = some v → ld1 (.pointer (some ⟨b, o, none⟩)) w (fun v' w'' => v' = v ∧ w'' = w) := fun n h hA o v ho => ld1_at h n hA ho ⟨rfl, rfl⟩
  refine ⟨ld 1 h3 rfl 6 _ rfl, ld 1 h3 rfl 4 _ rfl, ld 1 h3 rfl 2 _ rfl, ld 1 h3 rfl 1 _ rfl, ?_⟩
  refine unless_s h3 fun c1 d1 w4 h4 => ?_
  refine ⟨ld 2 h4 rfl 6 _ rfl, ld 2 h4 rfl 4 _ rfl, ld 2 h4 rfl 2 _ rfl, ld 2 h4 rfl 1 _ rfl, ?_⟩
  refine within_s ?_
  refine ⟨ld 2 h4 rfl 6 _ rfl, ld 2 h4 rfl 4 _ rfl, ld 2 h4 rfl 2 _ rfl, ?_⟩
  refine unless_s h4 fun c2 d2 w5 h5 => ?_
  refine ⟨ld 3 h5 rfl 6 _ rfl, ld 3 h5 rfl 4 _ rfl, ld 3 h5 rfl 2 _ rfl, ?_⟩
  refine within_s ?_
  refine ⟨ld 3 h5 rfl 6 _ rfl, ld 3 h5 rfl 4 _ rfl, ?_⟩
  refine unless_s h5 fun c3 d3 w6 h6 => ?_
  refine ⟨ld 4 h6 rfl 6 _ rfl, ld 4 h6 rfl 4 _ rfl, ?_⟩
  refine rising_s (most := most) (i + 5) 3 (by simpa using hi) rfl h6 (fun g hg => (hr g hg).pubs) hs.pubs ?_
  refine ⟨ld 4 h6 rfl 6 _ rfl, ?_⟩
  have hmid : ∀ K : World → KV, K w6 (.bool (decide (rising most (-1) f.Pubs ∧ rising most (-1) f.Subs))) w6 → gd (.bool (decide (rising most (-1) f.Pubs))) true (fun k => k (.func (.func 91) #[] #[.pointer (some ⟨c, 0, none⟩)]) w6) w6 fun t29 _ =>
      gd (.bool (decide (rising most (-1) f.Pubs))) true (fun k => fld 5 (.pointer (some ⟨b, 0, none⟩)) w6 k) w6 fun t30 _ =>
      gd (.bool (decide (rising most (-1) f.Pubs))) true (fun k => ld1 t30 w6 k) w6 fun t31 _ =>
      gd (.bool (decide (rising most (-1) f.Pubs))) true (fun k => clV prog t29 #[t31] w6 k) w6 fun t32 w =>
      (ld1 (.pointer (some ⟨b, 0 + 6, none⟩)) w (fun v' w'' => v' = f.iv ∧ w'' = w)) ∧ (pk (.bool (decide (rising most (-1) f.Pubs))) t32 (.bool false) w (K w)) := by
    intro K hK
    by_cases q1 : rising most (-1) f.Pubs
    · rw [decide_eq_true q1]
      refine gd_tt (gd_tt (fld_at (gd_tt (ld1_at h6 4 rfl (v := f.sv) rfl (gd_tt ?_)))))
      refine rising_s (most := most) (i + 5) 3 (by simpa using hi) rfl h6 (fun g hg => (hr g hg).subs) hs.subs ?_
      refine ⟨ld 4 h6 rfl 6 _ rfl, pk_t ?_⟩
      by_cases q2 : rising most (-1) f.Subs
      · rw [decide_eq_true q2]
        rw [decide_eq_true ⟨q1, q2⟩] at hK
        exact hK
      · rw [decide_eq_false q2]
        rw [decide_eq_false fun h => q2 h.2] at hK
        exact hK
    · rw [decide_eq_false q1]
      rw [decide_eq_false fun h => q1 h.1] at hK
      exact gd_ft (gd_ft (gd_ft (gd_ft ⟨ld 4 h6 rfl 6 _ rfl, pk_f hK⟩)))
  refine hmid (fun w t33 _ => _) ?_
  clear hmid
  refine unless_s h6 fun c5 d5 w7 h7 => ?_
  refine ⟨ld 5 h7 rfl 6 _ rfl, ?_⟩
  have hmid : ∀ K : World → KV, (∀ w', Sat e w' (UN c5 d5 (decide (rising most (-1) f.Pubs ∧ rising most (-1) f.Subs)) 81 :: UN c3 d3 (decide (0 ≤ f.Start ∧ f.Start ≤ 7)) 70 :: UN c2 d2 (decide (1 ≤ f.Look ∧ f.Look ≤ 1048576)) 80 :: UN c1 d1 (decide (0 ≤ f.Kind ∧ f.Kind ≤ 1)) 1 :: blk c 3 [.int .i64 most] :: blk b 72 f.cs :: L) → ∀ q : Bool, (q = true ↔ okInit f.f) → K w' (.bool q) w') →
      gd (.bool (decide ((f.Init.length : Int) ≤ 4))) true (fun k => fld 6 (.pointer (some ⟨b, 0, none⟩)) w7 k) w7 fun t41 _ =>
      gd (.bool (decide ((f.Init.length : Int) ≤ 4))) true (fun k => ld1 t41 w7 k) w7 fun t42 _ =>
      gd (.bool (decide ((f.Init.length : Int) ≤ 4))) true (fun k => k (.func (.func 94) #[] #[.pointer (some ⟨b, 0, none⟩)]) w7) w7 fun t43 _ =>
      gd (.bool (decide ((f.Init.length : Int) ≤ 4))) true (fun k => Cl prog 97 #[t42, t43] w7 k) w7 fun t44 w =>
      gd (.bool (decide ((f.Init.length : Int) ≤ 4))) true (fun k => bnot t44 w k) w fun t45 _ =>
      pk (.bool (decide ((f.Init.length : Int) ≤ 4))) t45 (.bool false) w (K w) := by
    intro K hK
    by_cases q1 : (f.Init.length : Int) ≤ 4
    · rw [decide_eq_true q1]
      refine gd_tt (fld_at (gd_tt (ld1_at h7 5 rfl (v := f.iv) rfl (gd_tt (gd_tt ?_)))))
      refine containsOut_s (p := fun o => ¬ okIni f.f o) (i + 6) (by simpa using hi) h7 (fun g hg => (hr g hg).init) (by have := hs.init; omega) (fun o ho w K h hk => odd2_s (i + 6) 5 (by simpa using hi) rfl h hr hs hk) fun w8 h8 q hq => ?_
      refine gd_tt (not_d (pk_t (hK _ h8 _ ?_)))
      constructor
      · intro h
        refine ⟨by show f.Init.length ≤ 4; omega, fun o ho => Classical.not_not.1 fun hn => ?_⟩
        have := hq.2 ⟨o, ho, hn⟩
        rw [this] at h
        cases h
      · intro h
        cases q with
        | false => rfl
        | true =>
          obtain ⟨o, ho, hn⟩ := hq.1 rfl
          exact absurd (h.2 o ho) hn
    · rw [decide_eq_false q1]
      exact gd_ft (gd_ft (gd_ft (gd_ft (gd_ft (pk_f (hK _ h7 _ ⟨(fun h => by cases h), fun h => absurd (show (f.Init.length : Int) ≤ 4 from by have h2 : f.Init.length ≤ 4 := h.1; omega) q1⟩))))))
  refine hmid (fun w t46 _ => _) fun w8 h8 q hq => ?_
  clear hmid
  refine unless_s h8 fun c7 d7 w9 h9 => ?_
  refine bsl_s [unV c1 d1, unV c2 d2, unV c3 d3, .func (.func 95) #[] #[.pointer (some ⟨b, 0, none⟩)], unV c5 d5, .func (.func 92) #[] #[.pointer (some ⟨b, 0, none⟩), .pointer (some ⟨c, 0, none⟩)], unV c7 d7] h9 (by kernel_rfl) fun bb w10 h10 => ?_
  have hEs : fedEs f.f most = [if decide (0 ≤ f.Kind ∧ f.Kind ≤ 1) = true then 0 else 1, if decide (1 ≤ f.Look ∧ f.Look ≤ 1048576) = true then 0 else 80, if decide (0 ≤ f.Start ∧ f.Start ≤ 7) = true then 0 else 70, if okRules f.f.Rules then 0 else 70,
      if decide (rising most (-1) f.Pubs ∧ rising most (-1) f.Subs) = true then 0 else 81, rulesE f.f most f.f.Rules, if q = true then 0 else 82] := by
    unfold fedEs
    rw [ite_dec, ite_dec, ite_dec, ite_dec, ite_iff hq]
    rfl
  refine first_s (fs := [unV c1 d1, unV c2 d2, unV c3 d3, .func (.func 95) #[] #[.pointer (some ⟨b, 0, none⟩)], unV c5 d5, .func (.func 92) #[] #[.pointer (some ⟨b, 0, none⟩), .pointer (some ⟨c, 0, none⟩)], unV c7 d7]) (Es := fedEs f.f most) 0 rfl h10 (blk_rdn (f := fun v => [v]) [unV c1 d1, unV c2 d2, unV c3 d3, .func (.func 95) #[] #[.pointer (some ⟨b, 0, none⟩)], unV c5 d5, .func (.func 92) #[] #[.pointer (some ⟨b, 0, none⟩), .pointer (some ⟨c, 0, none⟩)], unV c7 d7] rfl (Nat.le_refl _)) (by simp) rfl (fun j fv E hf hE _ w K hw hK => ?_) fun w11 h11 => ?_
  · rw [hEs] at hE
    match j with
    | 0 =>
      simp only [List.getElem?_cons_zero, Option.some.injEq] at hf hE
      subst hf hE
      exact unless1_s 5 rfl hw (hK _ hw)
    | 1 =>
      simp only [List.getElem?_cons_succ, List.getElem?_cons_zero, Option.some.injEq] at hf hE
      subst hf hE
      exact unless1_s 4 rfl hw (hK _ hw)
    | 2 =>
      simp only [List.getElem?_cons_succ, List.getElem?_cons_zero, Option.some.injEq] at hf hE
      subst hf hE
      exact unless1_s 3 rfl hw (hK _ hw)
    | 3 =>
      simp only [List.getElem?_cons_succ, List.getElem?_cons_zero, Option.some.injEq] at hf hE
      subst hf hE
      exact fed4_s (i + 8) 7 (by simpa using hi) rfl hw hr hwf hs hK
    | 4 =>
      simp only [List.getElem?_cons_succ, List.getElem?_cons_zero, Option.some.injEq] at hf hE
      subst hf hE
      exact unless1_s 2 rfl hw (hK _ hw)
    | 5 =>
      simp only [List.getElem?_cons_succ, List.getElem?_cons_zero, Option.some.injEq] at hf hE
      subst hf hE
      exact rules_s (i + 8) 7 6 (by simpa using hi) rfl rfl hw hr hs hK
    | 6 =>
      simp only [List.getElem?_cons_succ, List.getElem?_cons_zero, Option.some.injEq] at hf hE
      subst hf hE
      exact unless1_s 1 rfl hw (hK _ hw)
    | j + 7 => simp at hf
  · exact hk _ (h11.selR [_, _, _, _, _, _, _, _] [] [] (by decide) rfl)

/-! ### A federation -/
structure WdX.short (x : WdX) : Prop where
  feds : x.Feds.length ≤ 1000
  par : x.Parents.length ≤ 1000
  fed : ∀ f ∈ x.Feds, f.short
theorem fedsE_cons (most : Int) (i : Nat) (f : Fed) (l : List Fed) : fedsE most i (f :: l) = if fedE f most ≠ 0 then ((i : Int), fedE f most) else fedsE most (i + 1) l := rfl
theorem fedsE_app (most : Int) : ∀ (a b : List Fed) (i : Nat), (∀ f ∈ a, fedE f most = 0) → fedsE most i (a ++ b) = fedsE most (i + a.length) b
  | [], _, _, _ => rfl
  | f :: a, b, i, h => by
    rw [List.cons_append, fedsE_cons, if_neg (fun k => k (h f (by simp))), fedsE_app most a b (i + 1) fun g hg => h g (by simp [hg])]
    congr 1
    simp; omega
theorem wd_cells {x : WdX} (i : Nat) (hi : L[i]? = some S) (hS : Sat e w L) (hr : ∀ g, S g → RdWd x g) : ∀ c ∈ x.cs, flat c = true := by
  obtain ⟨g, hg, _⟩ := hS.get i hi
  obtain ⟨_, _, h1, _⟩ := (hr g hg).par
  obtain ⟨_, _, h2, _⟩ := (hr g hg).feds
  intro c hc
  simp only [WdX.cs, List.mem_cons, List.not_mem_nil, or_false] at hc
  rcases hc with rfl | rfl | rfl
  · rw [h1]; rfl
  · rw [h2]; rfl
  · rfl
theorem config_Check_s {x : WdX} (i : Nat) (hi : L[i]? = some S) (hS : Sat e w L) (hr : ∀ g, S g → RdWd x g) (hwf : x.wf) (hs : x.short)
    (hk : ∀ w', Sat e w' L → K (.tuple #[.int .i64 (checkW x.w).1, .int .i64 (checkW x.w).2]) w') : Cl prog 28 #[.agg x.cs.toArray] w K := by
  refine config_Check_calls ?_
  unfold config_Check
  refine al_s (cs := x.cs) hS rfl fun b w1 h1 => ?_
  have hi1 : (blk b 39 x.cs :: L)[i + 1]? = some S := by simpa using hi
  have hfl := hs.feds
  refine fld_at (ld1_at h1 0 rfl (v := .int .i64 x.End) rfl ?_)
  refine within_s ?_
  have hmid : ∀ K : KV, K (.bool (decide ((0 ≤ x.End ∧ x.End ≤ 1099511627776) ∧ (1 ≤ (x.Feds.length : Int) ∧ (x.Feds.length : Int) ≤ 8)))) w1 →
      gd (.bool (decide (0 ≤ x.End ∧ x.End ≤ 1099511627776))) true (fun k => fld 1 (.pointer (some ⟨b, 0, none⟩)) w1 k) w1 fun t13 w =>
      gd (.bool (decide (0 ≤ x.End ∧ x.End ≤ 1099511627776))) true (fun k => ld1 t13 w k) w fun t14 w =>
      gd (.bool (decide (0 ≤ x.End ∧ x.End ≤ 1099511627776))) true (fun k => lnS t14 w k) w fun t15 w =>
      gd (.bool (decide (0 ≤ x.End ∧ x.End ≤ 1099511627776))) true (fun k => Cl prog 60 #[t15, .int .i64 1, .int .i64 8] w k) w fun t16 w =>
      pk (.bool (decide (0 ≤ x.End ∧ x.End ≤ 1099511627776))) t16 (.bool false) w K := by
    intro K hK
    by_cases q1 : 0 ≤ x.End ∧ x.End ≤ 1099511627776
    · rw [decide_eq_true q1]
      refine gd_tt (fld_at (gd_tt (ld1_at h1 0 rfl (v := x.fv) rfl (gd_tt (lnS_rd h1 (i + 1) hi1 (fun g hg => (hr g hg).feds) ?_)))))
      refine gd_tt (within_s (pk_t ?_))
      by_cases q2 : 1 ≤ (x.Feds.length : Int) ∧ (x.Feds.length : Int) ≤ 8
      · rw [decide_eq_true q2]
        rw [decide_eq_true ⟨q1, q2⟩] at hK
        exact hK
      · rw [decide_eq_false q2]
        rw [decide_eq_false fun h => q2 h.2] at hK
        exact hK
    · rw [decide_eq_false q1]
      rw [decide_eq_false fun h => q1 h.1] at hK
      exact gd_ft (gd_ft (gd_ft (gd_ft (pk_f hK))))
  refine hmid _ ?_
  clear hmid
  refine unless_s h1 fun c1 d1 w2 h2 => ?_
  refine bsl_s [.func (.func 57) #[] #[.pointer (some ⟨b, 0, none⟩)], unV c1 d1] h2 (by kernel_rfl) fun bb w3 h3 => ?_
  refine first_s (fs := [.func (.func 57) #[] #[.pointer (some ⟨b, 0, none⟩)], unV c1 d1]) (Es := [treeE x.Parents, if decide ((0 ≤ x.End ∧ x.End ≤ 1099511627776) ∧ (1 ≤ (x.Feds.length : Int) ∧ (x.Feds.length : Int) ≤ 8)) = true then 0 else 1]) 0 rfl h3
    (blk_rdn (f := fun v => [v]) [.func (.func 57) #[] #[.pointer (some ⟨b, 0, none⟩)], unV c1 d1] rfl (Nat.le_refl _)) (by simp) rfl (fun j fv E hf hE _ w K hw hK => ?_) fun w4 h4 => ?_
  · match j with
    | 0 =>
      simp only [List.getElem?_cons_zero, Option.some.injEq] at hf hE
      subst hf hE
      refine ⟨_, _, _, rfl, ?_⟩
      refine config_Check_1_calls (t0 := .pointer (some ⟨b, 0, none⟩)) ?_
      unfold config_Check_1
      refine fld_at (ld1_at hw 2 rfl (v := x.pv) rfl ?_)
      exact tree_Check_s (i + 3) (by simpa using hi) hw (fun g hg => (hr g hg).par) (hK _ hw)
    | 1 =>
      simp only [List.getElem?_cons_succ, List.getElem?_cons_zero, Option.some.injEq] at hf hE
      subst hf hE
      exact unless1_s 1 rfl hw (hK _ hw)
    | j + 2 => simp at hf
  have h5 : Sat e w4 (blk b 39 x.cs :: L) := h4.drop.drop
  rw [firstE_cons, firstE_cons, firstE_nil]
  by_cases p1 : treeE x.Parents = 0
  case neg =>
    rw [if_neg p1]
    have := hk _ h5.drop
    unfold checkW at this
    rw [if_pos (show treeE x.w.Parents ≠ 0 from p1)] at this
    exact ne_t p1 (iff_t this)
  rw [if_pos p1]
  by_cases p2 : (0 ≤ x.End ∧ x.End ≤ 1099511627776) ∧ (1 ≤ (x.Feds.length : Int) ∧ (x.Feds.length : Int) ≤ 8)
  case neg =>
    rw [decide_eq_false p2, if_neg (by decide)]
    have := hk _ h5.drop
    unfold checkW at this
    rw [if_neg (show ¬ treeE x.w.Parents ≠ 0 from fun h => h p1), if_pos (by simp only [WdX.w, List.length_map]; exact p2)] at this
    refine ne_t (by decide) (iff_t ?_)
    exact this
  rw [decide_eq_true p2, if_pos rfl]
  have hk : ∀ w', Sat e w' L → K (.tuple #[.int .i64 (fedsE x.Parents.length 0 (x.Feds.map FedX.f)).1, .int .i64 (fedsE x.Parents.length 0 (x.Feds.map FedX.f)).2]) w' := by
    intro w' h'
    have := hk w' h'
    unfold checkW at this
    rw [if_neg (show ¬ treeE x.w.Parents ≠ 0 from fun h => h p1), if_neg (by simp only [WdX.w, List.length_map]; exact fun h => h p2)] at this
    exact this
  refine ne_f (by simp) (iff_f ?_)
  refine fld_at (ld1_at h5 0 rfl (v := x.fv) rfl ?_)
  refine lnS_rd h5 (i + 1) hi1 (fun g hg => (hr g hg).feds) ?_
  refine lpi1 (fun q t w => ∃ j : Nat, j ≤ x.Feds.length ∧ t = .int .i64 j ∧ q = x.Feds.length - j ∧ (∀ f ∈ (x.Feds.take j).map FedX.f, fedE f x.Parents.length = 0) ∧ Sat e w (blk b 39 x.cs :: L)) x.Feds.length ⟨0, Nat.zero_le _, rfl, rfl, by simp, h5⟩ ?_
  rintro q _ w g ⟨j, hj, rfl, rfl, hno, h6⟩ hg
  refine lt_c (fun c0 => iff_t ?_) (fun c0 => iff_f ?_)
  · obtain ⟨f, hf⟩ := get_of_lt (l := x.Feds) (j := j) (by omega)
    have hfm := List.mem_of_getElem? hf
    refine ixS_rd h6 (i + 1) hi1 (fun g hg => (hr g hg).feds) (fun _ => rfl) hf fun a ha => ?_
    refine ldN_of h6 (i + 1) hi1 ha rfl ?_
    rw [zero_72]
    refine al_s (cs := [.int .i64 0, .int .i64 0, .int .i64 0, .slice none 0 0, .slice none 0 0, .slice none 0 0, .slice none 0 0]) h6 rfl fun t w7 h7 => ?_
    refine stN_at h7 0 rfl (vs := f.cs) rfl rfl (by simp) (fed_cells i hi hS fun g hg => (hr g hg).fed f hfm) (cs' := f.cs) (by rfl) fun w8 h8 => ?_
    refine ldN_at h8 0 (vs := f.cs) rfl (by rfl) rfl ?_
    refine fld_at (ld1_at h8 1 rfl (v := x.pv) rfl ?_)
    have hi2 : (blk t 72 f.cs :: blk b 39 x.cs :: L)[i + 2]? = some S := by simpa using hi
    refine lnS_rd h8 (i + 2) hi2 (fun g hg => (hr g hg).par) ?_
    refine config_fed_s (i + 2) hi2 h8 (fun g hg => (hr g hg).fed f hfm) (hwf.2.1 f hfm) (hs.fed f hfm) fun w9 h9 => ?_
    have hsp : x.Feds.map FedX.f = (x.Feds.take j).map FedX.f ++ f.f :: (x.Feds.drop (j + 1)).map FedX.f := by
      conv => lhs; rw [take_split hf]
      simp
    have hlen : 0 + ((x.Feds.take j).map FedX.f).length = j := by rw [List.length_map, List.length_take]; omega
    refine ne_c (fun c2 => iff_t ?_) (fun c2 => iff_f (inc_s (by omega) ?_))
    · have := hk _ h9.drop.drop
      rw [hsp, fedsE_app _ _ _ _ hno, fedsE_cons, if_pos c2, hlen] at this
      exact this
    · refine hg _ _ _ (by omega) ⟨j + 1, by omega, rfl, rfl, fun y hy => ?_, h9.drop⟩
      rw [List.take_add_one, hf, List.map_append] at hy
      rcases List.mem_append.1 hy with h | h
      · exact hno y h
      · simp at h
        rw [h]; exact c2
  · have ej : j = x.Feds.length := by omega
    rw [ej, List.take_length] at hno
    have := hk _ h6.drop
    rw [← List.append_nil (x.Feds.map FedX.f), fedsE_app _ _ _ _ hno] at this
    exact this
end Go.Proofs.YtenglfaeohgkfaaGreat
