/- Texts of the proof, joined: PrioD, PrioQ, PastA, PastB, GateA, SortP, GateS, GateU, GateD, GateV, GateW, PastC. Conditions: none. -/
import Derived.Test.YtbopajpmadlmhaaGreatR4
section
namespace Go.Proofs.YtbopajpmadlmhaaGreat
open Go Go.E
set_option maxRecDepth 100000
variable {e w : World} {R : List HP} {K : KV}

theorem quo_s {k : IntKind} {a b : Int} (hb : b ≠ 0) (h : K (.int k (k.wrap (a.tdiv b))) w) : bi .quo k (.int k a) (.int k b) w K := ⟨a, b, rfl, rfl, fun _ => hb, h⟩
theorem keyLE_trans {a b c : Key} (h : ¬ KeyLt a b) (k : ¬ KeyLt b c) : ¬ KeyLt a c := by
  intro hac
  rcases KeyLt.tri a b with h1 | h1 | h1
  · exact h h1
  · subst h1; exact k hac
  · exact k (h1.trans hac)
def Heapy (l : List Msg) (n : Nat) : Prop := ∀ (i : Nat) (x y : Msg), 0 < i → i < n → l[i]? = some x → l[(i - 1) / 2]? = some y → ¬ KeyLt x.key y.key
def UpInv (l : List Msg) (j : Nat) : Prop :=
  (∀ (i : Nat) (x y : Msg), 0 < i → i ≠ j → l[i]? = some x → l[(i - 1) / 2]? = some y → ¬ KeyLt x.key y.key) ∧
  ∀ (i : Nat) (x y : Msg), 0 < i → 0 < j → (i - 1) / 2 = j → l[i]? = some x → l[(j - 1) / 2]? = some y → ¬ KeyLt x.key y.key
def DownInv (l : List Msg) (j n : Nat) : Prop :=
  (∀ (i : Nat) (x y : Msg), 0 < i → i < n → (i - 1) / 2 ≠ j → l[i]? = some x → l[(i - 1) / 2]? = some y → ¬ KeyLt x.key y.key) ∧
  ∀ (i : Nat) (x y : Msg), 0 < i → i < n → 0 < j → (i - 1) / 2 = j → l[i]? = some x → l[(j - 1) / 2]? = some y → ¬ KeyLt x.key y.key
theorem Heapy.min {l : List Msg} {n : Nat} (h : Heapy l n) (hn : n ≤ l.length) {z : Msg} (hz : l[0]? = some z) : ∀ (i : Nat) (x : Msg), i < n → l[i]? = some x → ¬ KeyLt x.key z.key := by
  intro i
  induction i using Nat.strongRecOn with
  | _ i ih =>
    intro x hi hx
    by_cases h0 : i = 0
    · subst h0
      rw [hz] at hx
      injection hx with hx
      subst hx
      exact KeyLt.irrefl _
    · obtain ⟨y, hy⟩ := get_of_lt (l := l) (j := (i - 1) / 2) (by omega)
      exact keyLE_trans (h i x y (by omega) hi hx hy) (ih _ (by omega) y (by omega) hy)
theorem UpInv.done {l : List Msg} {j : Nat} (h : UpInv l j) (hj : j = 0 ∨ ∃ x y, l[j]? = some x ∧ l[(j - 1) / 2]? = some y ∧ ¬ KeyLt x.key y.key) : Heapy l l.length := by
  intro i x y hi _ hx hy
  by_cases hij : i = j
  · subst hij
    rcases hj with hj | ⟨x', y', hx', hy', hn⟩
    · omega
    · rw [hx] at hx'
      rw [hy] at hy'
      injection hx' with hx'
      injection hy' with hy'
      subst hx' hy'
      exact hn
  · exact h.1 i x y hi hij hx hy
theorem UpInv.step {l : List Msg} {j : Nat} {x y : Msg} (h : UpInv l j) (hj : 0 < j) (hx : l[j]? = some x) (hy : l[(j - 1) / 2]? = some y) (hlt : KeyLt x.key y.key) : UpInv (swapM l ((j - 1) / 2) j y x) ((j - 1) / 2) := by
  obtain ⟨h1, h2⟩ := h
  have hg := swapM_get (i := (j - 1) / 2) (k := j) hy hx
  constructor
  · intro i a b hi hij ha hb
    rw [hg] at ha hb
    by_cases e1 : i = j
    · subst e1
      rw [if_pos rfl] at ha
      rw [if_neg (by omega), if_pos rfl] at hb
      injection ha with ha
      injection hb with hb
      subst ha hb
      exact hlt.asymm
    · rw [if_neg e1, if_neg hij] at ha
      by_cases e2 : (i - 1) / 2 = j
      · rw [if_pos e2] at hb
        injection hb with hb
        subst hb
        exact h2 i a y hi hj e2 ha hy
      · rw [if_neg e2] at hb
        by_cases e3 : (i - 1) / 2 = (j - 1) / 2
        · rw [if_pos e3] at hb
          injection hb with hb
          subst hb
          have := h1 i a y hi e1 ha (by rw [e3]; exact hy)
          intro hax
          exact this (hax.trans hlt)
        · rw [if_neg e3] at hb
          exact h1 i a b hi e1 ha hb
  · intro i a b hi hp hpar ha hb
    rw [hg] at ha hb
    rw [if_neg (by omega), if_neg (by omega)] at hb
    have hyb := h1 ((j - 1) / 2) y b hp (by omega) hy hb
    by_cases e1 : i = j
    · rw [if_pos e1] at ha
      injection ha with ha
      subst ha
      exact hyb
    · rw [if_neg e1, if_neg (by omega)] at ha
      have := h1 i a y hi e1 ha (by rw [hpar]; exact hy)
      exact keyLE_trans this hyb

theorem up_s {q j0 : Nat} {room : Int} {l : List Msg} (hj : j0 < l.length) (hl : l.length ≤ 1001) (hS : Sat e w (IsPrio q room l :: R)) (hk : ∀ l' w', l'.Perm l → (UpInv l j0 → Heapy l' l'.length) → Sat e w' (IsPrio q room l' :: R) → K (.tuple #[]) w') :
    Cl prog 175 #[.iface 172 (rcv q), .int .i64 (j0 : Int)] w K := by
  refine heap_up_calls ?_
  unfold heap_up
  refine lpi1 (fun z t1 w => ∃ (j : Nat) (l' : List Msg), t1 = .int .i64 (j : Int) ∧ z = j ∧ j < l'.length ∧ l'.Perm l ∧ (UpInv l j0 → UpInv l' j) ∧ Sat e w (IsPrio q room l' :: R)) j0
    ⟨j0, l, rfl, rfl, hj, .refl _, id, hS⟩ ?_
  rintro j _ w g ⟨j', l', rfl, rfl, hjl, hp, hinv, h1⟩ hg
  have hlen := hp.length_eq
  refine sub_s (by omega) (by omega) (quo_s (by decide) ?_)
  by_cases h0 : j = 0
  · subst h0
    refine eq_t rfl (gd_tf (gd_tf (gd_tf (gd_tf (gd_tf (pk_t (iff_t (hk _ _ hp (fun hu => (hinv hu).done (.inl rfl)) h1))))))))
  · have e1 : IntKind.i64.wrap (((j : Int) - 1).tdiv 2) = (((j - 1) / 2 : Nat) : Int) := by
      rw [Int.tdiv_eq_ediv_of_nonneg (by omega), wrap_i64 (by omega) (by omega)]
      omega
    rw [e1]
    obtain ⟨x, hx⟩ := get_of_lt hjl
    obtain ⟨y, hy⟩ := get_of_lt (l := l') (j := (j - 1) / 2) (by omega)
    refine eq_f (by omega) (gd_ff (gd_ff (gd_ff (gd_ff ?_))))
    refine faced_Less_s hx hy h1 fun w2 h2 => ?_
    by_cases hlt : cmpK x.key y.key < 0
    · rw [decide_eq_true hlt]
      refine gd_ff (not_t (pk_f (iff_f ?_)))
      refine faced_Swap_s hy hx h2 fun w3 h3 => ?_
      refine hg _ _ _ (by omega) ⟨(j - 1) / 2, _, rfl, rfl, by rw [swapM_len]; omega, (swapM_perm hy hx).trans hp, fun hu => (hinv hu).step (by omega) hx hy (cmpK_lt.1 hlt), h3⟩
    · rw [decide_eq_false hlt]
      refine gd_ff (not_f (pk_f (iff_t (hk _ _ hp (fun hu => (hinv hu).done (.inr ⟨x, y, hx, hy, fun h => hlt (cmpK_lt.2 h)⟩)) h2))))

theorem DownInv.done {l : List Msg} {j n : Nat} (h : DownInv l j n) (hj : ∀ (i : Nat) (x y : Msg), 0 < i → i < n → (i - 1) / 2 = j → l[i]? = some x → l[j]? = some y → ¬ KeyLt x.key y.key) : Heapy l n := by
  intro i x y hi hn hx hy
  by_cases hij : (i - 1) / 2 = j
  · exact hj i x y hi hn hij hx (by rw [← hij]; exact hy)
  · exact h.1 i x y hi hn hij hx hy
theorem DownInv.step {l : List Msg} {j c n : Nat} {x y : Msg} (h : DownInv l j n) (hc0 : 0 < c) (hcn : c < n) (hcj : (c - 1) / 2 = j) (hx : l[j]? = some x) (hy : l[c]? = some y) (hlt : KeyLt y.key x.key)
    (hmin : ∀ (i : Nat) (a : Msg), 0 < i → i < n → (i - 1) / 2 = j → l[i]? = some a → ¬ KeyLt a.key y.key) : DownInv (swapM l j c x y) c n := by
  obtain ⟨h1, h2⟩ := h
  have hg := swapM_get (i := j) (k := c) hx hy
  constructor
  · intro i a b hi hn hij ha hb
    rw [hg] at ha hb
    rw [if_neg hij] at hb
    by_cases e1 : i = c
    · subst e1
      rw [if_pos rfl] at ha
      rw [if_pos hcj] at hb
      injection ha with ha
      injection hb with hb
      subst ha hb
      exact hlt.asymm
    · rw [if_neg e1] at ha
      by_cases e2 : (i - 1) / 2 = j
      · rw [if_pos e2] at hb
        rw [if_neg (by omega)] at ha
        injection hb with hb
        subst hb
        exact hmin i a hi hn e2 ha
      · rw [if_neg e2] at hb
        by_cases e3 : i = j
        · rw [if_pos e3] at ha
          injection ha with ha
          subst ha
          subst e3
          exact h2 c y b hc0 hcn hi hcj hy hb
        · rw [if_neg e3] at ha
          exact h1 i a b hi hn e2 ha hb
  · intro i a b hi hn hc hpar ha hb
    rw [hg] at ha hb
    rw [if_neg (by omega), if_neg (by omega)] at ha
    rw [if_neg (by omega), if_pos hcj] at hb
    injection hb with hb
    subst hb
    exact h1 i a y hi hn (by omega) ha (by rw [hpar]; exact hy)

theorem down_s {q i0 n : Nat} {room : Int} {l : List Msg} (hn : n ≤ l.length) (hi0 : i0 ≤ n) (hl : l.length ≤ 1001) (hS : Sat e w (IsPrio q room l :: R))
    (hk : ∀ l' b w', l'.Perm l → (∀ i, n ≤ i → l'[i]? = l[i]?) → (DownInv l i0 n → Heapy l' n) → Sat e w' (IsPrio q room l' :: R) → K (.bool b) w') :
    Cl prog 152 #[.iface 172 (rcv q), .int .i64 (i0 : Int), .int .i64 (n : Int)] w K := by
  refine heap_down_calls ?_
  unfold heap_down
  refine J1.cut (fun t7 w => ∃ (i : Nat) (l' : List Msg), t7 = .int .i64 (i : Int) ∧ l'.Perm l ∧ (∀ i, n ≤ i → l'[i]? = l[i]?) ∧ (DownInv l i0 n → Heapy l' n) ∧ Sat e w (IsPrio q room l' :: R)) (fun k1 hcut => ?_) ?_
  · refine lpi1 (fun z t7 w => ∃ (j : Nat) (l' : List Msg), t7 = .int .i64 (j : Int) ∧ z = n - j ∧ j ≤ n ∧ l'.Perm l ∧ (∀ i, n ≤ i → l'[i]? = l[i]?) ∧ (DownInv l i0 n → DownInv l' j n) ∧ Sat e w (IsPrio q room l' :: R)) (n - i0)
      ⟨i0, l, rfl, rfl, hi0, .refl _, fun _ _ => rfl, id, hS⟩ ?_
    rintro z _ w g ⟨j, l', rfl, rfl, hjn, hp, htail, hinv, h1⟩ hg
    have hlen := hp.length_eq
    refine muln_s (a := 2) (by omega) (addn_s (b := 1) (by omega) ?_)
    refine ge_c (fun c1 => ?_) (fun c1 => ?_)
    · refine gd_tf (gd_tf (pk_t (iff_t (hcut _ _ ⟨j, l', rfl, hp, htail, fun hd => (hinv hd).done fun i x y hi hin hpar _ _ => ?_, h1⟩))))
      omega
    · refine gd_ff (gd_ff (lt_f (by omega) (pk_f (iff_f ?_))))
      refine addn_s (b := 1) (by omega) ?_
      obtain ⟨x, hx⟩ := get_of_lt (l := l') (j := j) (by omega)
      obtain ⟨y1, hy1⟩ := get_of_lt (l := l') (j := 2 * j + 1) (by omega)
      have hrest : ∀ (c : Nat) (y : Msg) w', (c = 2 * j + 1 ∨ c = 2 * j + 1 + 1) → c < n → l'[c]? = some y → (∀ (i : Nat) (a : Msg), 0 < i → i < n → (i - 1) / 2 = j → l'[i]? = some a → ¬ KeyLt a.key y.key) → Sat e w' (IsPrio q room l' :: R) →
          clI prog (.iface 172 (rcv q)) "Less" #[.int .i64 (c : Int), .int .i64 (j : Int)] w' fun t38 w => bnot t38 w fun t39 w => iff' t39 (k1 (.int .i64 (j : Int)) w)
            (clI prog (.iface 172 (rcv q)) "Swap" #[.int .i64 (j : Int), .int .i64 (c : Int)] w fun _ w => g [.int .i64 (c : Int)] w) := by
        intro c y w' hc hcn hy hmin h2
        refine faced_Less_s hy hx h2 fun w3 h3 => ?_
        by_cases hlt : cmpK y.key x.key < 0
        · rw [decide_eq_true hlt]
          refine not_t (iff_f ?_)
          refine faced_Swap_s hx hy h3 fun w4 h4 => ?_
          refine hg _ _ _ (by omega) ⟨c, _, rfl, rfl, by omega, (swapM_perm hx hy).trans hp, fun i hi => ?_, fun hd => (hinv hd).step (by omega) hcn (by omega) hx hy (cmpK_lt.1 hlt) hmin, h4⟩
          rw [swapM_get hx hy, if_neg (by omega), if_neg (by omega)]
          exact htail i hi
        · rw [decide_eq_false hlt]
          refine not_f (iff_t (hcut _ _ ⟨j, l', rfl, hp, htail, fun hd => (hinv hd).done fun i a b hi hin hpar ha hb => ?_, h3⟩))
          rw [hx] at hb
          injection hb with hb
          subst hb
          exact keyLE_trans (hmin i a hi hin hpar ha) (fun h => hlt (cmpK_lt.2 h))
      refine lt_c (fun c2 => ?_) (fun c2 => ?_)
      · obtain ⟨y2, hy2⟩ := get_of_lt (l := l') (j := 2 * j + 1 + 1) (by omega)
        refine gd_tt (gd_tt (gd_tt (gd_tt ?_)))
        refine faced_Less_s hy2 hy1 h1 fun w2 h2 => ?_
        by_cases hlt : cmpK y2.key y1.key < 0
        · rw [decide_eq_true hlt]
          refine pk_t (iff_t ?_)
          refine hrest (2 * j + 1 + 1) y2 _ (.inr rfl) (by omega) hy2 (fun i a hi hin hpar ha => ?_) h2
          have : i = 2 * j + 1 ∨ i = 2 * j + 1 + 1 := by omega
          rcases this with rfl | rfl
          · rw [hy1] at ha; injection ha with ha; subst ha; exact (cmpK_lt.1 hlt).asymm
          · rw [hy2] at ha; injection ha with ha; subst ha; exact KeyLt.irrefl _
        · rw [decide_eq_false hlt]
          refine pk_t (iff_f ?_)
          refine hrest (2 * j + 1) y1 _ (.inl rfl) (by omega) hy1 (fun i a hi hin hpar ha => ?_) h2
          have : i = 2 * j + 1 ∨ i = 2 * j + 1 + 1 := by omega
          rcases this with rfl | rfl
          · rw [hy1] at ha; injection ha with ha; subst ha; exact KeyLt.irrefl _
          · rw [hy2] at ha; injection ha with ha; subst ha; exact fun h => hlt (cmpK_lt.2 h)
      · refine gd_ft (gd_ft (gd_ft (gd_ft (pk_f (iff_f ?_)))))
        refine hrest (2 * j + 1) y1 _ (.inl rfl) (by omega) hy1 (fun i a hi hin hpar ha => ?_) h1
        have : i = 2 * j + 1 := by omega
        subst this
        rw [hy1] at ha; injection ha with ha; subst ha; exact KeyLt.irrefl _
  · rintro _ w ⟨i, l', rfl, hp, htail, hd, h2⟩
    exact gt_d (hk _ _ _ hp htail hd h2)

theorem heapPush_s {q : Nat} {room : Int} {l : List Msg} {x : Msg} (hx : ∀ y ∈ l, y.key ≠ x.key) (hl : l.length ≤ 1000) (hS : Sat e w (IsPrio q room l :: R))
    (hk : ∀ l' w', l'.Perm (l ++ [x]) → (Heapy l l.length → Heapy l' l'.length) → Sat e w' (IsPrio q room l' :: R) → K (.tuple #[]) w') :
    Cl prog 148 #[.iface 172 (rcv q), .iface 37 (.agg x.cs.toArray)] w K := by
  refine heap_Push_calls ?_
  unfold heap_Push
  refine faced_Push_s hx hl hS fun w2 h2 => ?_
  refine faced_Len_s h2 fun w3 h3 => ?_
  have hlen : (l ++ [x]).length = l.length + 1 := by simp
  refine dec_s (by omega) (by omega) ?_
  refine up_s (by omega) (by omega) h3 fun l' w4 hp hu h4 => hk _ _ hp (fun hh => hu ⟨fun i a b hi hij ha hb => ?_, fun i a b hi hj hpar ha hb => ?_⟩) h4
  · have hil := (List.getElem?_eq_some_iff.1 ha).1
    rw [List.getElem?_append_left (by omega)] at ha hb
    exact hh i a b hi (by omega) ha hb
  · have hil := (List.getElem?_eq_some_iff.1 ha).1
    omega

def pushE (room : Int) (l : List Msg) (x : Msg) : Int := if (l.any fun y => decide (y.key = x.key)) = true then 3 else if room ≤ l.length then 2 else 0
theorem prio_Push_s {q : Nat} {room : Int} {l : List Msg} {x : Msg} (hl : l.length ≤ 1000) (hS : Sat e w (IsPrio q room l :: R))
    (hbad : pushE room l x ≠ 0 → ∀ w', Sat e w' (IsPrio q room l :: R) → K (.int .i64 (pushE room l x)) w')
    (hok : pushE room l x = 0 → (∀ y ∈ l, y.key ≠ x.key) → l.length < room → ∀ l' w', l'.Perm (l ++ [x]) → (Heapy l l.length → Heapy l' l'.length) → Sat e w' (IsPrio q room l' :: R) → K (.int .i64 0) w') :
    Cl prog 103 #[.pointer (some ⟨q, 0, none⟩), .agg x.cs.toArray] w K := by
  refine prio_Queue_Push_calls ?_
  unfold prio_Queue_Push
  obtain ⟨v, b, m, ha, h1⟩ := prio_of hS
  refine al_s (cs := x.cs) h1 rfl fun c w2 h2 => ?_
  refine dr_s h2 fun w3 h3 => ?_
  refine ncP_p (fld_at (ld1_at h3 1 rfl (v := .map (some b)) rfl ?_))
  refine fld_at (ldN_at h3 0 (vs := x.key.cs) rfl (by rfl) rfl ?_)
  refine lkM_s keyT_Key mapT_153 h3 3 rfl x.key ?_
  refine xt_02 (xt_12 ?_)
  have hany : (lkA m x.key).isSome = l.any fun y => decide (y.key = x.key) := by
    rw [Bool.eq_iff_iff, ha.has, List.any_eq_true]
    constructor
    · rintro ⟨y, hy, hk⟩; exact ⟨y, hy, by simpa using hk⟩
    · rintro ⟨y, hy, hk⟩; exact ⟨y, hy, by simpa using hk⟩
  rw [hany]
  cases hh : l.any fun y => decide (y.key = x.key) with
  | true =>
    have e1 : pushE room l x = 3 := if_pos hh
    have := hbad (by rw [e1]; decide) w3 (prio_mk ha h3.drop)
    rw [e1] at this
    exact iff_t this
  | false =>
    refine iff_f ?_
    refine dr_s h3 fun w4 h4 => ?_
    refine ncP_p (fld_at (ld1_at h4 1 rfl (v := v) rfl ?_))
    refine lnS_rd h4 2 rfl (fun g hg => own_rd hg) ?_
    refine ncP_p (fld_at (ld1_at h4 1 rfl (v := .int .i64 room) rfl ?_))
    have hno : ¬ (l.any fun y => decide (y.key = x.key)) = true := by rw [hh]; decide
    refine ge_c (fun c1 => iff_t ?_) (fun c1 => iff_f ?_)
    · have e1 : pushE room l x = 2 := by unfold pushE; rw [if_neg hno, if_pos c1]
      have := hbad (by rw [e1]; decide) w4 (prio_mk ha h4.drop)
      rw [e1] at this
      exact this
    · have e1 : pushE room l x = 0 := by unfold pushE; rw [if_neg hno, if_neg c1]
      rw [zero_172]
      refine bld_s [.pointer (some ⟨q, 0, none⟩)] (by kernel_rfl) ?_
      refine ldN_at h4 0 (vs := x.cs) rfl (by rfl) rfl ?_
      have hne : ∀ y ∈ l, y.key ≠ x.key := fun y hy hk => by
        rw [List.any_eq_false] at hh
        exact hh y hy (by simpa using hk)
      refine heapPush_s hne hl (prio_mk ha h4.drop) fun l' w5 hp hheap h5 => ?_
      exact hok e1 hne (by omega) l' w5 hp hheap h5
end Go.Proofs.YtbopajpmadlmhaaGreat
namespace Go.Proofs.YtbopajpmadlmhaaGreat
open Go Go.E
set_option maxRecDepth 100000
variable {e w : World} {R : List HP} {K : KV}

theorem AtOk.pop {m : List (Key × Nat)} {l : List Msg} {x : Msg} (h : AtOk m (l ++ [x])) : AtOk (dlA m x.key) l := by
  have hxl : (l ++ [x])[l.length]? = some x := by simp
  refine ⟨h.u.dl _, fun k i => ?_⟩
  rw [lkA_dl h.u]
  by_cases hk : k = x.key
  · rw [if_pos hk]
    constructor
    · intro hn; cases hn
    · rintro ⟨y, hy, hyk⟩
      have hil := (List.getElem?_eq_some_iff.1 hy).1
      have := h.inj (i := i) (j := l.length) (by rw [List.getElem?_append_left hil]; exact hy) hxl (by rw [hyk, hk])
      omega
  · rw [if_neg hk, h.ok k i]
    constructor
    · rintro ⟨y, hy, hyk⟩
      by_cases hil : i < l.length
      · rw [List.getElem?_append_left hil] at hy
        exact ⟨y, hy, hyk⟩
      · have hle := (List.getElem?_eq_some_iff.1 hy).1
        rw [List.length_append] at hle
        simp only [List.length_cons, List.length_nil] at hle
        rw [show i = l.length by omega, hxl] at hy
        injection hy with hy
        subst hy
        exact absurd hyk.symm hk
    · rintro ⟨y, hy, hyk⟩
      exact ⟨y, by rw [List.getElem?_append_left (List.getElem?_eq_some_iff.1 hy).1]; exact hy, hyk⟩

theorem faced_Pop_s {q : Nat} {room : Int} {l : List Msg} {x : Msg} (hl : l.length ≤ 1000) (hS : Sat e w (IsPrio q room (l ++ [x]) :: R)) (hk : ∀ w', Sat e w' (IsPrio q room l :: R) → K (.iface 37 (.agg x.cs.toArray)) w') :
    clI prog (.iface 172 (rcv q)) "Pop" #[] w K := by
  refine clI_s (f := 226) (rcv := rcv q) (by kernel_rfl) ?_
  refine prio_faced_Pop_calls (t0 := rcv q) ?_
  unfold prio_faced_Pop
  obtain ⟨v, b, m, ha, h1⟩ := prio_of hS
  have hlen : (l ++ [x]).length = l.length + 1 := by simp
  have hxl : (l ++ [x])[l.length]? = some x := by simp
  refine al_s (cs := [.pointer (some ⟨q, 0, none⟩)]) h1 rfl fun c w2 h2 => ?_
  refine fld_at (ld1_at h2 0 rfl (v := .pointer (some ⟨q, 0, none⟩)) rfl ?_)
  refine ncP_p (fld_at (ld1_at h2 1 rfl (v := v) rfl ?_))
  refine lnS_rd h2 2 rfl (fun g hg => own_rd hg) ?_
  rw [hlen]
  refine dec_s (by omega) (by omega) ?_
  rw [Nat.add_sub_cancel]
  refine fld_at (ld1_at h2 0 rfl (v := .pointer (some ⟨q, 0, none⟩)) rfl ?_)
  refine ncP_p (fld_at (ld1_at h2 1 rfl (v := v) rfl ?_))
  refine ixS_rd h2 2 rfl (fun g hg => own_rd hg) (fun _ => rfl) hxl fun p hp => ?_
  refine ldN_of h2 2 rfl hp rfl ?_
  rw [zero_37]
  refine al_s (cs := ints [0, 0, 0, 0, 0, 0]) h2 rfl fun d w3 h3 => ?_
  refine stN_at h3 0 rfl (vs := x.cs) rfl rfl (Nat.le_of_ble_eq_true rfl) (ints_flat _) (cs' := x.cs) (by kernel_rfl) fun w4 h4 => ?_
  refine dr_s h4 fun w5 h5 => ?_
  refine fld_at (ld1_at h5 1 rfl (v := .pointer (some ⟨q, 0, none⟩)) rfl ?_)
  refine fld_at (ld1_at h5 1 rfl (v := .pointer (some ⟨q, 0, none⟩)) rfl ?_)
  refine ncP_p (fld_at (ld1_at h5 2 rfl (v := v) rfl ?_))
  refine slc_own h5 3 rfl (fun _ => rfl) (hi := l.length) (by omega) fun v' h6 => ?_
  rw [List.take_left' rfl] at h6
  refine ncP_p (fld_at ?_)
  refine st1_at h6 2 rfl (h6.own_cells 3 rfl) (Nat.le_of_ble_eq_true rfl) (cs' := [.int .i64 room, v', .map (some b)]) rfl fun w7 h7 => ?_
  replace h7 : Sat e w7 (blk d 37 x.cs :: blk c 172 [.pointer (some ⟨q, 0, none⟩)] :: blk q 155 [.int .i64 room, v', .map (some b)] :: ownS 37 6 Msg.cs v' l :: isMap kfK vfN b m :: R) := h7
  refine dr_s h7 fun w8 h8 => ?_
  refine fld_at (ld1_at h8 1 rfl (v := .pointer (some ⟨q, 0, none⟩)) rfl ?_)
  refine ncP_p (fld_at (ld1_at h8 2 rfl (v := .map (some b)) rfl ?_))
  refine fld_at (ldN_at h8 0 (vs := x.key.cs) rfl (by rfl) rfl ?_)
  refine dlM_s keyT_Key mapT_153 (h8.pick 4 rfl) x.key fun w9 h9 => ?_
  refine ldN_at h9 1 (vs := x.cs) rfl (by rfl) rfl ?_
  exact hk _ (prio_mk ha.pop (h9.selR [_, _, _, _, _] [_, _, _] [3, 4, 0] (by decide) rfl))

theorem heapPop_s {q : Nat} {room : Int} {l : List Msg} {x : Msg} (hx : l[0]? = some x) (hl : l.length ≤ 1001) (hS : Sat e w (IsPrio q room l :: R))
    (hk : ∀ l' w', (l' ++ [x]).Perm l → (Heapy l l.length → Heapy l' l'.length) → Sat e w' (IsPrio q room l' :: R) → K (.iface 37 (.agg x.cs.toArray)) w') :
    Cl prog 107 #[.iface 172 (rcv q)] w K := by
  refine heap_Pop_calls ?_
  unfold heap_Pop
  have h0 := (List.getElem?_eq_some_iff.1 hx).1
  obtain ⟨n, hn⟩ : ∃ n, l.length = n + 1 := ⟨l.length - 1, by omega⟩
  obtain ⟨y, hy⟩ := get_of_lt (l := l) (j := n) (by omega)
  refine faced_Len_s hS fun w2 h2 => ?_
  rw [hn]
  refine dec_s (by omega) (by omega) ?_
  rw [Nat.add_sub_cancel]
  refine faced_Swap_s (i := 0) (k := n) hx hy h2 fun w3 h3 => ?_
  have hp1 := swapM_perm hx hy
  refine down_s (i0 := 0) (n := n) (by rw [swapM_len]; omega) (by omega) (by rw [swapM_len]; omega) h3 fun l2 bb w4 hp2 htail hd h4 => ?_
  have hl2 : l2.length = n + 1 := by rw [hp2.length_eq, swapM_len, hn]
  have hln : l2[n]? = some x := by rw [htail n (Nat.le_refl _), swapM_get hx hy, if_pos rfl]
  have hsp : l2 = l2.take n ++ [x] := by
    have := take_snoc hln
    rw [List.take_of_length_le (by omega)] at this
    exact this
  have hpf : (l2.take n ++ [x]).Perm l := by rw [← hsp]; exact hp2.trans hp1
  rw [hsp] at h4
  refine faced_Pop_s (by rw [List.length_take]; omega) h4 fun w5 h5 => hk _ _ hpf (fun hh => ?_) h5
  have hh2 := hd ⟨fun i a b hi hin hpar ha hb => ?_, fun i a b hi hin hj => by omega⟩
  · intro i a b hi hin ha hb
    rw [List.length_take] at hin
    rw [List.getElem?_take, if_pos (by omega)] at ha hb
    exact hh2 i a b hi (by omega) ha hb
  · rw [swapM_get hx hy, if_neg (by omega), if_neg (by omega)] at ha hb
    exact hh i a b hi (by omega) ha hb

theorem prio_Pop_none {q : Nat} {room : Int} (hS : Sat e w (IsPrio q room [] :: R)) (hk : ∀ w', Sat e w' (IsPrio q room [] :: R) → K (.tuple #[.agg Msg.zero.cs.toArray, .bool false]) w') : Cl prog 54 #[.pointer (some ⟨q, 0, none⟩)] w K := by
  refine prio_Queue_Pop_calls ?_
  unfold prio_Queue_Pop
  rw [zero_37]
  obtain ⟨v, b, m, ha, h1⟩ := prio_of hS
  refine al_s (cs := ints [0, 0, 0, 0, 0, 0]) h1 rfl fun d w3 h3 => ?_
  refine ncP_p (fld_at (ld1_at h3 1 rfl (v := v) rfl ?_))
  refine lnS_rd h3 2 rfl (fun g hg => own_rd hg) ?_
  refine eq_t rfl (iff_t ?_)
  refine bld_s Msg.zero.cs (by kernel_rfl) ?_
  refine stN_at h3 0 rfl (vs := Msg.zero.cs) rfl rfl (Nat.le_of_ble_eq_true rfl) (ints_flat _) (cs' := Msg.zero.cs) (by kernel_rfl) fun w4 h4 => ?_
  refine ldN_at h4 0 (vs := Msg.zero.cs) rfl (by rfl) rfl ?_
  exact hk _ (prio_mk ha h4.drop)
theorem prio_Pop_s {q : Nat} {room : Int} {l : List Msg} {x : Msg} (hx : l[0]? = some x) (hl : l.length ≤ 1001) (hS : Sat e w (IsPrio q room l :: R))
    (hk : ∀ l' w', (l' ++ [x]).Perm l → (Heapy l l.length → Heapy l' l'.length) → Sat e w' (IsPrio q room l' :: R) → K (.tuple #[.agg x.cs.toArray, .bool true]) w') : Cl prog 54 #[.pointer (some ⟨q, 0, none⟩)] w K := by
  refine prio_Queue_Pop_calls ?_
  unfold prio_Queue_Pop
  rw [zero_37, zero_172]
  obtain ⟨v, b, m, ha, h1⟩ := prio_of hS
  have h0 := (List.getElem?_eq_some_iff.1 hx).1
  refine al_s (cs := ints [0, 0, 0, 0, 0, 0]) h1 rfl fun d w3 h3 => ?_
  refine ncP_p (fld_at (ld1_at h3 1 rfl (v := v) rfl ?_))
  refine lnS_rd h3 2 rfl (fun g hg => own_rd hg) ?_
  refine eq_f (by omega) (iff_f ?_)
  refine bld_s [.pointer (some ⟨q, 0, none⟩)] (by kernel_rfl) ?_
  refine heapPop_s hx hl (prio_mk ha (h3.selR [_, _, _, _] [_, _, _, _] [1, 2, 3, 0] (by decide) rfl)) fun l' w4 hp hh h4 => ?_
  refine tyA_ok (by kernel_rfl) ?_
  refine stN_at h4 1 rfl (vs := x.cs) rfl rfl (Nat.le_of_ble_eq_true rfl) (ints_flat _) (cs' := x.cs) (by kernel_rfl) fun w5 h5 => ?_
  refine ldN_at h5 1 (vs := x.cs) rfl (by rfl) rfl ?_
  exact hk _ _ hp hh (h5.selR [_, _] [_] [0] (by decide) rfl)
end Go.Proofs.YtbopajpmadlmhaaGreat
namespace Go.Proofs.YtbopajpmadlmhaaGreat
open Go Go.E
set_option maxRecDepth 100000
variable {e w : World} {R : List HP} {K : KV}

def UpN (l : List Msg) (j n : Nat) : Prop :=
  (∀ (i : Nat) (x y : Msg), 0 < i → i < n → i ≠ j → l[i]? = some x → l[(i - 1) / 2]? = some y → ¬ KeyLt x.key y.key) ∧
  ∀ (i : Nat) (x y : Msg), 0 < i → i < n → 0 < j → (i - 1) / 2 = j → l[i]? = some x → l[(j - 1) / 2]? = some y → ¬ KeyLt x.key y.key
theorem UpN.done {l : List Msg} {j n : Nat} (h : UpN l j n) (hj : j = 0 ∨ ∃ x y, l[j]? = some x ∧ l[(j - 1) / 2]? = some y ∧ ¬ KeyLt x.key y.key) : Heapy l n := by
  intro i x y hi hin hx hy
  by_cases hij : i = j
  · subst hij
    rcases hj with hj | ⟨x', y', hx', hy', hn⟩
    · omega
    · rw [hx] at hx'
      rw [hy] at hy'
      injection hx' with hx'
      injection hy' with hy'
      subst hx' hy'
      exact hn
  · exact h.1 i x y hi hin hij hx hy
theorem UpN.step {l : List Msg} {j n : Nat} {x y : Msg} (h : UpN l j n) (hj : 0 < j) (hjn : j < n) (hx : l[j]? = some x) (hy : l[(j - 1) / 2]? = some y) (hlt : KeyLt x.key y.key) : UpN (swapM l ((j - 1) / 2) j y x) ((j - 1) / 2) n := by
  obtain ⟨h1, h2⟩ := h
  have hg := swapM_get (i := (j - 1) / 2) (k := j) hy hx
  constructor
  · intro i a b hi hin hij ha hb
    rw [hg] at ha hb
    by_cases e1 : i = j
    · subst e1
      rw [if_pos rfl] at ha
      rw [if_neg (by omega), if_pos rfl] at hb
      injection ha with ha
      injection hb with hb
      subst ha hb
      exact hlt.asymm
    · rw [if_neg e1, if_neg hij] at ha
      by_cases e2 : (i - 1) / 2 = j
      · rw [if_pos e2] at hb
        injection hb with hb
        subst hb
        exact h2 i a y hi hin hj e2 ha hy
      · rw [if_neg e2] at hb
        by_cases e3 : (i - 1) / 2 = (j - 1) / 2
        · rw [if_pos e3] at hb
          injection hb with hb
          subst hb
          have := h1 i a y hi hin e1 ha (by rw [e3]; exact hy)
          intro hax
          exact this (hax.trans hlt)
        · rw [if_neg e3] at hb
          exact h1 i a b hi hin e1 ha hb
  · intro i a b hi hin hp hpar ha hb
    rw [hg] at ha hb
    rw [if_neg (by omega), if_neg (by omega)] at hb
    have hyb := h1 ((j - 1) / 2) y b hp (by omega) (by omega) hy hb
    by_cases e1 : i = j
    · rw [if_pos e1] at ha
      injection ha with ha
      subst ha
      exact hyb
    · rw [if_neg e1, if_neg (by omega)] at ha
      have := h1 i a y hi hin e1 ha (by rw [hpar]; exact hy)
      exact keyLE_trans this hyb

theorem up2_s {q j0 n : Nat} {room : Int} {l : List Msg} (hj : j0 < n) (hn : n ≤ l.length) (hl : l.length ≤ 1001) (hS : Sat e w (IsPrio q room l :: R))
    (hk : ∀ l' w', l'.Perm l → (∀ i, n ≤ i → l'[i]? = l[i]?) → (UpN l j0 n → Heapy l' n) → Sat e w' (IsPrio q room l' :: R) → K (.tuple #[]) w') :
    Cl prog 175 #[.iface 172 (rcv q), .int .i64 (j0 : Int)] w K := by
  refine heap_up_calls ?_
  unfold heap_up
  refine lpi1 (fun z t1 w => ∃ (j : Nat) (l' : List Msg), t1 = .int .i64 (j : Int) ∧ z = j ∧ j < n ∧ l'.Perm l ∧ (∀ i, n ≤ i → l'[i]? = l[i]?) ∧ (UpN l j0 n → UpN l' j n) ∧ Sat e w (IsPrio q room l' :: R)) j0
    ⟨j0, l, rfl, rfl, hj, .refl _, fun _ _ => rfl, id, hS⟩ ?_
  rintro j _ w g ⟨j', l', rfl, rfl, hjn, hp, htail, hinv, h1⟩ hg
  have hlen := hp.length_eq
  refine sub_s (by omega) (by omega) (quo_s (by decide) ?_)
  by_cases h0 : j = 0
  · subst h0
    refine eq_t rfl (gd_tf (gd_tf (gd_tf (gd_tf (gd_tf (pk_t (iff_t (hk _ _ hp htail (fun hu => (hinv hu).done (.inl rfl)) h1))))))))
  · have e1 : IntKind.i64.wrap (((j : Int) - 1).tdiv 2) = (((j - 1) / 2 : Nat) : Int) := by
      rw [Int.tdiv_eq_ediv_of_nonneg (by omega), wrap_i64 (by omega) (by omega)]
      omega
    rw [e1]
    obtain ⟨x, hx⟩ := get_of_lt (l := l') (j := j) (by omega)
    obtain ⟨y, hy⟩ := get_of_lt (l := l') (j := (j - 1) / 2) (by omega)
    refine eq_f (by omega) (gd_ff (gd_ff (gd_ff (gd_ff ?_))))
    refine faced_Less_s hx hy h1 fun w2 h2 => ?_
    by_cases hlt : cmpK x.key y.key < 0
    · rw [decide_eq_true hlt]
      refine gd_ff (not_t (pk_f (iff_f ?_)))
      refine faced_Swap_s hy hx h2 fun w3 h3 => ?_
      refine hg _ _ _ (by omega) ⟨(j - 1) / 2, _, rfl, rfl, by omega, (swapM_perm hy hx).trans hp, fun i hi => ?_, fun hu => (hinv hu).step (by omega) hjn hx hy (cmpK_lt.1 hlt), h3⟩
      rw [swapM_get hy hx, if_neg (by omega), if_neg (by omega)]
      exact htail i hi
    · rw [decide_eq_false hlt]
      refine gd_ff (not_f (pk_f (iff_t (hk _ _ hp htail (fun hu => (hinv hu).done (.inr ⟨x, y, hx, hy, fun h => hlt (cmpK_lt.2 h)⟩)) h2))))

def Hole (l : List Msg) (j n : Nat) : Prop :=
  (∀ (i : Nat) (x y : Msg), 0 < i → i < n → i ≠ j → (i - 1) / 2 ≠ j → l[i]? = some x → l[(i - 1) / 2]? = some y → ¬ KeyLt x.key y.key) ∧
  ∀ (i : Nat) (x y : Msg), 0 < i → i < n → 0 < j → (i - 1) / 2 = j → l[i]? = some x → l[(j - 1) / 2]? = some y → ¬ KeyLt x.key y.key
theorem Hole.step {l : List Msg} {j c n : Nat} {x y : Msg} (h : Hole l j n) (hc0 : 0 < c) (hcn : c < n) (hcj : (c - 1) / 2 = j) (hx : l[j]? = some x) (hy : l[c]? = some y) (hlt : KeyLt y.key x.key)
    (hmin : ∀ (i : Nat) (a : Msg), 0 < i → i < n → (i - 1) / 2 = j → l[i]? = some a → ¬ KeyLt a.key y.key) : DownInv (swapM l j c x y) c n := by
  obtain ⟨h1, h2⟩ := h
  have hg := swapM_get (i := j) (k := c) hx hy
  constructor
  · intro i a b hi hn hij ha hb
    rw [hg] at ha hb
    rw [if_neg hij] at hb
    by_cases e1 : i = c
    · subst e1
      rw [if_pos rfl] at ha
      rw [if_pos hcj] at hb
      injection ha with ha
      injection hb with hb
      subst ha hb
      exact hlt.asymm
    · rw [if_neg e1] at ha
      by_cases e2 : (i - 1) / 2 = j
      · rw [if_pos e2] at hb
        rw [if_neg (by omega)] at ha
        injection hb with hb
        subst hb
        exact hmin i a hi hn e2 ha
      · rw [if_neg e2] at hb
        by_cases e3 : i = j
        · rw [if_pos e3] at ha
          injection ha with ha
          subst ha
          subst e3
          exact h2 c y b hc0 hcn hi hcj hy hb
        · rw [if_neg e3] at ha
          exact h1 i a b hi hn e3 e2 ha hb
  · intro i a b hi hn hc hpar ha hb
    rw [hg] at ha hb
    rw [if_neg (by omega), if_neg (by omega)] at ha
    rw [if_neg (by omega), if_pos hcj] at hb
    injection hb with hb
    subst hb
    exact h1 i a y hi hn (by omega) (by omega) ha (by rw [hpar]; exact hy)

theorem down2_s {q i0 n : Nat} {room : Int} {l : List Msg} (hn : n ≤ l.length) (hi0 : i0 ≤ n) (hl : l.length ≤ 1001) (hS : Sat e w (IsPrio q room l :: R))
    (hk0 : (∀ (i : Nat) (x y : Msg), 0 < i → i < n → (i - 1) / 2 = i0 → l[i]? = some x → l[i0]? = some y → ¬ KeyLt x.key y.key) → ∀ w', Sat e w' (IsPrio q room l :: R) → K (.bool false) w')
    (hk : ∀ l' w', l'.Perm l → (∀ i, n ≤ i → l'[i]? = l[i]?) → (Hole l i0 n → Heapy l' n) → Sat e w' (IsPrio q room l' :: R) → K (.bool true) w') :
    Cl prog 152 #[.iface 172 (rcv q), .int .i64 (i0 : Int), .int .i64 (n : Int)] w K := by
  refine heap_down_calls ?_
  unfold heap_down
  refine J1.cut (fun t7 w => ∃ (i : Nat) (l' : List Msg), t7 = .int .i64 (i : Int) ∧ i0 ≤ i ∧ l'.Perm l ∧ (∀ i, n ≤ i → l'[i]? = l[i]?) ∧ (i = i0 → l' = l ∧ ∀ (i : Nat) (x y : Msg), 0 < i → i < n → (i - 1) / 2 = i0 → l[i]? = some x → l[i0]? = some y → ¬ KeyLt x.key y.key) ∧
      (i0 < i → Hole l i0 n → Heapy l' n) ∧ Sat e w (IsPrio q room l' :: R)) (fun k1 hcut => ?_) ?_
  · refine lpi1 (fun z t7 w => ∃ (j : Nat) (l' : List Msg), t7 = .int .i64 (j : Int) ∧ z = n - j ∧ i0 ≤ j ∧ j ≤ n ∧ l'.Perm l ∧ (∀ i, n ≤ i → l'[i]? = l[i]?) ∧ (j = i0 → l' = l) ∧ (i0 < j → Hole l i0 n → DownInv l' j n) ∧ Sat e w (IsPrio q room l' :: R)) (n - i0)
      ⟨i0, l, rfl, rfl, Nat.le_refl _, hi0, .refl _, fun _ _ => rfl, fun _ => rfl, (fun h => absurd h (Nat.lt_irrefl _)), hS⟩ ?_
    rintro z _ w g ⟨j, l', rfl, rfl, hij, hjn, hp, htail, hsame, hinv, h1⟩ hg
    have hlen := hp.length_eq
    refine muln_s (a := 2) (by omega) (addn_s (b := 1) (by omega) ?_)
    have hend : ∀ w', (∀ (i : Nat) (x y : Msg), 0 < i → i < n → (i - 1) / 2 = j → l'[i]? = some x → l'[j]? = some y → ¬ KeyLt x.key y.key) → Sat e w' (IsPrio q room l' :: R) → k1 (.int .i64 (j : Int)) w' := by
      intro w' hch h
      refine hcut _ _ ⟨j, l', rfl, hij, hp, htail, fun e => ⟨hsame e, ?_⟩, fun hlt hh => (hinv hlt hh).done hch, h⟩
      subst e
      have := hsame rfl
      subst this
      exact hch
    refine ge_c (fun c1 => ?_) (fun c1 => ?_)
    · refine gd_tf (gd_tf (pk_t (iff_t (hend _ (fun i x y hi hin hpar _ _ => ?_) h1))))
      omega
    · refine gd_ff (gd_ff (lt_f (by omega) (pk_f (iff_f ?_))))
      refine addn_s (b := 1) (by omega) ?_
      obtain ⟨x, hx⟩ := get_of_lt (l := l') (j := j) (by omega)
      obtain ⟨y1, hy1⟩ := get_of_lt (l := l') (j := 2 * j + 1) (by omega)
      have hrest : ∀ (c : Nat) (y : Msg) w', (c = 2 * j + 1 ∨ c = 2 * j + 1 + 1) → c < n → l'[c]? = some y → (∀ (i : Nat) (a : Msg), 0 < i → i < n → (i - 1) / 2 = j → l'[i]? = some a → ¬ KeyLt a.key y.key) → Sat e w' (IsPrio q room l' :: R) →
          clI prog (.iface 172 (rcv q)) "Less" #[.int .i64 (c : Int), .int .i64 (j : Int)] w' fun t38 w => bnot t38 w fun t39 w => iff' t39 (k1 (.int .i64 (j : Int)) w)
            (clI prog (.iface 172 (rcv q)) "Swap" #[.int .i64 (j : Int), .int .i64 (c : Int)] w fun _ w => g [.int .i64 (c : Int)] w) := by
        intro c y w' hc hcn hy hmin h2
        refine faced_Less_s hy hx h2 fun w3 h3 => ?_
        by_cases hlt : cmpK y.key x.key < 0
        · rw [decide_eq_true hlt]
          refine not_t (iff_f ?_)
          refine faced_Swap_s hx hy h3 fun w4 h4 => ?_
          refine hg _ _ _ (by omega) ⟨c, _, rfl, rfl, by omega, by omega, (swapM_perm hx hy).trans hp, fun i hi => ?_, fun e => by omega, fun _ hh => ?_, h4⟩
          · rw [swapM_get hx hy, if_neg (by omega), if_neg (by omega)]
            exact htail i hi
          · by_cases hj0 : j = i0
            · subst hj0
              have := hsame rfl
              subst this
              exact hh.step (by omega) hcn (by omega) hx hy (cmpK_lt.1 hlt) hmin
            · exact (hinv (by omega) hh).step (by omega) hcn (by omega) hx hy (cmpK_lt.1 hlt) hmin
        · rw [decide_eq_false hlt]
          refine not_f (iff_t (hend _ (fun i a b hi hin hpar ha hb => ?_) h3))
          rw [hx] at hb
          injection hb with hb
          subst hb
          exact keyLE_trans (hmin i a hi hin hpar ha) (fun h => hlt (cmpK_lt.2 h))
      refine lt_c (fun c2 => ?_) (fun c2 => ?_)
      · obtain ⟨y2, hy2⟩ := get_of_lt (l := l') (j := 2 * j + 1 + 1) (by omega)
        refine gd_tt (gd_tt (gd_tt (gd_tt ?_)))
        refine faced_Less_s hy2 hy1 h1 fun w2 h2 => ?_
        by_cases hlt : cmpK y2.key y1.key < 0
        · rw [decide_eq_true hlt]
          refine pk_t (iff_t ?_)
          refine hrest (2 * j + 1 + 1) y2 _ (.inr rfl) (by omega) hy2 (fun i a hi hin hpar ha => ?_) h2
          have : i = 2 * j + 1 ∨ i = 2 * j + 1 + 1 := by omega
          rcases this with rfl | rfl
          · rw [hy1] at ha; injection ha with ha; subst ha; exact (cmpK_lt.1 hlt).asymm
          · rw [hy2] at ha; injection ha with ha; subst ha; exact KeyLt.irrefl _
        · rw [decide_eq_false hlt]
          refine pk_t (iff_f ?_)
          refine hrest (2 * j + 1) y1 _ (.inl rfl) (by omega) hy1 (fun i a hi hin hpar ha => ?_) h2
          have : i = 2 * j + 1 ∨ i = 2 * j + 1 + 1 := by omega
          rcases this with rfl | rfl
          · rw [hy1] at ha; injection ha with ha; subst ha; exact KeyLt.irrefl _
          · rw [hy2] at ha; injection ha with ha; subst ha; exact fun h => hlt (cmpK_lt.2 h)
      · refine gd_ft (gd_ft (gd_ft (gd_ft (pk_f (iff_f ?_)))))
        refine hrest (2 * j + 1) y1 _ (.inl rfl) (by omega) hy1 (fun i a hi hin hpar ha => ?_) h1
        have : i = 2 * j + 1 := by omega
        subst this
        rw [hy1] at ha; injection ha with ha; subst ha; exact KeyLt.irrefl _
  · rintro _ w ⟨i, l', rfl, hii, hp, htail, hsame, hd, h2⟩
    refine gt_c (fun c => ?_) (fun c => ?_)
    · exact hk l' _ hp htail (hd (by omega)) h2
    · have : i = i0 := by omega
      obtain ⟨hs1, hs2⟩ := hsame this
      subst hs1
      exact hk0 hs2 _ h2

theorem heapRemove_s {q i : Nat} {room : Int} {l : List Msg} {x : Msg} (hx : l[i]? = some x) (hl : l.length ≤ 1001) (hS : Sat e w (IsPrio q room l :: R))
    (hk : ∀ l' w', (l' ++ [x]).Perm l → (Heapy l l.length → Heapy l' l'.length) → Sat e w' (IsPrio q room l' :: R) → K (.iface 37 (.agg x.cs.toArray)) w') :
    Cl prog 149 #[.iface 172 (rcv q), .int .i64 (i : Int)] w K := by
  refine heap_Remove_calls ?_
  unfold heap_Remove
  have h0 := (List.getElem?_eq_some_iff.1 hx).1
  obtain ⟨n, hn⟩ : ∃ n, l.length = n + 1 := ⟨l.length - 1, by omega⟩
  obtain ⟨y, hy⟩ := get_of_lt (l := l) (j := n) (by omega)
  refine faced_Len_s hS fun w2 h2 => ?_
  rw [hn]
  refine dec_s (by omega) (by omega) ?_
  rw [Nat.add_sub_cancel]
  have hlast : ∀ l2 w', l2.Perm l → l2[n]? = some x → (Heapy l l.length → Heapy l2 n) → Sat e w' (IsPrio q room l2 :: R) → clI prog (.iface 172 (rcv q)) "Pop" #[] w' K := by
    intro l2 w' hp hln hh h
    have hl2 : l2.length = n + 1 := by rw [hp.length_eq, hn]
    have hsp : l2 = l2.take n ++ [x] := by
      have := take_snoc hln
      rw [List.take_of_length_le (by omega)] at this
      exact this
    have hpf : (l2.take n ++ [x]).Perm l := by rw [← hsp]; exact hp
    rw [hsp] at h
    refine faced_Pop_s (by rw [List.length_take]; omega) h fun w5 h5 => hk _ _ hpf (fun hl => ?_) h5
    have hh2 := hh hl
    intro i a b hi hin ha hb
    rw [List.length_take] at hin
    rw [List.getElem?_take, if_pos (by omega)] at ha hb
    exact hh2 i a b hi (by omega) ha hb
  refine ne_c (fun c => ?_) (fun c => ?_)
  · have hin : i ≠ n := fun e => c (by rw [e])
    refine iff_t ?_
    refine faced_Swap_s hx hy h2 fun w3 h3 => ?_
    have hp1 := swapM_perm hx hy
    have hg1 := swapM_get hx hy
    have hln1 : (swapM l i n x y)[n]? = some x := by rw [hg1, if_pos rfl]
    have hhole : Heapy l l.length → Hole (swapM l i n x y) i n := by
      intro hh
      constructor
      · intro a u v ha han hai hpi hu hv
        rw [hg1, if_neg (by omega), if_neg hai] at hu
        rw [hg1, if_neg (by omega), if_neg hpi] at hv
        exact hh a u v ha (by omega) hu hv
      · intro a u v ha han hi0 hpar hu hv
        rw [hg1, if_neg (by omega), if_neg (by omega)] at hu
        rw [hg1, if_neg (by omega), if_neg (by omega)] at hv
        have h3 := hh a u x ha (by omega) hu (by rw [hpar]; exact hx)
        have h4 := hh i x v hi0 (by omega) hx hv
        exact keyLE_trans h3 h4
    refine down2_s (by rw [swapM_len]; omega) (by omega) (by rw [swapM_len]; omega) h3 (fun hch w4 h4 => ?_) (fun l2 w4 hp2 htail hd h4 => ?_)
    · refine not_f (iff_t ?_)
      refine up2_s (n := n) (by omega) (by rw [swapM_len]; omega) (by rw [swapM_len]; omega) h4 fun l2 w5 hp2 htail hu h5 => ?_
      refine hlast l2 _ (hp2.trans hp1) (by rw [htail n (Nat.le_refl _)]; exact hln1) (fun hh => hu ⟨fun a u v ha han hai hu' hv' => ?_, (hhole hh).2⟩) h5
      by_cases hpi : (a - 1) / 2 = i
      · rw [hpi] at hv'; exact hch a u v ha han hpi hu' hv'
      · exact (hhole hh).1 a u v ha han hai hpi hu' hv'
    · refine not_t (iff_f ?_)
      exact hlast l2 _ (hp2.trans hp1) (by rw [htail n (Nat.le_refl _)]; exact hln1) (fun hh => hd (hhole hh)) h4
  · have hin : i = n := by omega
    subst hin
    refine iff_f ?_
    exact hlast l _ (.refl _) hx (fun hh a u v ha han hu hv => hh a u v ha (by omega) hu hv) h2

theorem prio_Remove_s {q : Nat} {room : Int} {l : List Msg} {x : Msg} (hx : x ∈ l) (hl : l.length ≤ 1001) (hS : Sat e w (IsPrio q room l :: R))
    (hk : ∀ l' w', (l' ++ [x]).Perm l → (Heapy l l.length → Heapy l' l'.length) → Sat e w' (IsPrio q room l' :: R) → K (.tuple #[.agg x.cs.toArray, .bool true]) w') : Cl prog 104 #[.pointer (some ⟨q, 0, none⟩), .agg x.key.cs.toArray] w K := by
  refine prio_Queue_Remove_calls ?_
  unfold prio_Queue_Remove
  rw [zero_37, zero_172]
  obtain ⟨v, b, m, ha, h1⟩ := prio_of hS
  refine al_s (cs := x.key.cs) h1 rfl fun c w2 h2 => ?_
  refine al_s (cs := ints [0, 0, 0, 0, 0, 0]) h2 rfl fun d w3 h3 => ?_
  refine dr_s h3 fun w4 h4 => ?_
  refine ncP_p (fld_at (ld1_at h4 2 rfl (v := .map (some b)) rfl ?_))
  refine ldN_at h4 1 (vs := x.key.cs) rfl (by rfl) rfl ?_
  refine lkM_s keyT_Key mapT_153 h4 4 rfl x.key ?_
  obtain ⟨i, hi⟩ := List.mem_iff_getElem?.1 hx
  rw [(ha.ok x.key i).2 ⟨x, hi, rfl⟩]
  refine xt_02 (xt_12 (not_t (iff_f ?_)))
  refine bld_s [.pointer (some ⟨q, 0, none⟩)] (by kernel_rfl) ?_
  refine heapRemove_s hi hl (prio_mk ha (h4.selR [_, _, _, _, _] [_, _, _, _] [2, 3, 4, 0] (by decide) rfl)) fun l' w5 hp hh h5 => ?_
  refine tyA_ok (by kernel_rfl) ?_
  refine stN_at h5 1 rfl (vs := x.cs) rfl rfl (Nat.le_of_ble_eq_true rfl) (ints_flat _) (cs' := x.cs) (by kernel_rfl) fun w6 h6 => ?_
  refine ldN_at h6 1 (vs := x.cs) rfl (by rfl) rfl ?_
  exact hk _ _ hp hh (h6.selR [_, _] [_] [0] (by decide) rfl)

theorem prio_First_none {q : Nat} {room : Int} (hS : Sat e w (IsPrio q room [] :: R)) (hk : ∀ w', Sat e w' (IsPrio q room [] :: R) → K (.tuple #[.agg Msg.zero.cs.toArray, .bool false]) w') : Cl prog 51 #[.pointer (some ⟨q, 0, none⟩)] w K := by
  refine prio_Queue_First_calls ?_
  unfold prio_Queue_First
  rw [zero_37]
  obtain ⟨v, b, m, ha, h1⟩ := prio_of hS
  refine al_s (cs := ints [0, 0, 0, 0, 0, 0]) h1 rfl fun d w3 h3 => ?_
  refine ncP_p (fld_at (ld1_at h3 1 rfl (v := v) rfl ?_))
  refine lnS_rd h3 2 rfl (fun g hg => own_rd hg) ?_
  refine eq_t rfl (iff_t ?_)
  refine bld_s Msg.zero.cs (by kernel_rfl) ?_
  refine stN_at h3 0 rfl (vs := Msg.zero.cs) rfl rfl (Nat.le_of_ble_eq_true rfl) (ints_flat _) (cs' := Msg.zero.cs) (by kernel_rfl) fun w4 h4 => ?_
  refine ldN_at h4 0 (vs := Msg.zero.cs) rfl (by rfl) rfl ?_
  exact hk _ (prio_mk ha h4.drop)
theorem prio_First_s {q : Nat} {room : Int} {l : List Msg} {x : Msg} (hx : l[0]? = some x) (hS : Sat e w (IsPrio q room l :: R))
    (hk : ∀ w', Sat e w' (IsPrio q room l :: R) → K (.tuple #[.agg x.cs.toArray, .bool true]) w') : Cl prog 51 #[.pointer (some ⟨q, 0, none⟩)] w K := by
  refine prio_Queue_First_calls ?_
  unfold prio_Queue_First
  rw [zero_37]
  obtain ⟨v, b, m, ha, h1⟩ := prio_of hS
  have h0 := (List.getElem?_eq_some_iff.1 hx).1
  refine al_s (cs := ints [0, 0, 0, 0, 0, 0]) h1 rfl fun d w3 h3 => ?_
  refine ncP_p (fld_at (ld1_at h3 1 rfl (v := v) rfl ?_))
  refine lnS_rd h3 2 rfl (fun g hg => own_rd hg) ?_
  refine eq_f (by omega) (iff_f ?_)
  refine ncP_p (fld_at (ld1_at h3 1 rfl (v := v) rfl ?_))
  refine ixS_rd (j := 0) h3 2 rfl (fun g hg => own_rd hg) (fun _ => rfl) hx fun p hp => ?_
  refine ldN_of h3 2 rfl hp rfl ?_
  refine stN_at h3 0 rfl (vs := x.cs) rfl rfl (Nat.le_of_ble_eq_true rfl) (ints_flat _) (cs' := x.cs) (by kernel_rfl) fun w4 h4 => ?_
  refine ldN_at h4 0 (vs := x.cs) rfl (by rfl) rfl ?_
  exact hk _ (prio_mk ha h4.drop)
end Go.Proofs.YtbopajpmadlmhaaGreat
end
section
namespace Go.Proofs.YtbopajpmadlmhaaGreat
open Go Go.E
set_option maxRecDepth 100000
variable {e w : World} {R : List HP} {K : KV}

def IsPR (q : Nat) (room : Int) (l : List Msg) : HP := hex fun v : Value => sepL [blk q 134 [.int .i64 room, v], ownS 37 6 Msg.cs v l]
theorem pr_of {q : Nat} {room : Int} {l : List Msg} (h : Sat e w (IsPR q room l :: R)) : ∃ v, Sat e w (blk q 134 [.int .i64 room, v] :: ownS 37 6 Msg.cs v l :: R) := by
  obtain ⟨v, h0⟩ := h.ex
  exact ⟨v, h0.split⟩
theorem pr_mk {q : Nat} {room : Int} {l : List Msg} {v : Value} (h : Sat e w (blk q 134 [.int .i64 room, v] :: ownS 37 6 Msg.cs v l :: R)) : Sat e w (IsPR q room l :: R) :=
  .mk_ex v (.join (l' := [_, _]) h)
theorem ref03_New_s {n : Int} (hS : Sat e w R) (hk : ∀ q w', Sat e w' (IsPR q (max 0 (min n 64)) [] :: R) → K (.pointer (some ⟨q, 0, none⟩)) w') : Cl prog 71 #[.int .i64 n] w K := by
  refine pacelineref03_New_calls ?_
  unfold pacelineref03_New
  refine min_s (max_s ?_)
  rw [zero_134]
  refine bld_s [.int .i64 (max 0 (min n 64)), .slice none 0 0] (by kernel_rfl) ?_
  refine al_s (cs := [.int .i64 (max 0 (min n 64)), .slice none 0 0]) hS rfl fun q w2 h2 => ?_
  exact hk _ _ (pr_mk (v := .slice none 0 0) (h2.own_nil 37 6 Msg.cs).swap)
theorem ref03_find_s {q : Nat} {room : Int} {l : List Msg} {k : Key} (hl : l.length ≤ 1000000) (hS : Sat e w (IsPR q room l :: R))
    (hno : (∀ x ∈ l, x.key ≠ k) → ∀ w', Sat e w' (IsPR q room l :: R) → K (.int .i64 (-1)) w')
    (hyes : ∀ (i : Nat) (x : Msg), l[i]? = some x → x.key = k → (∀ j y, j < i → l[j]? = some y → y.key ≠ k) → ∀ w', Sat e w' (IsPR q room l :: R) → K (.int .i64 (i : Int)) w') :
    Cl prog 132 #[.pointer (some ⟨q, 0, none⟩), .agg k.cs.toArray] w K := by
  refine pacelineref03_Queue_find_calls ?_
  unfold pacelineref03_Queue_find
  obtain ⟨v, h1⟩ := pr_of hS
  refine al_s (cs := k.cs) h1 rfl fun b w2 h2 => ?_
  refine lpi1 (fun z t5 w => ∃ j : Nat, j ≤ l.length ∧ t5 = .int .i64 j ∧ z = l.length - j ∧ (∀ i y, i < j → l[i]? = some y → y.key ≠ k) ∧ Sat e w (blk b 35 k.cs :: blk q 134 [.int .i64 room, v] :: ownS 37 6 Msg.cs v l :: R)) l.length
    ⟨0, Nat.zero_le _, rfl, rfl, (fun _ _ h => by omega), h2⟩ ?_
  rintro z _ w g ⟨j, hj, rfl, rfl, hne, h3⟩ hg
  refine ncP_p (fld_at (ld1_at h3 1 rfl (v := v) rfl ?_))
  refine lnS_rd h3 2 rfl (fun g hg => own_rd hg) ?_
  refine lt_c (fun c => iff_t ?_) (fun c => iff_f ?_)
  · obtain ⟨x, hx⟩ := get_of_lt (l := l) (j := j) (by omega)
    refine dr_s h3 fun w4 h4 => ?_
    refine ncP_p (fld_at (ld1_at h4 1 rfl (v := v) rfl ?_))
    refine ixS_rd h4 2 rfl (fun g hg => own_rd hg) (fun _ => rfl) hx fun p hp => ?_
    refine fld_of hp fun p1 hp1 => ?_
    refine ldN_sub (us := x.key.cs) h4 2 rfl hp1 (by rfl) rfl ?_
    refine ldN_at h4 0 (vs := k.cs) rfl (by rfl) rfl ?_
    refine bO_eq (ns := x.key.ns) (ms := k.ns) eqT_35 agg_35 egt_35 (by decide) rfl ?_
    rw [Key.eq_ns]
    by_cases hxk : x.key = k
    · rw [decide_eq_true hxk]
      exact iff_t (hyes j x hx hxk hne _ (pr_mk h4.drop))
    · rw [decide_eq_false hxk]
      refine iff_f (inc_s (by omega) ?_)
      refine hg _ _ _ (by omega) ⟨j + 1, by omega, rfl, rfl, fun i y hi hy => ?_, h4⟩
      by_cases hij : i = j
      · subst hij; rw [hx] at hy; injection hy with hy; subst hy; exact hxk
      · exact hne i y (by omega) hy
  · refine hno (fun x hx => ?_) _ (pr_mk h3.drop)
    obtain ⟨i, hi⟩ := List.mem_iff_getElem?.1 hx
    exact hne i x (by have := (List.getElem?_eq_some_iff.1 hi).1; omega) hi

structure Place (l : List Msg) (m : Msg) (p : Nat) : Prop where
  le : p ≤ l.length
  low : ∀ z ∈ l.take p, ¬ KeyLt m.key z.key
  high : p = l.length ∨ ∃ y, l[p]? = some y ∧ KeyLt m.key y.key
def insAt (l : List Msg) (m : Msg) (p : Nat) : List Msg := l.take p ++ m :: l.drop p
theorem insAt_perm (l : List Msg) (m : Msg) (p : Nat) : (insAt l m p).Perm (l ++ [m]) := by
  unfold insAt
  refine List.perm_middle.trans ?_
  rw [List.take_append_drop]
  exact (List.perm_append_comm (l₁ := [m]) (l₂ := l))
def Up (l : List Msg) : Prop := l.Pairwise fun a b => KeyLt a.key b.key
theorem Place.up {l : List Msg} {m : Msg} {p : Nat} (h : Place l m p) (hu : Up l) (hne : ∀ y ∈ l, y.key ≠ m.key) : Up (insAt l m p) := by
  unfold Up insAt at *
  have hs : (l.take p ++ l.drop p).Pairwise fun a b => KeyLt a.key b.key := by rw [List.take_append_drop]; exact hu
  obtain ⟨h1, h2, h3⟩ := List.pairwise_append.1 hs
  have hm : ∀ y ∈ l.drop p, KeyLt m.key y.key := by
    intro y hy
    rcases h.high with hp | ⟨z, hz, hmz⟩
    · rw [List.drop_of_length_le (by omega)] at hy; cases hy
    · rw [drop_cons hz] at hy h2
      rcases List.mem_cons.1 hy with rfl | hy
      · exact hmz
      · exact hmz.trans ((List.pairwise_cons.1 h2).1 y hy)
  refine List.pairwise_append.2 ⟨h1, List.pairwise_cons.2 ⟨hm, h2⟩, fun z hz y hy => ?_⟩
  rcases List.mem_cons.1 hy with rfl | hy
  · rcases KeyLt.tri z.key y.key with h4 | h4 | h4
    · exact h4
    · exact absurd h4 (hne z (List.mem_of_mem_take hz))
    · exact absurd h4 (h.low z hz)
  · exact h3 z hz y hy

structure InsM (l : List Msg) (m : Msg) (i : Nat) (d : Bool) (c : List Msg) : Prop where
  no : d = false → c = l.take i ∧ ∀ z ∈ l.take i, ¬ KeyLt m.key z.key
  yes : d = true → ∃ p y, p < i ∧ l[p]? = some y ∧ KeyLt m.key y.key ∧ (∀ z ∈ l.take p, ¬ KeyLt m.key z.key) ∧ c = l.take p ++ m :: (l.take i).drop p
theorem InsM.len {l : List Msg} {m : Msg} {i : Nat} {d : Bool} {c : List Msg} (h : InsM l m i d c) (_hi : i ≤ l.length) : c.length ≤ i + 1 := by
  cases d with
  | false => rw [(h.no rfl).1, List.length_take]; omega
  | true =>
    obtain ⟨p, y, hp, _, _, _, rfl⟩ := h.yes rfl
    simp only [List.length_append, List.length_cons, List.length_take, List.length_drop]
    omega

theorem ref03_Insert_s {v : Value} {l : List Msg} {m : Msg} {S : HP} (hl : l.length ≤ 1000000) (hS : Sat e w (S :: R)) (hr : ∀ g, S g → rdS 6 Msg.cs v l g)
    (hk : ∀ v' p w', Place l m p → Sat e w' (ownS 37 6 Msg.cs v' (insAt l m p) :: S :: R) → K v' w') : Cl prog 13 #[v, .agg m.cs.toArray] w K := by
  refine pacelineref03_Insert_calls ?_
  unfold pacelineref03_Insert
  rw [zero_37]
  refine al_s (cs := m.cs) hS rfl fun b w2 h2 => ?_
  refine bsl0 h2 Msg.cs fun v1 w3 h3 => ?_
  refine lpi3 (fun z t5 t6 t7 w => ∃ (i : Nat) (d : Bool) (c : List Msg), i ≤ l.length ∧ t6 = .bool d ∧ t7 = .int .i64 i ∧ z = l.length - i ∧ InsM l m i d c ∧ Sat e w (ownS 37 6 Msg.cs t5 c :: blk b 37 m.cs :: S :: R)) l.length
    ⟨0, false, [], Nat.zero_le _, rfl, rfl, rfl, ⟨fun _ => ⟨rfl, fun _ h => by cases h⟩, fun h => by cases h⟩, h3⟩ ?_
  rintro z t5 _ _ w g1 ⟨i, d, c, hi, rfl, rfl, rfl, hins, h4⟩ hg
  have hcl := hins.len hi
  refine lnS_rd h4 2 rfl hr ?_
  refine lt_c (fun c3 => iff_t ?_) (fun c3 => iff_f ?_)
  · obtain ⟨y, hy⟩ := get_of_lt (l := l) (j := i) (by omega)
    have hlast : ∀ t5 c' d' w, c'.length ≤ i + 1 → InsM l m (i + 1) d' (c' ++ [y]) → Sat e w (ownS 37 6 Msg.cs t5 c' :: blk b 37 m.cs :: S :: R) →
        ixS 6 v (.int .i64 (i : Int)) w fun t35 w => ldN 6 t35 w fun t36 w => bsl 37 6 1 (ints [0, 0, 0, 0, 0, 0]).toArray [(0, t36)] w fun t37 w => apS prog #[33, 33] 33 t5 t37 w fun t38 w =>
          bi .add .i64 (.int .i64 (i : Int)) (Value.int IntKind.i64 1) w fun t14 w => g1 [t38, .bool d', t14] w := by
      intro t5 c' d' w hc' hins' h5
      refine ixS_rd h5 2 rfl hr (fun _ => rfl) hy fun p hp => ?_
      refine ldN_of h5 2 rfl hp rfl ?_
      refine push1 te_33 (f := Msg.cs) (fun _ => rfl) (fun _ => ints_flat _) h5 (x := y) rfl (by omega) fun v' w6 h6 => ?_
      refine inc_s (by omega) ?_
      exact hg _ _ _ _ _ (by omega) ⟨i + 1, d', c' ++ [y], by omega, rfl, rfl, rfl, hins', h6⟩
    refine dr_s h4 fun w5 h5 => ?_
    cases d with
    | true =>
      refine not_t (gd_ft (gd_ft (gd_ft (gd_ft (gd_ft (gd_ft (gd_ft (gd_ft (gd_ft (pk_f (iff_f ?_)))))))))))
      refine hlast _ c true _ hcl ⟨(fun h => by cases h), fun _ => ?_⟩ h5
      obtain ⟨p, y', hp, hy', hxy, hlo, rfl⟩ := hins.yes rfl
      refine ⟨p, y', by omega, hy', hxy, hlo, ?_⟩
      rw [take_snoc hy, List.drop_append_of_le_length (by rw [List.length_take]; omega)]
      simp
    | false =>
      obtain ⟨rfl, hlo⟩ := hins.no rfl
      refine not_f (gd_tt (fld_at (gd_tt (ldN_at h5 1 (vs := m.key.cs) rfl (by rfl) rfl (gd_tt (gd_tt (gd_tt ?_)))))))
      refine ixS_rd h5 2 rfl hr (fun _ => rfl) hy fun p hp => ?_
      refine gd_tt (fld_of hp fun p1 hp1 => ?_)
      refine gd_tt (ldN_sub (us := y.key.cs) h5 2 rfl hp1 (by rfl) rfl ?_)
      refine gd_tt (ref01_Cmp_s h5 fun w8 h11 => ?_)
      refine gd_tt (lt_c (fun c4 => pk_t (iff_t ?_)) (fun c4 => pk_t (iff_f ?_)))
      · refine ldN_at h11 1 (vs := m.cs) rfl (by rfl) rfl ?_
        refine push1 te_33 (f := Msg.cs) (fun _ => rfl) (fun _ => ints_flat _) h11 (x := m) rfl (by omega) fun v' w9 h12 => ?_
        refine hlast _ (l.take i ++ [m]) true _ (by rw [List.length_append, List.length_take]; simp; omega) ⟨(fun h => by cases h), fun _ => ⟨i, y, by omega, hy, cmpK_lt.1 c4, hlo, ?_⟩⟩ h12
        rw [take_snoc hy, List.drop_append_of_le_length (by rw [List.length_take]; omega), List.drop_of_length_le (by rw [List.length_take]; omega)]
        simp
      · refine hlast _ (l.take i) false _ hcl ⟨fun _ => ⟨(take_snoc hy).symm, fun z hz => ?_⟩, fun h => by cases h⟩ h11
        rw [take_snoc hy] at hz
        rcases List.mem_append.1 hz with h | h
        · exact hlo z h
        · rw [List.mem_singleton.1 h]; exact fun h => c4 (cmpK_lt.2 h)
  · obtain rfl : i = l.length := by omega
    cases d with
    | true =>
      obtain ⟨p, y, hp, hy, hxy, hlo, rfl⟩ := hins.yes rfl
      rw [List.take_length] at h4
      refine not_t (iff_f (hk _ p _ ⟨by omega, hlo, .inr ⟨y, hy, hxy⟩⟩ ?_))
      exact h4.selR [_, _, _] [_, _] [0, 2] (by decide) rfl
    | false =>
      obtain ⟨rfl, hlo⟩ := hins.no rfl
      refine not_f (iff_t ?_)
      refine ldN_at h4 1 (vs := m.cs) rfl (by rfl) rfl ?_
      refine push1 te_33 (f := Msg.cs) (fun _ => rfl) (fun _ => ints_flat _) h4 (x := m) rfl (by omega) fun v' w9 h12 => ?_
      refine hk _ l.length _ ⟨Nat.le_refl _, hlo, .inl rfl⟩ ?_
      have e1 : insAt l m l.length = l.take l.length ++ [m] := by unfold insAt; rw [List.drop_length]
      rw [e1]
      exact h12.selR [_, _, _] [_, _] [0, 2] (by decide) rfl

end Go.Proofs.YtbopajpmadlmhaaGreat
namespace Go.Proofs.YtbopajpmadlmhaaGreat
open Go Go.E
set_option maxRecDepth 100000
variable {e w : World} {R : List HP} {K : KV}

def without (l : List Msg) (k : Key) : List Msg := l.filter fun x => !decide (x.key = k)
theorem filterM_snoc {p : Msg → Bool} {l : List Msg} {j : Nat} {x : Msg} (hx : l[j]? = some x) : (l.take (j + 1)).filter p = (l.take j).filter p ++ if p x then [x] else [] := by
  rw [take_snoc hx, List.filter_append]
  cases hpx : p x <;> simp [hpx]
theorem ref03_Without_s {v : Value} {l : List Msg} {k : Key} {S : HP} (hl : l.length ≤ 1000000) (hS : Sat e w (S :: R)) (hr : ∀ g, S g → rdS 6 Msg.cs v l g)
    (hk : ∀ v' w', Sat e w' (ownS 37 6 Msg.cs v' (without l k) :: S :: R) → K v' w') : Cl prog 133 #[v, .agg k.cs.toArray] w K := by
  refine pacelineref03_Without_calls ?_
  unfold pacelineref03_Without
  rw [zero_37]
  refine al_s (cs := k.cs) hS rfl fun b w2 h2 => ?_
  refine bsl0 h2 Msg.cs fun v1 w3 h3 => ?_
  refine lpi2 (fun z t5 t6 w => ∃ j : Nat, j ≤ l.length ∧ t6 = .int .i64 j ∧ z = l.length - j ∧ Sat e w (ownS 37 6 Msg.cs t5 ((l.take j).filter fun x => !decide (x.key = k)) :: blk b 35 k.cs :: S :: R)) l.length
    ⟨0, Nat.zero_le _, rfl, rfl, h3⟩ ?_
  rintro z t5 _ w g ⟨j, hj, rfl, rfl, h4⟩ hg
  refine lnS_rd h4 2 rfl hr ?_
  refine lt_c (fun c => iff_t ?_) (fun c => iff_f ?_)
  · obtain ⟨x, hx⟩ := get_of_lt (l := l) (j := j) (by omega)
    have hn2 := List.length_filter_le (fun x : Msg => !decide (x.key = k)) (l.take j)
    have hn3 : (l.take j).length ≤ 1000000 := by simp; omega
    refine J1.cut (fun t5 w => Sat e w (ownS 37 6 Msg.cs t5 ((l.take (j + 1)).filter fun x => !decide (x.key = k)) :: blk b 35 k.cs :: S :: R)) (fun k2 hcut => ?_) (fun t5 w h5 => ?_)
    · rw [filterM_snoc hx] at hcut
      refine dr_s h4 fun w5 h5 => ?_
      refine ixS_rd h5 2 rfl hr (fun _ => rfl) hx fun p hp => ?_
      refine fld_of hp fun p1 hp1 => ?_
      refine ldN_sub (us := x.key.cs) h5 2 rfl hp1 (by rfl) rfl ?_
      refine ldN_at h5 1 (vs := k.cs) rfl (by rfl) rfl ?_
      refine bO_ne (ns := x.key.ns) (ms := k.ns) eqT_35 agg_35 egt_35 (by decide) rfl ?_
      rw [Key.eq_ns]
      by_cases hxk : x.key = k
      · rw [decide_eq_true hxk] at hcut ⊢
        refine iff_f (hcut _ _ ?_)
        simpa using h5
      · rw [decide_eq_false hxk] at hcut ⊢
        refine iff_t ?_
        refine ixS_rd h5 2 rfl hr (fun _ => rfl) hx fun p hp => ?_
        refine ldN_of h5 2 rfl hp rfl ?_
        refine push1 te_33 (f := Msg.cs) (fun _ => rfl) (fun _ => ints_flat _) h5 (x := x) rfl (by omega) fun v' w6 h6 => ?_
        exact hcut _ _ h6
    · refine inc_s (by omega) ?_
      exact hg _ _ _ _ (by omega) ⟨j + 1, by omega, rfl, rfl, h5⟩
  · obtain rfl : j = l.length := by omega
    rw [List.take_length] at h4
    exact hk _ _ (h4.selR [_, _, _] [_, _] [0, 2] (by decide) rfl)
theorem ref03_Len_s {q : Nat} {room : Int} {l : List Msg} (hS : Sat e w (IsPR q room l :: R)) (hk : K (.int .i64 (l.length : Int)) w) : Cl prog 77 #[.pointer (some ⟨q, 0, none⟩)] w K := by
  obtain ⟨v, h1⟩ := pr_of hS
  refine pacelineref03_Queue_Len_calls ?_
  unfold pacelineref03_Queue_Len
  refine ncP_p (fld_at (ld1_at h1 0 rfl (v := v) rfl ?_))
  exact lnS_rd h1 1 rfl (fun g hg => own_rd hg) hk
theorem ref03_First_none {q : Nat} {room : Int} (hS : Sat e w (IsPR q room [] :: R)) (hk : ∀ w', Sat e w' (IsPR q room [] :: R) → K (.tuple #[.agg Msg.zero.cs.toArray, .bool false]) w') : Cl prog 80 #[.pointer (some ⟨q, 0, none⟩)] w K := by
  refine pacelineref03_Queue_First_calls ?_
  unfold pacelineref03_Queue_First
  rw [zero_37]
  obtain ⟨v, h1⟩ := pr_of hS
  refine al_s (cs := ints [0, 0, 0, 0, 0, 0]) h1 rfl fun d w3 h3 => ?_
  refine ncP_p (fld_at (ld1_at h3 1 rfl (v := v) rfl ?_))
  refine lnS_rd h3 2 rfl (fun g hg => own_rd hg) ?_
  refine eq_t rfl (iff_t ?_)
  refine bld_s Msg.zero.cs (by kernel_rfl) ?_
  refine stN_at h3 0 rfl (vs := Msg.zero.cs) rfl rfl (Nat.le_of_ble_eq_true rfl) (ints_flat _) (cs' := Msg.zero.cs) (by kernel_rfl) fun w4 h4 => ?_
  refine ldN_at h4 0 (vs := Msg.zero.cs) rfl (by rfl) rfl ?_
  exact hk _ (pr_mk h4.drop)
theorem ref03_First_s {q : Nat} {room : Int} {l : List Msg} {x : Msg} (hx : l[0]? = some x) (hS : Sat e w (IsPR q room l :: R))
    (hk : ∀ w', Sat e w' (IsPR q room l :: R) → K (.tuple #[.agg x.cs.toArray, .bool true]) w') : Cl prog 80 #[.pointer (some ⟨q, 0, none⟩)] w K := by
  refine pacelineref03_Queue_First_calls ?_
  unfold pacelineref03_Queue_First
  rw [zero_37]
  obtain ⟨v, h1⟩ := pr_of hS
  have h0 := (List.getElem?_eq_some_iff.1 hx).1
  refine al_s (cs := ints [0, 0, 0, 0, 0, 0]) h1 rfl fun d w3 h3 => ?_
  refine ncP_p (fld_at (ld1_at h3 1 rfl (v := v) rfl ?_))
  refine lnS_rd h3 2 rfl (fun g hg => own_rd hg) ?_
  refine eq_f (by omega) (iff_f ?_)
  refine ncP_p (fld_at (ld1_at h3 1 rfl (v := v) rfl ?_))
  refine ixS_rd (j := 0) h3 2 rfl (fun g hg => own_rd hg) (fun _ => rfl) hx fun p hp => ?_
  refine ldN_of h3 2 rfl hp rfl ?_
  refine stN_at h3 0 rfl (vs := x.cs) rfl rfl (Nat.le_of_ble_eq_true rfl) (ints_flat _) (cs' := x.cs) (by kernel_rfl) fun w4 h4 => ?_
  refine ldN_at h4 0 (vs := x.cs) rfl (by rfl) rfl ?_
  exact hk _ (pr_mk h4.drop)
theorem ref03_Pop_none {q : Nat} {room : Int} (hS : Sat e w (IsPR q room [] :: R)) (hk : ∀ w', Sat e w' (IsPR q room [] :: R) → K (.tuple #[.agg Msg.zero.cs.toArray, .bool false]) w') : Cl prog 81 #[.pointer (some ⟨q, 0, none⟩)] w K := by
  refine pacelineref03_Queue_Pop_calls ?_
  unfold pacelineref03_Queue_Pop
  rw [zero_37]
  refine al_s (cs := ints [0, 0, 0, 0, 0, 0]) hS rfl fun d w3 h3 => ?_
  refine ref03_First_none h3.swap fun w4 h4 => ?_
  refine xt_02 (xt_12 ?_)
  refine al_s (cs := ints [0, 0, 0, 0, 0, 0]) h4 rfl fun d2 w5 h5 => ?_
  refine stN_at h5 0 rfl (vs := Msg.zero.cs) rfl rfl (Nat.le_of_ble_eq_true rfl) (ints_flat _) (cs' := Msg.zero.cs) (by kernel_rfl) fun w6 h6 => ?_
  refine iff_f ?_
  refine ldN_at h6 0 (vs := Msg.zero.cs) rfl (by rfl) rfl ?_
  refine stN_at h6 2 rfl (vs := Msg.zero.cs) rfl rfl (Nat.le_of_ble_eq_true rfl) (ints_flat _) (cs' := Msg.zero.cs) (by kernel_rfl) fun w7 h7 => ?_
  refine ldN_at h7 2 (vs := Msg.zero.cs) rfl (by rfl) rfl ?_
  exact hk _ (h7.selR [_, _, _] [_] [1] (by decide) rfl)
theorem ref03_Pop_s {q : Nat} {room : Int} {l : List Msg} {x : Msg} (hl : l.length ≤ 1000) (hx : l[0]? = some x) (hS : Sat e w (IsPR q room l :: R))
    (hk : ∀ w', Sat e w' (IsPR q room (without l x.key) :: R) → K (.tuple #[.agg x.cs.toArray, .bool true]) w') : Cl prog 81 #[.pointer (some ⟨q, 0, none⟩)] w K := by
  refine pacelineref03_Queue_Pop_calls ?_
  unfold pacelineref03_Queue_Pop
  rw [zero_37]
  refine al_s (cs := ints [0, 0, 0, 0, 0, 0]) hS rfl fun d w3 h3 => ?_
  refine ref03_First_s hx h3.swap fun w4 h4 => ?_
  refine xt_02 (xt_12 ?_)
  refine al_s (cs := ints [0, 0, 0, 0, 0, 0]) h4 rfl fun d2 w5 h5 => ?_
  refine stN_at h5 0 rfl (vs := x.cs) rfl rfl (Nat.le_of_ble_eq_true rfl) (ints_flat _) (cs' := x.cs) (by kernel_rfl) fun w6 h6 => ?_
  refine iff_t ?_
  refine dr_s h6 fun w7 h7 => ?_
  obtain ⟨v, h8⟩ := pr_of (h7.selR [_, _, _] [_, _, _] [1, 0, 2] (by decide) rfl)
  refine ncP_p (fld_at (ld1_at h8 0 rfl (v := v) rfl ?_))
  refine fld_at (ldN_at h8 2 (vs := x.key.cs) rfl (by rfl) rfl ?_)
  refine ref03_Without_s (by omega) (h8.pick 1 rfl) (fun g hg => own_rd hg) fun v' w8 h9 => ?_
  refine ncP_p (fld_at ?_)
  refine st1_at h9 2 rfl (h9.own_cells 0 rfl) (Nat.le_of_ble_eq_true rfl) rfl fun w9 h10 => ?_
  refine ldN_at h10 3 (vs := x.cs) rfl (by rfl) rfl ?_
  refine stN_at h10 4 rfl (vs := x.cs) rfl rfl (Nat.le_of_ble_eq_true rfl) (ints_flat _) (cs' := x.cs) (by kernel_rfl) fun w10 h11 => ?_
  refine ldN_at h11 4 (vs := x.cs) rfl (by rfl) rfl ?_
  exact hk _ (pr_mk (h11.selR [_, _, _, _, _] [_, _] [2, 0] (by decide) rfl))
theorem ref03_Remove_none {q : Nat} {room : Int} {l : List Msg} {k : Key} (hl : l.length ≤ 1000) (hno : ∀ y ∈ l, y.key ≠ k) (hS : Sat e w (IsPR q room l :: R)) (hk : ∀ w', Sat e w' (IsPR q room l :: R) → K (.tuple #[.agg Msg.zero.cs.toArray, .bool false]) w') : Cl prog 79 #[.pointer (some ⟨q, 0, none⟩), .agg k.cs.toArray] w K := by
  refine pacelineref03_Queue_Remove_calls ?_
  unfold pacelineref03_Queue_Remove
  rw [zero_37]
  refine al_s (cs := k.cs) hS rfl fun c w2 h2 => ?_
  refine al_s (cs := ints [0, 0, 0, 0, 0, 0]) h2 rfl fun d w3 h3 => ?_
  refine ldN_at h3 1 (vs := k.cs) rfl (by rfl) rfl ?_
  refine ref03_find_s (by omega) (h3.selR [_, _, _] [_, _, _] [2, 0, 1] (by decide) rfl) (fun _ w4 h4 => ?_) (fun i x hx hxk => absurd hxk (hno x (List.mem_of_getElem? hx)))
  refine lt_t (by decide) (iff_t ?_)
  refine bld_s Msg.zero.cs (by kernel_rfl) ?_
  refine stN_at h4 1 rfl (vs := Msg.zero.cs) rfl rfl (Nat.le_of_ble_eq_true rfl) (ints_flat _) (cs' := Msg.zero.cs) (by kernel_rfl) fun w5 h5 => ?_
  refine ldN_at h5 1 (vs := Msg.zero.cs) rfl (by rfl) rfl ?_
  exact hk _ (h5.selR [_, _, _] [_] [0] (by decide) rfl)
theorem ref03_Remove_s {q : Nat} {room : Int} {l : List Msg} {x : Msg} (hl : l.length ≤ 1000) (hx : x ∈ l) (hu : (l.map Msg.key).Nodup) (hS : Sat e w (IsPR q room l :: R))
    (hk : ∀ w', Sat e w' (IsPR q room (without l x.key) :: R) → K (.tuple #[.agg x.cs.toArray, .bool true]) w') : Cl prog 79 #[.pointer (some ⟨q, 0, none⟩), .agg x.key.cs.toArray] w K := by
  refine pacelineref03_Queue_Remove_calls ?_
  unfold pacelineref03_Queue_Remove
  rw [zero_37]
  refine al_s (cs := x.key.cs) hS rfl fun c w2 h2 => ?_
  refine al_s (cs := ints [0, 0, 0, 0, 0, 0]) h2 rfl fun d w3 h3 => ?_
  refine ldN_at h3 1 (vs := x.key.cs) rfl (by rfl) rfl ?_
  refine ref03_find_s (by omega) (h3.selR [_, _, _] [_, _, _] [2, 0, 1] (by decide) rfl) (fun hno => absurd rfl (hno x hx)) (fun i y hy hyk _ w4 h4 => ?_)
  have hyx : y = x := by
    obtain ⟨j, hj⟩ := List.mem_iff_getElem?.1 hx
    have e1 : (l.map Msg.key)[i]? = some x.key := by simp [hy, hyk]
    have e2 : (l.map Msg.key)[j]? = some x.key := by simp [hj]
    have hil := (List.getElem?_eq_some_iff.1 hy).1
    have := (List.getElem?_inj (by simpa using hil) hu).1 (e1.trans e2.symm)
    subst this
    rw [hj] at hy
    injection hy with hy
    exact hy.symm
  subst hyx
  obtain ⟨v, h5⟩ := pr_of h4
  refine lt_f (by omega) (iff_f ?_)
  refine ncP_p (fld_at (ld1_at h5 0 rfl (v := v) rfl ?_))
  refine ixS_rd h5 1 rfl (fun g hg => own_rd hg) (fun _ => rfl) hy fun p hp => ?_
  refine ldN_of h5 1 rfl hp rfl ?_
  refine al_s (cs := ints [0, 0, 0, 0, 0, 0]) h5 rfl fun d2 w6 h6 => ?_
  refine stN_at h6 0 rfl (vs := y.cs) rfl rfl (Nat.le_of_ble_eq_true rfl) (ints_flat _) (cs' := y.cs) (by kernel_rfl) fun w7 h7 => ?_
  refine dr_s h7 fun w8 h8 => ?_
  refine ncP_p (fld_at (ld1_at h8 1 rfl (v := v) rfl ?_))
  refine ldN_at h8 4 (vs := y.key.cs) rfl (by rfl) rfl ?_
  refine ref03_Without_s (by omega) (h8.pick 2 rfl) (fun g hg => own_rd hg) fun v' w9 h9 => ?_
  refine ncP_p (fld_at ?_)
  refine st1_at h9 3 rfl (h9.own_cells 0 rfl) (Nat.le_of_ble_eq_true rfl) rfl fun w10 h10 => ?_
  refine ldN_at h10 2 (vs := y.cs) rfl (by rfl) rfl ?_
  refine stN_at h10 4 rfl (vs := y.cs) rfl rfl (Nat.le_of_ble_eq_true rfl) (ints_flat _) (cs' := y.cs) (by kernel_rfl) fun w11 h11 => ?_
  refine ldN_at h11 4 (vs := y.cs) rfl (by rfl) rfl ?_
  exact hk _ (pr_mk (h11.selR [_, _, _, _, _, _] [_, _] [3, 0] (by decide) rfl))
theorem ref03_List_s {q : Nat} {room : Int} {l : List Msg} (hl : l.length ≤ 1000) (hS : Sat e w (IsPR q room l :: R))
    (hk : ∀ v w', Sat e w' (ownS 37 6 Msg.cs v l :: IsPR q room l :: R) → K v w') : Cl prog 88 #[.pointer (some ⟨q, 0, none⟩)] w K := by
  refine pacelineref03_Queue_List_calls ?_
  unfold pacelineref03_Queue_List
  refine bsl0 hS Msg.cs fun v1 w2 h2 => ?_
  obtain ⟨v, h3⟩ := pr_of h2.swap
  refine ncP_p (fld_at (ld1_at h3 0 rfl (v := v) rfl ?_))
  refine apS_own te_33 und_33 (f := Msg.cs) (fun _ => rfl) (fun _ => ints_flat _) (h3.selR [_, _, _] [_, _, _] [2, 1, 0] (by decide) rfl) (fun g hg => own_rd hg) (by simp; omega) fun v2 w3 h4 => ?_
  rw [List.nil_append] at h4
  exact hk _ _ (Sat.swap (pr_mk (h4.selR [_, _, _] [_, _, _] [2, 1, 0] (by decide) rfl)))
end Go.Proofs.YtbopajpmadlmhaaGreat
end
section
namespace Go.Proofs.YtbopajpmadlmhaaGreat
open Go Go.E
set_option maxRecDepth 100000
instance (a b : Key) : Decidable (KeyLt a b) := by unfold KeyLt; infer_instance
structure En where
  m : Msg
  ahead : Int
  sent : Int
  st : Int
  outs : List Msg
structure EnX where
  m : Msg
  ahead : Int
  sent : Int
  st : Int
  ov : Value
  outs : List Msg
def EnX.e (x : EnX) : En := ⟨x.m, x.ahead, x.sent, x.st, x.outs⟩
variable {e w : World} {L Q R : List HP} {K : KV} {S S2 : HP}

def EnX.cs (x : EnX) : List Value := [.int .i64 x.m.key.T, .int .i64 x.m.key.From, .int .i64 x.m.key.Seq, .int .i64 x.m.To, .int .i64 x.m.Class, .int .i64 x.m.Body, .int .i64 x.ahead, .int .i64 x.sent, .int .i64 x.st, x.ov]
def EnX.zero : EnX := ⟨Msg.zero, 0, 0, 0, .slice none 0 0, []⟩
def eOwn (x : EnX) : HP := ownS 37 6 Msg.cs x.ov x.outs
theorem EnX.flat {x : EnX} (h : flat x.ov = true) : ∀ c ∈ x.cs, Go.E.flat c = true := by
  intro c hc
  simp only [EnX.cs, List.mem_cons, List.not_mem_nil, or_false] at hc
  rcases hc with rfl | rfl | rfl | rfl | rfl | rfl | rfl | rfl | rfl | rfl <;> first | rfl | exact h
theorem sepL_parts {a b : List HP} (h : Sat e w (sepL (a ++ b) :: R)) : Sat e w (sepL a :: sepL b :: R) := by
  have h1 := h.split
  rw [List.append_assoc] at h1
  have h2 : Sat e w (sepL a :: (b ++ R)) := Sat.join h1
  have h3 : Sat e w (b ++ (sepL a :: R)) := h2.perm List.perm_middle.symm
  exact (Sat.join h3).swap
theorem sepL_both {a b : List HP} (h : Sat e w (sepL a :: sepL b :: R)) : Sat e w (sepL (a ++ b) :: R) := by
  have h1 : Sat e w (b ++ (sepL a :: R)) := Sat.split h.swap
  have h2 : Sat e w (sepL a :: (b ++ R)) := h1.perm List.perm_middle
  have h3 := h2.split
  rw [← List.append_assoc] at h3
  exact Sat.join h3
theorem sepL_perm {a b : List HP} (hp : a.Perm b) (h : Sat e w (sepL a :: R)) : Sat e w (sepL b :: R) := Sat.join (h.split.perm (hp.append_right R))
theorem en_flat {xs : List EnX} (i : Nat) (hS : Sat e w L) (hi : L[i]? = some (sepL (xs.map eOwn))) {x : EnX} (hx : x ∈ xs) : flat x.ov = true := by
  obtain ⟨j, hj⟩ := List.getElem?_of_mem hx
  have h1 := (hS.pick i hi).split
  have h2 : (xs.map eOwn ++ L.eraseIdx i)[j]? = some (eOwn x) := by
    rw [List.getElem?_append_left (by rw [List.length_map]; exact (List.getElem?_eq_some_iff.1 hj).1), List.getElem?_map, hj]
    rfl
  exact (h1.own_cells j h2).2

structure PastOk (l : List En) : Prop where
  up : l.Pairwise fun a b => KeyLt a.m.key b.m.key
  len : l.length ≤ 64
  outs : ∀ x ∈ l, x.outs.length ≤ 1000
structure PV where
  lv : Value
  xs : List EnX
def IsPast (p : Nat) (fl : Int) (l : List En) : HP := hex fun v : PV => sepL [pur (v.xs.map EnX.e = l ∧ PastOk l), blk p 157 [.int .i64 fl, v.lv], ownS 113 10 EnX.cs v.lv v.xs, sepL (v.xs.map eOwn)]
theorem past_of {p : Nat} {fl : Int} {l : List En} (h : Sat e w (IsPast p fl l :: R)) : ∃ lv xs, (xs.map EnX.e = l ∧ PastOk l) ∧ Sat e w (blk p 157 [.int .i64 fl, lv] :: ownS 113 10 EnX.cs lv xs :: sepL (xs.map eOwn) :: R) := by
  obtain ⟨v, h0⟩ := h.ex
  exact ⟨v.lv, v.xs, Sat.pure h0.split⟩
theorem past_mk {p : Nat} {fl : Int} {l : List En} {lv : Value} {xs : List EnX} (hp : xs.map EnX.e = l ∧ PastOk l) (h : Sat e w (blk p 157 [.int .i64 fl, lv] :: ownS 113 10 EnX.cs lv xs :: sepL (xs.map eOwn) :: R)) : Sat e w (IsPast p fl l :: R) :=
  .mk_ex ⟨lv, xs⟩ (.join (l' := [_, _, _, _]) (.mk_pure hp h))
def IsEns (v : Value) (l : List En) : HP := hex fun xs : List EnX => sepL [pur (xs.map EnX.e = l), ownS 113 10 EnX.cs v xs, sepL (xs.map eOwn)]
theorem ens_of {v : Value} {l : List En} (h : Sat e w (IsEns v l :: R)) : ∃ xs, xs.map EnX.e = l ∧ Sat e w (ownS 113 10 EnX.cs v xs :: sepL (xs.map eOwn) :: R) := by
  obtain ⟨xs, h0⟩ := h.ex
  exact ⟨xs, Sat.pure h0.split⟩
theorem ens_mk {v : Value} {xs : List EnX} (h : Sat e w (ownS 113 10 EnX.cs v xs :: sepL (xs.map eOwn) :: R)) : Sat e w (IsEns v (xs.map EnX.e) :: R) := .mk_ex xs (.join (l' := [_, _, _]) (.mk_pure rfl h))

theorem past_New_s (hS : Sat e w R) (hk : ∀ p w', Sat e w' (IsPast p 0 [] :: R) → K (.pointer (some ⟨p, 0, none⟩)) w') : Cl prog 45 #[] w K := by
  refine past_New_calls ?_
  unfold past_New
  refine bld_s [.int .i64 0, .slice none 0 0] (by kernel_rfl) ?_
  refine al_s (cs := [.int .i64 0, .slice none 0 0]) hS rfl fun p w1 h1 => ?_
  refine hk p _ (past_mk (lv := .slice none 0 0) (xs := []) ⟨rfl, .nil, by simp, by simp⟩ ?_)
  have h2 : Sat e w1 (sepL [] :: blk p 157 [.int .i64 0, .slice none 0 0] :: R) := Sat.join (l' := []) h1
  have h3 := h2.own_nil 113 10 EnX.cs
  exact h3.selR [_, _, _] [_, _, _] [2, 0, 1] (by decide) rfl
theorem past_Floor_s {p : Nat} {fl : Int} {l : List En} (hS : Sat e w (IsPast p fl l :: R)) (hk : K (.int .i64 fl) w) : Cl prog 61 #[.pointer (some ⟨p, 0, none⟩)] w K := by
  refine past_Past_Floor_calls ?_
  unfold past_Past_Floor
  obtain ⟨lv, xs, hp, h1⟩ := past_of hS
  exact ncP_p (fld_at (ld1_at h1 0 rfl (v := .int .i64 fl) rfl hk))
theorem past_Len_s {p : Nat} {fl : Int} {l : List En} (hS : Sat e w (IsPast p fl l :: R)) (hk : K (.int .i64 (l.length : Int)) w) : Cl prog 52 #[.pointer (some ⟨p, 0, none⟩)] w K := by
  refine past_Past_Len_calls ?_
  unfold past_Past_Len
  obtain ⟨lv, xs, hp, h1⟩ := past_of hS
  refine ncP_p (fld_at (ld1_at h1 0 rfl (v := lv) rfl ?_))
  refine lnS_rd h1 1 rfl (fun g hg => own_rd hg) ?_
  rw [show (xs.length : Int) = l.length from by rw [← hp.1, List.length_map]]
  exact hk
theorem past_Keys_s {p : Nat} {fl : Int} {l : List En} (hS : Sat e w (IsPast p fl l :: R)) (hk : ∀ v w', Sat e w' (ownS 35 3 Key.cs v (l.map fun x => x.m.key) :: IsPast p fl l :: R) → K v w') : Cl prog 143 #[.pointer (some ⟨p, 0, none⟩)] w K := by
  refine past_Past_Keys_calls ?_
  unfold past_Past_Keys
  obtain ⟨lv, xs, hp, h1⟩ := past_of hS
  have hxl : xs.length ≤ 64 := by have := hp.2.len; rw [← hp.1, List.length_map] at this; exact this
  refine ncP_p (fld_at (ld1_at h1 0 rfl (v := lv) rfl ?_))
  refine lnS_rd h1 1 rfl (fun g hg => own_rd hg) ?_
  rw [zero_113]
  refine lpi2 (fun q t3 t11 w => ∃ j : Nat, j ≤ xs.length ∧ t11 = .int .i64 j ∧ q = xs.length - j ∧ Sat e w (ownS 35 3 Key.cs t3 ((xs.take j).map fun x => x.m.key) :: blk p 157 [.int .i64 fl, lv] :: ownS 113 10 EnX.cs lv xs :: sepL (xs.map eOwn) :: R)) xs.length
    ⟨0, Nat.zero_le _, rfl, rfl, h1.own_nil 35 3 Key.cs⟩ ?_
  rintro q t3 _ w g ⟨j, hj, rfl, rfl, h2⟩ hg
  refine lt_c (fun c => iff_t ?_) (fun c => iff_f ?_)
  · obtain ⟨x, hx⟩ := get_of_lt (l := xs) (j := j) (by omega)
    refine ixS_rd h2 2 rfl (fun g hg => own_rd hg) (fun _ => rfl) hx fun a ha => ldN_of h2 2 rfl ha rfl ?_
    refine al_s (cs := EnX.zero.cs) h2 rfl fun b w3 h3 => ?_
    refine stN_at h3 0 rfl (vs := x.cs) rfl rfl (by simp [EnX.zero, EnX.cs]) (EnX.flat (en_flat 4 h3 rfl (List.mem_of_getElem? hx))) (cs' := x.cs) (by rfl) fun w4 h4 => ?_
    refine fld_at (fld_at (ldN_at h4 0 (vs := x.m.key.cs) rfl (by rfl) rfl ?_))
    refine push1 te_202 (f := Key.cs) (fun _ => rfl) (fun _ => ints_flat _) h4.swap (x := x.m.key) rfl (by rw [List.length_map, List.length_take]; omega) fun v' w5 h5 => ?_
    refine inc_s (by omega) ?_
    refine hg _ _ _ _ (by omega) ⟨j + 1, by omega, rfl, rfl, ?_⟩
    rw [take_snoc hx, List.map_append]
    exact h5.selR [_, _] [_] [0] (by decide) rfl
  · have ej : j = xs.length := by omega
    rw [ej, List.take_length] at h2
    have hke : xs.map (fun x => x.m.key) = l.map fun x => x.m.key := by rw [← hp.1, List.map_map]; rfl
    rw [hke] at h2
    refine hk _ _ (Sat.swap (past_mk (lv := lv) hp ?_))
    exact h2.selR [_, _, _, _] [_, _, _, _] [1, 2, 3, 0] (by decide) rfl
theorem cloneM_s {v : Value} {l : List Msg} (i : Nat) (hi : L[i]? = some S) (hl : l.length ≤ 1000000) (hS : Sat e w L) (hr : ∀ g, S g → rdS 6 Msg.cs v l g)
    (hk : ∀ v' w', Sat e w' (ownS 37 6 Msg.cs v' l :: L) → K v' w') : Cl prog 114 #[v] w K := by
  have hback : ∀ {X : HP} {w'}, Sat e w' (X :: S :: L.eraseIdx i) → Sat e w' (X :: L) := fun h => h.perm (List.Perm.cons _ (pick_perm L i S hi).symm)
  have h0 := hS.pick i hi
  refine slices_Clone_api_Msg_api_Msg_calls ?_
  unfold slices_Clone_api_Msg_api_Msg
  obtain ⟨A, c, rfl, _⟩ := h0.shape 0 rfl hr
  cases A with
  | none =>
    refine ex_oV (w' := w) (v := .bool true) (by kernel_rfl) ?_
    have hnil : l = [] := by
      obtain ⟨g, hg, _⟩ := h0.get 0 rfl
      obtain ⟨A', c', h1, h2, h3⟩ := hr g hg
      injection h1 with e1 e2 e3
      by_cases h0 : 0 < l.length
      · obtain ⟨a, ha, _⟩ := h3 h0
        rw [← e1] at ha
        cases ha
      · exact List.length_eq_zero_iff.1 (by omega)
    subst hnil
    exact iff_t (hk _ _ (hback (h0.own_nil 37 6 Msg.cs)))
  | some a =>
    refine ex_oV (w' := w) (v := .bool false) (by kernel_rfl) ?_
    refine iff_f ?_
    refine bsl0 h0 Msg.cs fun v1 w2 h2 => ?_
    refine apS_own te_33 und_33 (f := Msg.cs) (fun _ => rfl) (fun _ => ints_flat _) h2 hr (by simp; omega) fun v2 w3 h3 => ?_
    rw [List.nil_append] at h3
    exact hk _ _ (hback h3)
theorem past_own_s {x : EnX} (i : Nat) (hi : L[i]? = some S) (hl : x.outs.length ≤ 1000000) (hS : Sat e w L) (hr : ∀ g, S g → rdS 6 Msg.cs x.ov x.outs g)
    (hk : ∀ v' w', Sat e w' (eOwn ⟨x.m, x.ahead, x.sent, x.st, v', x.outs⟩ :: L) → K (.agg (EnX.cs ⟨x.m, x.ahead, x.sent, x.st, v', x.outs⟩).toArray) w') : Cl prog 113 #[.agg x.cs.toArray] w K := by
  refine past_own_calls ?_
  unfold past_own
  refine al_s (cs := x.cs) hS rfl fun b w1 h1 => ?_
  rw [zero_113]
  refine al_s (cs := EnX.zero.cs) h1 rfl fun b2 w2 h2 => ?_
  refine fld_at (ld1_at h2 1 rfl (v := x.ov) rfl ?_)
  refine cloneM_s (i + 2) (by simpa using hi) hl h2 hr fun v' w3 h3 => ?_
  have q1 := h3.own_cells 0 rfl
  refine fld_at (stN_at h3 2 rfl (vs := [v']) q1.1 rfl (Nat.le_of_ble_eq_true rfl) (fun c hc => by rw [List.mem_singleton.1 hc]; exact q1.2) (cs' := (EnX.cs ⟨x.m, x.ahead, x.sent, x.st, v', x.outs⟩)) (by rfl) fun w4 h4 => ?_)
  refine ldN_at h4 2 (vs := (EnX.cs ⟨x.m, x.ahead, x.sent, x.st, v', x.outs⟩)) rfl (by rfl) rfl ?_
  refine stN_at h4 1 rfl (vs := (EnX.cs ⟨x.m, x.ahead, x.sent, x.st, v', x.outs⟩)) rfl rfl (by simp [EnX.zero, EnX.cs]) (EnX.flat q1.2) (cs' := (EnX.cs ⟨x.m, x.ahead, x.sent, x.st, v', x.outs⟩)) (by rfl) fun w5 h5 => ?_
  refine ldN_at h5 1 (vs := (EnX.cs ⟨x.m, x.ahead, x.sent, x.st, v', x.outs⟩)) rfl (by rfl) rfl ?_
  exact hk _ _ (h5.selR [_, _, _] [_] [0] (by decide) rfl)
theorem past_Last_s {p : Nat} {fl : Int} {l : List En} (hS : Sat e w (IsPast p fl l :: R))
    (h0 : l = [] → ∀ w', Sat e w' (IsPast p fl l :: R) → K (.tuple #[.agg EnX.zero.cs.toArray, .bool false]) w')
    (h1 : ∀ (x : EnX) (l' : List En), l = l' ++ [x.e] → ∀ w', Sat e w' (eOwn x :: IsPast p fl l :: R) → K (.tuple #[.agg x.cs.toArray, .bool true]) w') : Cl prog 111 #[.pointer (some ⟨p, 0, none⟩)] w K := by
  refine past_Past_Last_calls ?_
  unfold past_Past_Last
  obtain ⟨lv, xs, hp, h2⟩ := past_of hS
  have hxl : xs.length ≤ 64 := by have := hp.2.len; rw [← hp.1, List.length_map] at this; exact this
  rw [zero_113]
  refine al_s (cs := EnX.zero.cs) h2 rfl fun t2 w3 h3 => ?_
  refine ncP_p (fld_at (ld1_at h3 1 rfl (v := lv) rfl ?_))
  refine lnS_rd h3 2 rfl (fun g hg => own_rd hg) ?_
  refine eq_c (fun c => iff_t ?_) (fun c => iff_f ?_)
  · have hx0 : xs = [] := List.length_eq_zero_iff.1 (by omega)
    refine bld_s EnX.zero.cs (by kernel_rfl) ?_
    refine stN_at h3 0 rfl (vs := EnX.zero.cs) rfl rfl (by simp [EnX.zero, EnX.cs]) (EnX.flat rfl) (cs' := EnX.zero.cs) (by kernel_rfl) fun w4 h4 => ?_
    refine ldN_at h4 0 (vs := EnX.zero.cs) rfl (by rfl) rfl ?_
    exact h0 (by rw [← hp.1, hx0]; rfl) _ (past_mk hp h4.drop)
  · refine dr_s h3 fun w4 h4 => ?_
    refine ncP_p (fld_at (ld1_at h4 1 rfl (v := lv) rfl ?_))
    refine ncP_p (fld_at (ld1_at h4 1 rfl (v := lv) rfl ?_))
    refine lnS_rd h4 2 rfl (fun g hg => own_rd hg) ?_
    refine sub_s (by omega) (by omega) ?_
    rw [show (xs.length : Int) - 1 = ((xs.length - 1 : Nat) : Int) from by omega]
    obtain ⟨x, hx⟩ := get_of_lt (l := xs) (j := xs.length - 1) (by omega)
    have hxm := List.mem_of_getElem? hx
    have hout : x.outs.length ≤ 1000 := hp.2.outs x.e (by rw [← hp.1]; exact List.mem_map_of_mem hxm)
    refine ixS_rd h4 2 rfl (fun g hg => own_rd hg) (fun _ => rfl) hx fun a ha => ldN_of h4 2 rfl ha rfl ?_
    refine past_own_s (x := x) 3 rfl (by omega) h4 (fun g hg => ?_) fun v' w5 h5 => ?_
    · obtain ⟨j, hj⟩ := List.getElem?_of_mem hxm
      obtain ⟨hs, k1, k2⟩ := SatH.get (S := eOwn x) (l := xs.map eOwn) hg (i := j) (by rw [List.getElem?_map, hj]; rfl)
      obtain ⟨A, c, q1, q2, q3⟩ := own_rd k1
      exact ⟨A, c, q1, q2, fun h0 => by obtain ⟨a, h4, h5⟩ := q3 h0; exact ⟨a, h4, h5.up k2⟩⟩
    have q1 := h5.own_cells 0 rfl
    refine stN_at h5 1 rfl (vs := (EnX.cs ⟨x.m, x.ahead, x.sent, x.st, v', x.outs⟩)) rfl rfl (by simp [EnX.zero, EnX.cs]) (EnX.flat q1.2) (cs' := (EnX.cs ⟨x.m, x.ahead, x.sent, x.st, v', x.outs⟩)) (by rfl) fun w6 h6 => ?_
    refine ldN_at h6 1 (vs := (EnX.cs ⟨x.m, x.ahead, x.sent, x.st, v', x.outs⟩)) rfl (by rfl) rfl ?_
    have hsp : xs = xs.take (xs.length - 1) ++ [x] := by
      conv => lhs; rw [← List.take_append_drop (xs.length - 1) xs, drop_cons hx, List.drop_of_length_le (by omega)]
    refine h1 ⟨x.m, x.ahead, x.sent, x.st, v', x.outs⟩ ((xs.take (xs.length - 1)).map EnX.e) ?_ _ ?_
    · rw [← hp.1]
      conv => lhs; rw [hsp, List.map_append]
      rfl
    · have h7 := past_mk hp (h6.selR [_, _, _, _, _] [_, _, _, _] [2, 3, 4, 0] (by decide) rfl)
      exact h7.swap
end Go.Proofs.YtbopajpmadlmhaaGreat
end
section
namespace Go.Proofs.YtbopajpmadlmhaaGreat
open Go Go.E
set_option maxRecDepth 100000
variable {e w : World} {L Q R : List HP} {K : KV} {S S2 : HP}

theorem search_s {n : Nat} {fv : Value} {f : Nat → Bool} (hn : n ≤ 1000000) (hmono : ∀ i j, i ≤ j → j < n → f i = true → f j = true) (hS : Sat e w L)
    (hp : ∀ j, j < n → ∀ (w : World) (K : KV), Sat e w L → (∀ w', Sat e w' L → K (.bool (f j)) w') → clV prog fv #[.int .i64 (j : Int)] w K)
    (hk : ∀ (m : Nat) w', m ≤ n → (∀ j, j < m → f j = false) → (∀ j, m ≤ j → j < n → f j = true) → Sat e w' L → K (.int .i64 (m : Int)) w') : Cl prog 163 #[.int .i64 (n : Int), fv] w K := by
  refine sort_Search_calls ?_
  unfold sort_Search
  refine lpi2 (fun q t5 t6 w => ∃ lo hi : Nat, t5 = .int .i64 lo ∧ t6 = .int .i64 hi ∧ q = hi - lo ∧ lo ≤ hi ∧ hi ≤ n ∧ (∀ j, j < lo → f j = false) ∧ (∀ j, hi ≤ j → j < n → f j = true) ∧ Sat e w L) n
    ⟨0, n, rfl, rfl, by omega, Nat.zero_le _, Nat.le_refl _, fun _ h => absurd h (by omega), fun _ h1 h2 => absurd h2 (by omega), hS⟩ ?_
  rintro q _ _ w g ⟨lo, hi, rfl, rfl, rfl, h1, h2, h3, h4, h5⟩ hg
  refine lt_c (fun c => iff_t ?_) (fun c => iff_f ?_)
  · refine addn_s (by omega) ?_
    refine half_s (xo := fun _ => _) (yo := fun _ => _) (n := lo + hi) (by omega) ?_
    have hm1 : lo ≤ (lo + hi) / 2 := by omega
    have hm2 : (lo + hi) / 2 < hi := by omega
    generalize (lo + hi) / 2 = m at hm1 hm2
    refine hp m (by omega) _ _ h5 fun w6 h6 => ?_
    cases hf : f m with
    | false =>
      refine not_f (iff_t (inc_s (by omega) ?_))
      refine hg _ _ _ _ (by omega) ⟨m + 1, hi, rfl, rfl, rfl, by omega, h2, fun j hj => ?_, h4, h6⟩
      cases hfj : f j with
      | false => rfl
      | true =>
        have := hmono j m (by omega) (by omega) hfj
        rw [hf] at this
        cases this
    | true =>
      refine not_t (iff_f ?_)
      exact hg _ _ _ _ (by omega) ⟨lo, m, rfl, rfl, rfl, by omega, by omega, h3, fun j hj1 hj2 => hmono m j hj1 hj2 hf, h6⟩
  · have e1 : lo = hi := by omega
    subst e1
    exact hk lo _ h2 h3 h4 h5
theorem many_s {p : Nat} {fl : Int} {lv : Value} {xs : List EnX} {k : Key} {by' : Value} {P : EnX → Bool} (hx : xs.length ≤ 64) (hby : flat by' = true ∧ by'.cells.toList = [by'])
    (hmono : ∀ (i j : Nat) x y, i ≤ j → xs[i]? = some x → xs[j]? = some y → P y = true → P x = true)
    (hP : ∀ (x : EnX) (w : World) (L : List HP) (K : KV), Sat e w L → (∀ w', Sat e w' L → K (.bool (P x)) w') → clV prog by' #[.agg x.cs.toArray, .agg k.cs.toArray] w K)
    (hS : Sat e w (blk p 157 [.int .i64 fl, lv] :: ownS 113 10 EnX.cs lv xs :: Q))
    (hk : ∀ (m : Nat) w', m ≤ xs.length → (∀ x ∈ xs.take m, P x = true) → (∀ x ∈ xs.drop m, P x = false) → Sat e w' (blk p 157 [.int .i64 fl, lv] :: ownS 113 10 EnX.cs lv xs :: Q) → K (.int .i64 (m : Int)) w') :
    Cl prog 118 #[.pointer (some ⟨p, 0, none⟩), by', .agg k.cs.toArray] w K := by
  refine past_Past_many_calls ?_
  unfold past_Past_many
  refine al_s (cs := [.pointer (some ⟨p, 0, none⟩)]) hS rfl fun b3 w1 h1 => ?_
  refine al_s (cs := [by']) h1 hby.2 fun b4 w2 h2 => ?_
  refine al_s (cs := k.cs) h2 rfl fun b5 w3 h3 => ?_
  refine ld1_at h3 2 rfl rfl ?_
  refine ncP_p (fld_at (ld1_at h3 3 rfl (v := lv) rfl ?_))
  refine lnS_rd h3 4 rfl (fun g hg => own_rd hg) ?_
  refine search_s (n := xs.length) (f := fun j => !(xs[j]?.map P).getD false) (by omega) (fun i j hij hj hi => ?_) h3 (fun j hj w K h4 hK => ?_) (fun m w4 hm hlo hhi h4 => ?_)
  · obtain ⟨y, hy⟩ := get_of_lt (l := xs) (j := j) hj
    obtain ⟨x, hx⟩ := get_of_lt (l := xs) (j := i) (by omega)
    simp only [hy, hx, Option.map_some, Option.getD_some, Bool.not_eq_true'] at hi ⊢
    cases hpy : P y with
    | false => rfl
    | true => rw [hmono i j x y hij hx hy hpy] at hi; cases hi
  · obtain ⟨y, hy⟩ := get_of_lt (l := xs) (j := j) hj
    refine ⟨_, _, _, rfl, ?_⟩
    refine past_Past_many_1_calls (t0 := .int .i64 (j : Int)) (t1 := .pointer (some ⟨b4, 0, none⟩)) (t2 := .pointer (some ⟨b3, 0, none⟩)) (t3 := .pointer (some ⟨b5, 0, none⟩)) ?_
    unfold past_Past_many_1
    refine dr_s h4 fun w5 h5 => ?_
    refine ld1_at h5 1 rfl rfl (ld1_at h5 2 rfl rfl ?_)
    refine ncP_p (fld_at (ld1_at h5 3 rfl (v := lv) rfl ?_))
    refine ixS_rd h5 4 rfl (fun g hg => own_rd hg) (fun _ => rfl) hy fun a ha => ldN_of h5 4 rfl ha rfl ?_
    refine ldN_at h5 0 (vs := k.cs) rfl (by rfl) rfl ?_
    refine hP y _ _ _ h5 fun w6 h6 => ?_
    have hK' := hK _ h6
    simp only [hy, Option.map_some, Option.getD_some] at hK'
    cases hpy : P y with
    | false => rw [hpy] at hK'; exact not_f hK'
    | true => rw [hpy] at hK'; exact not_t hK'
  · refine hk m _ hm (fun x hx => ?_) (fun x hx => ?_) (h4.selR [_, _, _, _, _] [_, _] [3, 4] (by decide) rfl)
    · obtain ⟨j, hj⟩ := List.getElem?_of_mem hx
      have hjl := (List.getElem?_eq_some_iff.1 hj).1
      rw [List.length_take] at hjl
      rw [List.getElem?_take, if_pos (by omega)] at hj
      have := hlo j (by omega)
      simp only [hj, Option.map_some, Option.getD_some, Bool.not_eq_false'] at this
      exact this
    · obtain ⟨j, hj⟩ := List.getElem?_of_mem hx
      have hjl := (List.getElem?_eq_some_iff.1 hj).1
      rw [List.length_drop] at hjl
      rw [List.getElem?_drop] at hj
      have := hhi (m + j) (by omega) (by omega)
      simp only [hj, Option.map_some, Option.getD_some, Bool.not_eq_true'] at this
      exact this
theorem aheadF_s (x : EnX) (k : Key) (hS : Sat e w L) (hk : ∀ w', Sat e w' L → K (.bool (decide (KeyLt x.m.key k))) w') : clV prog (.func (.func 112) #[] #[]) #[.agg x.cs.toArray, .agg k.cs.toArray] w K := by
  refine ⟨_, _, _, rfl, ?_⟩
  refine past_Entry_ahead_calls (t0 := .agg x.cs.toArray) (t1 := .agg k.cs.toArray) ?_
  unfold past_Entry_ahead
  refine al_s (cs := x.cs) hS rfl fun b w1 h1 => ?_
  refine al_s (cs := k.cs) h1 rfl fun b2 w2 h2 => ?_
  refine fld_at (fld_at (ldN_at h2 1 (vs := x.m.key.cs) rfl (by rfl) rfl ?_))
  refine ldN_at h2 0 (vs := k.cs) rfl (by rfl) rfl ?_
  refine vtime_Cmp_s h2 fun w3 h3 => ?_
  refine lt_d ?_
  have := hk _ h3.drop.drop
  rwa [show decide (KeyLt x.m.key k) = decide (cmpK x.m.key k < 0) from by rw [Bool.eq_iff_iff, decide_eq_true_iff, decide_eq_true_iff, cmpK_lt]] at this
theorem ahead_s' (x : EnX) (k : Key) (hS : Sat e w L) (hk : ∀ w', Sat e w' L → K (.bool (decide (KeyLt x.m.key k))) w') : Cl prog 112 #[.agg x.cs.toArray, .agg k.cs.toArray] w K := by
  obtain ⟨_, _, _, h1, h2⟩ := aheadF_s x k hS hk
  cases h1
  exact h2
theorem earlyF_s (x : EnX) (k : Key) (hS : Sat e w L) (hk : ∀ w', Sat e w' L → K (.bool (decide (x.m.key.T < k.T))) w') : clV prog (.func (.func 119) #[] #[]) #[.agg x.cs.toArray, .agg k.cs.toArray] w K := by
  refine ⟨_, _, _, rfl, ?_⟩
  refine past_Entry_early_calls (t0 := .agg x.cs.toArray) (t1 := .agg k.cs.toArray) ?_
  unfold past_Entry_early
  refine al_s (cs := x.cs) hS rfl fun b w1 h1 => ?_
  refine al_s (cs := k.cs) h1 rfl fun b2 w2 h2 => ?_
  refine fld_at (fld_at (fld_at (ld1_at h2 1 rfl (v := .int .i64 x.m.key.T) rfl ?_)))
  refine fld_at (ld1_at h2 0 rfl (v := .int .i64 k.T) rfl ?_)
  exact lt_d (hk _ h2.drop.drop)

def lastLt (l : List En) (k : Key) : Prop := ∀ x, l.getLast? = some x → KeyLt x.m.key k
theorem past_Push_s {p : Nat} {fl : Int} {l : List En} {x : EnX} (i : Nat) (hi : Q[i]? = some S) (hl : x.outs.length ≤ 1000) (hr : ∀ g, S g → rdS 6 Msg.cs x.ov x.outs g) (h1 : ¬ x.m.key.T < fl) (h2 : lastLt l x.m.key) (h3 : l.length < 64)
    (hS : Sat e w (IsPast p fl l :: Q)) (hk : ∀ w', Sat e w' (IsPast p fl (l ++ [x.e]) :: Q) → K (.int .i64 0) w') : Cl prog 57 #[.pointer (some ⟨p, 0, none⟩), .agg x.cs.toArray] w K := by
  refine past_Past_Push_calls ?_
  unfold past_Past_Push
  rw [zero_113]
  refine al_s (cs := x.cs) hS rfl fun b w1 h4 => ?_
  have key : ∀ (q : Bool) (y : EnX) (w' : World), flat y.ov = true → (q = true → KeyLt y.m.key x.m.key) → Sat e w' (IsPast p fl l :: blk b 113 x.cs :: Q) →
      al EnX.zero.cs.toArray 113 w' fun t5 w => stN 10 t5 (.agg y.cs.toArray) w fun _ w => dr w fun w => fld 0 (.pointer (some ⟨b, 0, none⟩)) w fun t13 _ => fld 0 t13 w fun t14 _ => fld 0 t14 w fun t15 _ => ld1 t15 w fun t16 _ =>
        ncP (.pointer (some ⟨p, 0, none⟩)) <| fld 0 (.pointer (some ⟨p, 0, none⟩)) w fun t19 _ => ld1 t19 w fun t20 _ => bi .lss .i64 t16 t20 w fun t21 _ => iff' t21 (K (.int .i64 110) w)
          (gd (.bool q) true (fun k => ldN 10 t5 w k) w fun t25 w => gd (.bool q) true (fun k => fld 0 (.pointer (some ⟨b, 0, none⟩)) w k) w fun t26 w => gd (.bool q) true (fun k => fld 0 t26 w k) w fun t27 w => gd (.bool q) true (fun k => ldN 3 t27 w k) w fun t28 w =>
          gd (.bool q) true (fun k => Cl prog 112 #[t25, t28] w k) w fun t29 w => gd (.bool q) true (fun k => bnot t29 w k) w fun t30 w => pk (.bool q) t30 (.bool false) w fun t31 w => iff' t31 (K (.int .i64 130) w)
          (ncP (.pointer (some ⟨p, 0, none⟩)) <| fld 1 (.pointer (some ⟨p, 0, none⟩)) w fun t35 w => ld1 t35 w fun t36 w => lnS t36 w fun t37 w => bi .geq .i64 t37 (.int .i64 64) w fun t38 w => iff' t38 (K (.int .i64 2) w)
          (dr w fun w => ncP (.pointer (some ⟨p, 0, none⟩)) <| fld 1 (.pointer (some ⟨p, 0, none⟩)) w fun t42 _ => ld1 t42 w fun t43 _ => ldN 10 (.pointer (some ⟨b, 0, none⟩)) w fun t44 _ => Cl prog 113 #[t44] w fun t45 w =>
          (ld1 t42 w (fun v' w'' => v' = t43 ∧ w'' = w)) ∧ (bsl 113 10 1 (zeroD prog 113) [(0, t45)] w fun t46 w => (ld1 t42 w (fun v' w'' => v' = t43 ∧ w'' = w)) ∧ (apS prog #[115, 115] 115 t43 t46 w fun t47 w =>
          ncP (.pointer (some ⟨p, 0, none⟩)) <| fld 1 (.pointer (some ⟨p, 0, none⟩)) w fun t49 _ => stN 1 t49 t47 w fun _ w => K (.int .i64 0) w))))) := by
    intro q y w' hyf hq h5
    refine al_s (cs := EnX.zero.cs) h5 rfl fun t5 w2 h6 => ?_
    refine stN_at h6 0 rfl (vs := y.cs) rfl rfl (by simp [EnX.zero, EnX.cs]) (EnX.flat hyf) (cs' := y.cs) (by rfl) fun w3 h7 => ?_
    obtain ⟨lv, xs, hp, h8⟩ := past_of (h7.pick 1 rfl)
    replace h8 : Sat e w3 (blk p 157 [.int .i64 fl, lv] :: ownS 113 10 EnX.cs lv xs :: sepL (xs.map eOwn) :: blk t5 113 y.cs :: blk b 113 x.cs :: Q) := h8
    have hxl : xs.length = l.length := by rw [← hp.1, List.length_map]
    refine dr_s h8 fun w4 h9 => ?_
    refine fld_at (fld_at (fld_at (ld1_at h9 4 rfl (v := .int .i64 x.m.key.T) rfl ?_)))
    refine ncP_p (fld_at (ld1_at h9 0 rfl (v := .int .i64 fl) rfl (lt_f h1 (iff_f ?_))))
    have hrest : ∀ w', Sat e w' (blk p 157 [.int .i64 fl, lv] :: ownS 113 10 EnX.cs lv xs :: sepL (xs.map eOwn) :: blk t5 113 y.cs :: blk b 113 x.cs :: Q) →
        (ncP (.pointer (some ⟨p, 0, none⟩)) <| fld 1 (.pointer (some ⟨p, 0, none⟩)) w' fun t35 w => ld1 t35 w fun t36 w => lnS t36 w fun t37 w => bi .geq .i64 t37 (.int .i64 64) w fun t38 w => iff' t38 (K (.int .i64 2) w)
          (dr w fun w => ncP (.pointer (some ⟨p, 0, none⟩)) <| fld 1 (.pointer (some ⟨p, 0, none⟩)) w fun t42 _ => ld1 t42 w fun t43 _ => ldN 10 (.pointer (some ⟨b, 0, none⟩)) w fun t44 _ => Cl prog 113 #[t44] w fun t45 w =>
          (ld1 t42 w (fun v' w'' => v' = t43 ∧ w'' = w)) ∧ (bsl 113 10 1 (zeroD prog 113) [(0, t45)] w fun t46 w => (ld1 t42 w (fun v' w'' => v' = t43 ∧ w'' = w)) ∧ (apS prog #[115, 115] 115 t43 t46 w fun t47 w =>
          ncP (.pointer (some ⟨p, 0, none⟩)) <| fld 1 (.pointer (some ⟨p, 0, none⟩)) w fun t49 _ => stN 1 t49 t47 w fun _ w => K (.int .i64 0) w)))) := by
      intro w' ha
      refine ncP_p (fld_at (ld1_at ha 0 rfl (v := lv) rfl ?_))
      refine lnS_rd ha 1 rfl (fun g hg => own_rd hg) (ge_f (by omega) (iff_f ?_))
      refine dr_s ha fun w5 hb => ?_
      refine ncP_p (fld_at (ld1_at hb 0 rfl (v := lv) rfl ?_))
      refine ldN_at hb 4 (vs := x.cs) rfl (by rfl) rfl ?_
      refine past_own_s (x := x) (i + 5) (by simpa using hi) (by omega) hb hr fun v' w6 hc => ?_
      refine ⟨ld1_at hc 1 rfl (v := lv) rfl ⟨rfl, rfl⟩, ?_⟩
      have q0 := hc.own_cells 0 rfl
      obtain ⟨x2, hx2⟩ : ∃ x2 : EnX, x2 = ⟨x.m, x.ahead, x.sent, x.st, v', x.outs⟩ := ⟨_, rfl⟩
      rw [← hx2] at hc ⊢
      have hx2f : flat x2.ov = true := by rw [hx2]; exact q0.2
      refine bsl1 (vs := x2.cs) rfl rfl hc fun bb w7 hd => ?_
      refine ⟨ld1_at hd 2 rfl (v := lv) rfl ⟨rfl, rfl⟩, ?_⟩
      refine apS_ownM te_115 te_115.und (f := EnX.cs) (m := [x2]) (fun _ => rfl) (fun y hy c hc => by rw [List.mem_singleton.1 hy] at hc; exact EnX.flat hx2f c hc) (hd.selR [_, _, _, _] [_, _, _, _] [3, 0, 1, 2] (by decide) rfl) (blk_rd1 (f := EnX.cs) (x := x2) (Nat.le_refl _)) (by simp; omega) fun lv' w8 he => ?_
      have q1 := he.own_cells 0 rfl
      refine ncP_p (fld_at (stN_at he 3 rfl (vs := [lv']) q1.1 rfl (Nat.le_of_ble_eq_true rfl) (fun c hc => by rw [List.mem_singleton.1 hc]; exact q1.2) (cs' := [.int .i64 fl, lv']) (by rfl) fun w9 hf' => ?_))
      replace hf' : Sat e w9 (ownS 113 10 EnX.cs lv' (xs ++ [x2]) :: blk bb 113 x2.cs :: eOwn x2 :: blk p 157 [.int .i64 fl, lv'] :: sepL (xs.map eOwn) :: blk t5 113 y.cs :: blk b 113 x.cs :: Q) := hf'
      have hg2 : Sat e w9 (sepL (xs.map eOwn) :: sepL [eOwn x2] :: ownS 113 10 EnX.cs lv' (xs ++ [x2]) :: blk p 157 [.int .i64 fl, lv'] :: Q) := by
        have h1 := hf'.selR [_, _, _, _, _, _, _] [_, _, _, _] [2, 4, 0, 3] (by decide) rfl
        exact (Sat.join (l' := [_]) h1).swap
      have hh := sepL_both hg2
      rw [show xs.map eOwn ++ [eOwn x2] = (xs ++ [x2]).map eOwn from by rw [List.map_append]; rfl] at hh
      refine hk _ (past_mk (lv := lv') (xs := xs ++ [x2]) ⟨?_, ?_⟩ (hh.selR [_, _, _] [_, _, _] [2, 1, 0] (by decide) rfl))
      · rw [List.map_append, hp.1, hx2]
        rfl
      · refine ⟨?_, by rw [List.length_append, List.length_singleton]; omega, fun z hz => ?_⟩
        · rw [List.pairwise_append]
          refine ⟨hp.2.up, List.pairwise_singleton _ _, fun a ha b hb => ?_⟩
          rw [List.mem_singleton.1 hb]
          cases hla : l.getLast? with
          | none => rw [List.getLast?_eq_none_iff] at hla; subst hla; cases ha
          | some z =>
            have hz := h2 z hla
            obtain ⟨l0, rfl⟩ := List.getLast?_eq_some_iff.1 hla
            rcases List.mem_append.1 ha with ha | ha
            · exact ((List.pairwise_append.1 hp.2.up).2.2 a ha z (by simp)).trans hz
            · rw [List.mem_singleton.1 ha]; exact hz
        · rcases List.mem_append.1 hz with hz | hz
          · exact hp.2.outs z hz
          · rw [List.mem_singleton.1 hz]; exact hl
    cases q with
    | false =>
      refine gd_ft (gd_ft (gd_ft (gd_ft (gd_ft (gd_ft (pk_f (iff_f ?_)))))))
      exact hrest _ h9
    | true =>
      refine gd_tt (ldN_at h9 3 (vs := y.cs) rfl (by rfl) rfl (gd_tt (fld_at (gd_tt (fld_at (gd_tt (ldN_at h9 4 (vs := x.m.key.cs) rfl (by rfl) rfl (gd_tt ?_))))))))
      refine ahead_s' y x.m.key h9 fun w5 h10 => ?_
      rw [decide_eq_true (hq rfl)]
      refine gd_tt (not_t (pk_t (iff_f ?_)))
      exact hrest _ h10
  refine past_Last_s h4.swap (fun h0 w2 h5 => ?_) (fun y l' hl' w2 h5 => ?_)
  · refine xt_02 (xt_12 ?_)
    exact key false EnX.zero w2 rfl (fun h => by cases h) h5
  · refine xt_02 (xt_12 ?_)
    have q1 := h5.own_cells 0 rfl
    refine key true y w2 q1.2 (fun _ => ?_) h5.drop
    exact h2 y.e (by rw [hl']; simp)
end Go.Proofs.YtbopajpmadlmhaaGreat
end
section
namespace Go.Proofs.YtbopajpmadlmhaaGreat
open Go Go.E
set_option maxRecDepth 100000

def IsGate (g : Nat) (fl : Int) (l : List Kept) : HP := hex fun v : Value => sepL [blk g 160 [.int .i64 fl, v], ownS 177 9 Kept.cs v l]

variable {e w : World} {R : List HP} {K : KV}
theorem gate_New_s (hS : Sat e w R) (hk : ∀ g w', Sat e w' (IsGate g 0 [] :: R) → K (.pointer (some ⟨g, 0, none⟩)) w') : Cl prog 46 #[] w K := by
  refine gate_New_calls ?_
  unfold gate_New
  rw [zero_160]
  refine ⟨_, rfl, ?_⟩
  refine al_s (cs := [.int .i64 0, .slice none 0 0]) hS rfl fun b w1 h1 => ?_
  exact hk _ _ (.mk_ex (.slice none 0 0) (.join (l' := [_, _]) (h1.own_nil 177 9 Kept.cs).swap))

def holdE (fl : Int) (l : List Kept) (c : Key) : Int := if c.T < fl then 110 else if 256 ≤ l.length then 2 else 0
def holdL (fl : Int) (l : List Kept) (c : Key) (m : Msg) : List Kept := if c.T < fl then l else if 256 ≤ l.length then l else l ++ [⟨c, m⟩]


theorem gate_Hold_s {g : Nat} {fl : Int} {l : List Kept} (c : Key) (m : Msg) (hS : Sat e w (IsGate g fl l :: R)) (hl : l.length ≤ 256)
    (hk : ∀ w', Sat e w' (IsGate g fl (holdL fl l c m) :: R) → K (.int .i64 (holdE fl l c)) w') : Cl prog 59 #[.pointer (some ⟨g, 0, none⟩), .agg c.cs.toArray, .agg m.cs.toArray] w K := by
  obtain ⟨v, h0⟩ := hS.ex
  have h1 := h0.split
  refine gate_Gate_Hold_calls ?_
  unfold gate_Gate_Hold
  refine al_s (cs := c.cs) h1 rfl fun b4 w1 h2 => ?_
  refine al_s (cs := m.cs) h2 rfl fun b5 w2 h3 => ?_
  refine dr_s h3 fun w3 h4 => ?_
  refine fld_at ?_
  refine ld1_at h4 1 rfl rfl ?_
  refine ncP_p ?_
  refine fld_at ?_
  refine ld1_at h4 2 rfl rfl ?_
  refine lt_c (fun c1 => ?_) (fun c1 => ?_)
  · refine iff_t ?_
    have := hk w3
    simp only [holdE, holdL, if_pos c1] at this
    exact this (.mk_ex v (.join (l' := [_, _]) h4.drop.drop))
  · refine iff_f ?_
    refine ncP_p ?_
    refine fld_at ?_
    refine ld1_at h4 2 rfl rfl ?_
    refine lnS_rd h4 3 rfl (fun g hg => own_rd hg) ?_
    refine ge_c (fun c2 => ?_) (fun c2 => ?_)
    · refine iff_t ?_
      have := hk w3
      have c3 : 256 ≤ l.length := by omega
      simp only [holdE, holdL, if_neg c1, if_pos c3] at this
      exact this (.mk_ex v (.join (l' := [_, _]) h4.drop.drop))
    · refine iff_f ?_
      refine dr_s h4 fun w4 h5 => ?_
      refine ncP_p ?_
      refine fld_at ?_
      refine ld1_at h5 2 rfl rfl ?_
      refine ldN_at h5 1 (vs := c.cs) rfl (by rfl) rfl ?_
      refine ldN_at h5 0 (vs := m.cs) rfl (by rfl) rfl ?_
      rw [zero_177]
      refine bld_s (Kept.cs ⟨c, m⟩) (by kernel_rfl) ?_
      refine ⟨ld1_at h5 2 rfl rfl ⟨rfl, rfl⟩, ?_⟩
      refine bsl1 (vs := Kept.cs ⟨c, m⟩) rfl rfl h5 fun b30 w5 h6 => ?_
      refine ⟨ld1_at h6 3 rfl rfl ⟨rfl, rfl⟩, ?_⟩
      have hb : (l.length + [(⟨c, m⟩ : Kept)].length) * 72 ≤ 140737488355328 := by
        simp only [List.length_cons, List.length_nil]
        omega
      have h6' := h6.pick 4 rfl
      refine apS_own te_158 und_158 (f := Kept.cs) (fun _ => rfl) (fun _ => ints_flat _) h6' (m := [⟨c, m⟩]) (blk_rd1 (f := Kept.cs) (x := ⟨c, m⟩) (Nat.le_refl _)) hb fun v' w6 h7 => ?_
      refine ncP_p ?_
      refine fld_at ?_
      refine st1_at h7 4 rfl (h7.own_cells 0 rfl) (by simp) rfl fun w7 h8 => ?_
      have := hk w7
      have c3 : ¬ 256 ≤ l.length := by omega
      simp only [holdE, holdL, if_neg c1, if_neg c3] at this
      exact this (.mk_ex v' (.join (l' := [_, _]) (h8.selR [_, _, _, _, _] [_, _] [4, 0] (by decide) rfl)))

theorem messages_s {v : Value} {l : List Kept} {S : HP} (hS : Sat e w (S :: R)) (hr : ∀ g, S g → rdS 9 Kept.cs v l g) (hl : l.length ≤ 1000000)
    (hk : ∀ v' w', Sat e w' (ownS 37 6 Msg.cs v' (l.map Kept.m) :: S :: R) → K v' w') : Cl prog 106 #[v] w K := by
  refine gate_messages_calls ?_
  unfold gate_messages
  rw [zero_177]
  refine lnS_rd hS 0 rfl hr ?_
  refine lp2 (fun t3 t8 w => ∃ j : Nat, j ≤ l.length ∧ t8 = .int .i64 j ∧ Sat e w (ownS 37 6 Msg.cs t3 ((l.take j).map Kept.m) :: S :: R)) (fun _ t8 _ => l.length - nOf t8)
    ⟨0, Nat.zero_le _, rfl, by simpa using hS.own_nil 37 6 Msg.cs⟩ ?_
  rintro t3 _ w g ⟨j, hj, rfl, h1⟩ hg
  refine lt_c (fun c => ?_) (fun c => ?_)
  · refine iff_t ?_
    obtain ⟨x, hx⟩ := get_of_lt (l := l) (j := j) (by omega)
    refine ixS_rd h1 1 rfl hr (fun _ => rfl) hx fun a ha => ?_
    refine ldN_of h1 1 rfl ha rfl ?_
    refine al_s (cs := ints [0, 0, 0, 0, 0, 0, 0, 0, 0]) h1 rfl fun b5 w2 h2 => ?_
    refine stN_at h2 0 rfl (vs := x.cs) rfl rfl (by simp [ints]) (ints_flat _) (cs' := x.cs) (by kernel_rfl) fun w3 h3 => ?_
    refine fld_at ?_
    refine ldN_at h3 0 (vs := x.m.cs) rfl (by rfl) rfl ?_
    refine push1 te_33 (f := Msg.cs) (fun _ => rfl) (fun _ => ints_flat _) (h3.pick 1 rfl) (x := x.m) rfl (by simp; omega) fun v' w4 h4 => ?_
    refine inc_s (by omega) ?_
    refine hg _ _ _ ⟨j + 1, by omega, rfl, ?_⟩ (by simp [nOf]; omega)
    have h5 := h4.selR [_, _, _] [_, _] [0, 2] (by decide) rfl
    rw [take_snoc hx, List.map_append]
    exact h5
  · refine iff_f ?_
    obtain rfl : j = l.length := by omega
    refine hk _ _ ?_
    simpa using h1

theorem gate_Held_s {g : Nat} {fl : Int} {l : List Kept} (hS : Sat e w (IsGate g fl l :: R)) (hl : l.length ≤ 1000000)
    (hk : ∀ v' w', Sat e w' (ownS 37 6 Msg.cs v' (l.map Kept.m) :: IsGate g fl l :: R) → K v' w') : Cl prog 53 #[.pointer (some ⟨g, 0, none⟩)] w K := by
  obtain ⟨v, h0⟩ := hS.ex
  have h1 := h0.split
  refine gate_Gate_Held_calls ?_
  unfold gate_Gate_Held
  refine ncP_p ?_
  refine fld_at ?_
  refine ld1_at h1 0 rfl rfl ?_
  refine messages_s h1.swap (fun g hg => own_rd hg) hl fun v' w' h2 => ?_
  refine hk _ _ (Sat.swap (.mk_ex v (.join (l' := [_, _]) (h2.selR [_, _, _] [_, _, _] [2, 1, 0] (by decide) rfl))))

theorem gate_part_s {g : Nat} {fl : Int} {l : List Kept} {C : HP} {fv : Value} (p : Kept → Bool) (hS : Sat e w (IsGate g fl l :: C :: R)) (hl : l.length ≤ 1000000)
    (hp : ∀ (w : World) (R : List HP) (K : KV) (x : Kept), Sat e w (C :: R) → (∀ w', Sat e w' (C :: R) → K (.bool (p x)) w') → clV prog fv #[.agg x.cs.toArray] w K)
    (hk : ∀ v' w', Sat e w' (ownS 177 9 Kept.cs v' (l.filter p) :: IsGate g fl (l.filter (fun x => !p x)) :: C :: R) → K v' w') :
    Cl prog 121 #[.pointer (some ⟨g, 0, none⟩), fv] w K := by
  obtain ⟨v, h0⟩ := hS.ex
  have h1 := h0.split
  refine gate_Gate_part_calls ?_
  unfold gate_Gate_part
  rw [zero_177]
  refine ncP_p ?_
  refine fld_at ?_
  refine ld1_at h1 0 rfl rfl ?_
  refine lnS_rd h1 1 rfl (fun g hg => own_rd hg) ?_
  refine lp3 (fun t5 t6 t14 w => ∃ j : Nat, j ≤ l.length ∧ t14 = .int .i64 j ∧ Sat e w (ownS 177 9 Kept.cs t5 ((l.take j).filter p) :: ownS 177 9 Kept.cs t6 ((l.take j).filter fun x => !p x) ::
      blk g 160 [.int .i64 fl, v] :: ownS 177 9 Kept.cs v l :: C :: R)) (fun _ _ t14 _ => l.length - nOf t14)
    ⟨0, Nat.zero_le _, rfl, by simpa using (h1.own_nil 177 9 Kept.cs).own_nil 177 9 Kept.cs⟩ ?_
  rintro t5 t6 _ w gg ⟨j, hj, rfl, h1⟩ hg
  refine lt_c (fun c => ?_) (fun c => ?_)
  · refine iff_t ?_
    obtain ⟨x, hx⟩ := get_of_lt (l := l) (j := j) (by omega)
    have hf1 : ((l.take (j + 1)).filter p) = (l.take j).filter p ++ if p x then [x] else [] := by
      rw [take_snoc hx, List.filter_append]
      cases hpx : p x <;> simp [hpx]
    have hf2 : ((l.take (j + 1)).filter fun x => !p x) = (l.take j).filter (fun x => !p x) ++ if p x then [] else [x] := by
      rw [take_snoc hx, List.filter_append]
      cases hpx : p x <;> simp [hpx]
    have hn1 := List.length_filter_le p (l.take j)
    have hn2 := List.length_filter_le (fun x => !p x) (l.take j)
    have hn3 : (l.take j).length ≤ 1000000 := by simp; omega
    refine J2.cut (fun t5 t6 w => Sat e w (ownS 177 9 Kept.cs t5 ((l.take (j + 1)).filter p) :: ownS 177 9 Kept.cs t6 ((l.take (j + 1)).filter fun x => !p x) ::
      blk g 160 [.int .i64 fl, v] :: ownS 177 9 Kept.cs v l :: C :: R)) (fun k hkk => ?_) (fun t5 t6 w h2 => ?_)
    · refine ixS_rd h1 3 rfl (fun g hg => own_rd hg) (fun _ => rfl) hx fun a ha => ?_
      refine ldN_of h1 3 rfl ha rfl ?_
      refine al_s (cs := ints [0, 0, 0, 0, 0, 0, 0, 0, 0]) h1 rfl fun b8 w2 h2 => ?_
      refine stN_at h2 0 rfl (vs := x.cs) rfl rfl (by simp [ints]) (ints_flat _) (cs' := x.cs) (by kernel_rfl) fun w3 h3 => ?_
      refine ldN_at h3 0 (vs := x.cs) rfl (by rfl) rfl ?_
      refine hp _ _ _ x (h3.pick 5 rfl) fun w4 h4 => ?_
      have h5 := h4.selR [_, _, _, _, _, _] [_, _, _, _, _, _] [1, 2, 3, 4, 5, 0] (by decide) rfl
      cases hpx : p x with
      | true =>
        refine iff_t ?_
        refine ldN_at h5 0 (vs := x.cs) rfl (by rfl) rfl ?_
        refine push1 te_158 (f := Kept.cs) (fun _ => rfl) (fun _ => ints_flat _) (h5.pick 1 rfl) (x := x) rfl (by omega) fun v' w5 h6 => ?_
        refine hkk _ _ _ ?_
        rw [hf1, hf2]
        simp only [hpx, if_true, List.append_nil]
        exact h6.selR [_, _, _, _, _, _] [_, _, _, _, _] [0, 2, 3, 4, 5] (by decide) rfl
      | false =>
        refine iff_f ?_
        refine ldN_at h5 0 (vs := x.cs) rfl (by rfl) rfl ?_
        refine push1 te_158 (f := Kept.cs) (fun _ => rfl) (fun _ => ints_flat _) (h5.pick 2 rfl) (x := x) rfl (by omega) fun v' w5 h6 => ?_
        refine hkk _ _ _ ?_
        rw [hf1, hf2]
        simp only [hpx, Bool.false_eq_true, if_false, List.append_nil]
        exact h6.selR [_, _, _, _, _, _] [_, _, _, _, _] [2, 0, 3, 4, 5] (by decide) rfl
    · refine inc_s (by omega) ?_
      exact hg _ _ _ _ ⟨j + 1, by omega, rfl, h2⟩ (by simp [nOf]; omega)
  · refine iff_f ?_
    obtain rfl : j = l.length := by omega
    rw [List.take_length] at h1
    refine ncP_p ?_
    refine fld_at ?_
    refine st1_at h1 2 rfl (h1.own_cells 1 rfl) (by simp) rfl fun w2 h2 => ?_
    refine hk _ _ (Sat.swap (.mk_ex t6 (.join (l' := [_, _]) (h2.selR [_, _, _, _, _] [_, _, _, _] [2, 1, 0, 4] (by decide) rfl))))

end Go.Proofs.YtbopajpmadlmhaaGreat
end
section
namespace Go.E
section
variable {α : Type} (lt : α → α → Bool)
def mg : List α → List α → List α
  | [], r => r
  | x :: l, [] => x :: l
  | x :: l, y :: r => if lt y x = true then y :: mg (x :: l) r else x :: mg l (y :: r)
termination_by l r => l.length + r.length
def stab : List α → List α
  | [] => []
  | x :: l => mg lt [x] (stab l)
structure Ordered : Prop where
  asymm : ∀ a b, lt a b = true → lt b a = false
  trans : ∀ a b c, lt b a = false → lt c b = false → lt c a = false
variable {lt}
def Asc (lt : α → α → Bool) (l : List α) : Prop := l.Pairwise fun a b => lt b a = false

theorem mg_nil (r : List α) : mg lt [] r = r := by rw [mg]
theorem mg_nil' (l : List α) : mg lt l [] = l := by cases l <;> rw [mg]
theorem mg_lt {x y : α} {l r : List α} (h : lt y x = true) : mg lt (x :: l) (y :: r) = y :: mg lt (x :: l) r := by rw [mg, if_pos h]
theorem mg_ge {x y : α} {l r : List α} (h : lt y x = false) : mg lt (x :: l) (y :: r) = x :: mg lt l (y :: r) := by rw [mg, if_neg (by rw [h]; decide)]

theorem mg_split (L2 R2 : List α) : ∀ (n : Nat) (L1 R1 : List α), L1.length + R1.length = n → (∀ x ∈ L2, ∀ y ∈ R1, lt y x = true) → (∀ x ∈ L1, ∀ y ∈ R2, lt y x = false) →
    mg lt (L1 ++ L2) (R1 ++ R2) = mg lt L1 R1 ++ mg lt L2 R2
  | _, [], [], _, _, _ => by rw [mg_nil]; rfl
  | n, [], y :: R1, hn, h1, h2 => by
    cases L2 with
    | nil => simp only [List.append_nil, mg_nil]
    | cons x L2 =>
      have ih := mg_split (x :: L2) R2 R1.length [] R1 (by simp) (fun a ha b hb => h1 a ha b (List.mem_cons_of_mem _ hb)) (fun _ h => by cases h)
      rw [List.nil_append] at ih ⊢
      rw [List.cons_append, mg_lt (h1 x (List.mem_cons_self) y (List.mem_cons_self)), ih, mg_nil, mg_nil]
      rfl
  | n, x :: L1, [], hn, h1, h2 => by
    cases R2 with
    | nil => simp only [List.append_nil, mg_nil']
    | cons y R2 =>
      have ih := mg_split L2 (y :: R2) L1.length L1 [] (by simp) (fun _ _ _ h => by cases h) (fun a ha => h2 a (List.mem_cons_of_mem _ ha))
      rw [List.nil_append] at ih ⊢
      rw [List.cons_append, mg_ge (h2 x (List.mem_cons_self) y (List.mem_cons_self)), ih, mg_nil', mg_nil']
      rfl
  | n, x :: L1, y :: R1, hn, h1, h2 => by
    simp only [List.length_cons] at hn
    cases h : lt y x with
    | true =>
      have ih := mg_split L2 R2 (n - 1) (x :: L1) R1 (by simp; omega) (fun a ha b hb => h1 a ha b (List.mem_cons_of_mem _ hb)) h2
      rw [List.cons_append] at ih ⊢
      rw [List.cons_append, mg_lt h, ih, mg_lt h]
      rfl
    | false =>
      have ih := mg_split L2 R2 (n - 1) L1 (y :: R1) (by simp; omega) h1 (fun a ha => h2 a (List.mem_cons_of_mem _ ha))
      rw [List.cons_append] at ih ⊢
      rw [List.cons_append, mg_ge h, ih, mg_ge h]
      rfl
theorem mg_parts {L1 L2 R1 R2 : List α} (h1 : ∀ x ∈ L2, ∀ y ∈ R1, lt y x = true) (h2 : ∀ x ∈ L1, ∀ y ∈ R2, lt y x = false) : mg lt (L1 ++ L2) (R1 ++ R2) = mg lt L1 R1 ++ mg lt L2 R2 := mg_split L2 R2 _ L1 R1 rfl h1 h2

theorem Ordered.lt_le (o : Ordered lt) {x y z : α} (h : lt x y = true) (k : lt z y = false) : lt x z = true := by
  cases hz : lt x z with
  | true => rfl
  | false =>
    have := o.trans y z x k hz
    rw [h] at this; cases this
theorem Ordered.le_lt (o : Ordered lt) {x y z : α} (h : lt y x = false) (k : lt y z = true) : lt x z = true := by
  cases hz : lt x z with
  | true => rfl
  | false =>
    have := o.trans z x y hz h
    rw [k] at this; cases this

theorem mg_assoc (o : Ordered lt) : ∀ (n : Nat) (A B C : List α), A.length + B.length + C.length = n → mg lt (mg lt A B) C = mg lt A (mg lt B C)
  | _, [], B, C, _ => by rw [mg_nil, mg_nil]
  | _, a :: A, [], C, _ => by rw [mg_nil, mg_nil']
  | _, a :: A, b :: B, [], _ => by rw [mg_nil', mg_nil']
  | n, a :: A, b :: B, c :: C, hn => by
    simp only [List.length_cons] at hn
    cases hba : lt b a with
    | true =>
      cases hcb : lt c b with
      | true =>
        have hca : lt c a = true := o.lt_le hcb (o.asymm _ _ hba)
        have ih := mg_assoc o (n - 1) (a :: A) (b :: B) C (by simp; omega)
        rw [mg_lt hba] at ih ⊢
        rw [mg_lt hcb, mg_lt hcb, mg_lt hca, ih]
      | false =>
        have ih := mg_assoc o (n - 1) (a :: A) B (c :: C) (by simp; omega)
        rw [mg_lt hba, mg_ge hcb, mg_ge hcb, mg_lt hba, ih]
    | false =>
      cases hca : lt c a with
      | true =>
        have hcb : lt c b = true := o.lt_le hca hba
        have ih := mg_assoc o (n - 1) (a :: A) (b :: B) C (by simp; omega)
        rw [mg_ge hba] at ih ⊢
        rw [mg_lt hcb, mg_lt hca, mg_lt hca, ih]
      | false =>
        have ih := mg_assoc o (n - 1) A (b :: B) (c :: C) (by simp; omega)
        rw [mg_ge hba, mg_ge hca, ih]
        cases hcb : lt c b with
        | true => rw [mg_lt hcb, mg_ge hca]
        | false => rw [mg_ge hcb, mg_ge hba]

theorem stab_append (o : Ordered lt) : ∀ A B : List α, stab lt (A ++ B) = mg lt (stab lt A) (stab lt B)
  | [], B => by rw [List.nil_append, stab, mg_nil]
  | x :: A, B => by
    rw [List.cons_append, stab, stab_append o A B, stab, mg_assoc o _ _ _ _ rfl]
theorem stab_one (x : α) : stab lt [x] = [x] := by rw [stab, stab, mg_nil']

theorem mg_perm : ∀ (n : Nat) (l r : List α), l.length + r.length = n → (mg lt l r).Perm (l ++ r)
  | _, [], r, _ => by rw [mg_nil]; exact .refl _
  | _, x :: l, [], _ => by rw [mg_nil', List.append_nil]
  | n, x :: l, y :: r, hn => by
    simp only [List.length_cons] at hn
    cases h : lt y x with
    | true =>
      rw [mg_lt h]
      exact ((mg_perm (n - 1) (x :: l) r (by simp; omega)).cons y).trans List.perm_middle.symm
    | false =>
      rw [mg_ge h]
      exact (mg_perm (n - 1) l (y :: r) (by simp; omega)).cons x
theorem mg_mem {l r : List α} {x : α} : x ∈ mg lt l r ↔ x ∈ l ∨ x ∈ r := by rw [(mg_perm _ l r rfl).mem_iff, List.mem_append]
theorem mg_length (l r : List α) : (mg lt l r).length = l.length + r.length := by rw [(mg_perm _ l r rfl).length_eq, List.length_append]
theorem stab_perm : ∀ l : List α, (stab lt l).Perm l
  | [] => .refl _
  | x :: l => (mg_perm _ [x] (stab lt l) rfl).trans ((stab_perm l).cons x)
theorem stab_length (l : List α) : (stab lt l).length = l.length := (stab_perm l).length_eq

theorem mg_asc (o : Ordered lt) : ∀ (n : Nat) (l r : List α), l.length + r.length = n → Asc lt l → Asc lt r → Asc lt (mg lt l r)
  | _, [], r, _, _, hr => by rw [mg_nil]; exact hr
  | _, x :: l, [], _, hl, _ => by rw [mg_nil']; exact hl
  | n, x :: l, y :: r, hn, hl, hr => by
    simp only [List.length_cons] at hn
    obtain ⟨hl1, hl2⟩ := List.pairwise_cons.1 hl
    obtain ⟨hr1, hr2⟩ := List.pairwise_cons.1 hr
    cases h : lt y x with
    | true =>
      rw [mg_lt h]
      refine List.pairwise_cons.2 ⟨fun z hz => ?_, mg_asc o (n - 1) (x :: l) r (by simp; omega) hl hr2⟩
      rcases mg_mem.1 hz with hz | hz
      · rcases List.mem_cons.1 hz with rfl | hz
        · exact o.asymm _ _ h
        · exact o.trans _ _ _ (o.asymm _ _ h) (hl1 z hz)
      · exact hr1 z hz
    | false =>
      rw [mg_ge h]
      refine List.pairwise_cons.2 ⟨fun z hz => ?_, mg_asc o (n - 1) l (y :: r) (by simp; omega) hl2 hr⟩
      rcases mg_mem.1 hz with hz | hz
      · exact hl1 z hz
      · rcases List.mem_cons.1 hz with rfl | hz
        · exact h
        · exact o.trans _ _ _ h (hr1 z hz)
theorem stab_asc (o : Ordered lt) : ∀ l : List α, Asc lt (stab lt l)
  | [] => List.Pairwise.nil
  | _ :: l => mg_asc o _ _ _ rfl (List.pairwise_singleton _ _) (stab_asc o l)

theorem asc_below (o : Ordered lt) {l : List α} (h : Asc lt l) {i : Nat} {x y : α} (hy : l[i]? = some y) (hx : lt y x = true) : ∀ z ∈ l.take (i + 1), lt z x = true := by
  intro z hz
  obtain ⟨j, hj⟩ := List.mem_iff_getElem?.1 hz
  rw [List.getElem?_take] at hj
  split at hj
  · rename_i hji
    by_cases hij : j = i
    · subst hij; rw [hy] at hj; cases hj; exact hx
    · have hlt : j < i := by omega
      obtain ⟨hjl, hje⟩ := List.getElem?_eq_some_iff.1 hj
      obtain ⟨hil, hie⟩ := List.getElem?_eq_some_iff.1 hy
      have := List.pairwise_iff_getElem.1 h j i hjl hil hlt
      rw [hje, hie] at this
      exact o.le_lt this hx
  · cases hj
theorem asc_above (o : Ordered lt) {l : List α} (h : Asc lt l) {i : Nat} {x y : α} (hy : l[i]? = some y) (hx : lt y x = false) : ∀ z ∈ l.drop i, lt z x = false := by
  intro z hz
  obtain ⟨j, hj⟩ := List.mem_iff_getElem?.1 hz
  rw [List.getElem?_drop] at hj
  by_cases hij : j = 0
  · subst hij; rw [Nat.add_zero, hy] at hj; cases hj; exact hx
  · obtain ⟨hjl, hje⟩ := List.getElem?_eq_some_iff.1 hj
    obtain ⟨hil, hie⟩ := List.getElem?_eq_some_iff.1 hy
    have := List.pairwise_iff_getElem.1 h i (i + j) hil hjl (by omega)
    rw [hje, hie] at this
    exact o.trans _ _ _ hx this
theorem asc_last (o : Ordered lt) {l : List α} (h : Asc lt l) {i : Nat} {x y : α} (hy : l[i]? = some y) (hx : lt x y = false) : ∀ z ∈ l.take (i + 1), lt x z = false := by
  intro z hz
  obtain ⟨j, hj⟩ := List.mem_iff_getElem?.1 hz
  rw [List.getElem?_take] at hj
  split at hj
  · rename_i hji
    by_cases hij : j = i
    · subst hij; rw [hy] at hj; cases hj; exact hx
    · have hlt : j < i := by omega
      obtain ⟨hjl, hje⟩ := List.getElem?_eq_some_iff.1 hj
      obtain ⟨hil, hie⟩ := List.getElem?_eq_some_iff.1 hy
      have := List.pairwise_iff_getElem.1 h j i hjl hil hlt
      rw [hje, hie] at this
      exact o.trans _ _ _ this hx
  · cases hj
theorem asc_first (o : Ordered lt) {l : List α} (h : Asc lt l) {i : Nat} {x y : α} (hy : l[i]? = some y) (hx : lt x y = true) : ∀ z ∈ l.drop i, lt x z = true := by
  intro z hz
  obtain ⟨j, hj⟩ := List.mem_iff_getElem?.1 hz
  rw [List.getElem?_drop] at hj
  by_cases hij : j = 0
  · subst hij; rw [Nat.add_zero, hy] at hj; cases hj; exact hx
  · obtain ⟨hjl, hje⟩ := List.getElem?_eq_some_iff.1 hj
    obtain ⟨hil, hie⟩ := List.getElem?_eq_some_iff.1 hy
    have := List.pairwise_iff_getElem.1 h i (i + j) hil hjl (by omega)
    rw [hje, hie] at this
    exact o.lt_le hx this
theorem Asc.left {l r : List α} (h : Asc lt (l ++ r)) : Asc lt l := (List.pairwise_append.1 h).1
theorem Asc.right {l r : List α} (h : Asc lt (l ++ r)) : Asc lt r := (List.pairwise_append.1 h).2.1
theorem mg_one {x : α} {R1 R2 : List α} (h1 : ∀ y ∈ R1, lt y x = true) (h2 : ∀ y ∈ R2, lt y x = false) : mg lt [x] (R1 ++ R2) = R1 ++ x :: R2 := by
  have := mg_parts (lt := lt) (L1 := []) (L2 := [x]) (R1 := R1) (R2 := R2) (fun a ha y hy => by rw [List.mem_singleton.1 ha]; exact h1 y hy) (fun _ h => by cases h)
  rw [List.nil_append, mg_nil] at this
  rw [this]
  congr 1
  have := mg_parts (lt := lt) (L1 := [x]) (L2 := []) (R1 := []) (R2 := R2) (fun _ h => by cases h) (fun a ha y hy => by rw [List.mem_singleton.1 ha]; exact h2 y hy)
  rw [List.append_nil, List.nil_append, mg_nil, mg_nil'] at this
  exact this
theorem mg_one' {y : α} {L1 L2 : List α} (h1 : ∀ x ∈ L1, lt y x = false) (h2 : ∀ x ∈ L2, lt y x = true) : mg lt (L1 ++ L2) [y] = L1 ++ y :: L2 := by
  have := mg_parts (lt := lt) (L1 := L1) (L2 := L2) (R1 := []) (R2 := [y]) (fun _ _ _ h => by cases h) (fun x hx z hz => by rw [List.mem_singleton.1 hz]; exact h1 x hx)
  rw [List.nil_append, mg_nil'] at this
  rw [this]
  congr 1
  have := mg_parts (lt := lt) (L1 := []) (L2 := L2) (R1 := [y]) (R2 := []) (fun x hx z hz => by rw [List.mem_singleton.1 hz]; exact h2 x hx) (fun _ h => by cases h)
  rw [List.append_nil, List.nil_append, mg_nil, mg_nil'] at this
  exact this
end
end Go.E
end
section
namespace Go.Proofs.YtbopajpmadlmhaaGreat
open Go Go.E
set_option maxRecDepth 100000
variable {e w : World} {R : List HP} {K : KV} {v fv : Value} {cf : Kept → Kept → Int}

abbrev DK (v : Value) (l : List Kept) : HP := ownS 177 9 Kept.cs v l
def CmpOk (e : World) (fv : Value) (cf : Kept → Kept → Int) : Prop :=
  ∀ (w : World) (R : List HP) (K : KV) (x y : Kept), Sat e w R → (∀ w', Sat e w' R → K (.int .i64 (cf x y)) w') → clV prog fv #[.agg x.cs.toArray, .agg y.cs.toArray] w K
def ltC (cf : Kept → Kept → Int) (x y : Kept) : Bool := decide (cf x y < 0)
theorem kept_len (x : Kept) : (Kept.cs x).length = 9 := rfl

theorem swapRange_s {P A M B S : List Kept} {a b n : Nat} (ha : a = P.length) (hb : b = P.length + A.length + M.length) (hn : n = A.length) (hAB : A.length = B.length) (hlen : (P ++ A ++ M ++ B ++ S).length ≤ 1000000)
    (hS : Sat e w (DK v (P ++ A ++ M ++ B ++ S) :: R)) (hk : ∀ w', Sat e w' (DK v (P ++ B ++ M ++ A ++ S) :: R) → K (.tuple #[]) w') :
    Cl prog 201 #[v, .int .i64 (a : Int), .int .i64 (b : Int), .int .i64 (n : Int), fv] w K := by
  refine slices_swapRangeCmpFunc_gate_kept_calls ?_
  unfold slices_swapRangeCmpFunc_gate_kept
  simp only [List.length_append] at hlen
  refine lpi1 (fun m t10 w => ∃ i : Nat, i ≤ n ∧ t10 = .int .i64 i ∧ m = n - i ∧ Sat e w (DK v (P ++ (B.take i ++ A.drop i) ++ M ++ (A.take i ++ B.drop i) ++ S) :: R)) n
    ⟨0, Nat.zero_le _, rfl, rfl, by simpa using hS⟩ ?_
  rintro m _ w g ⟨i, hi, rfl, rfl, h1⟩ hg
  refine ltn_c (fun c => iff_t ?_) (fun c => iff_f ?_)
  · obtain ⟨x, hx⟩ := get_of_lt (l := A) (j := i) (by omega)
    obtain ⟨y, hy⟩ := get_of_lt (l := B) (j := i) (by omega)
    have hsh : P ++ (B.take i ++ A.drop i) ++ M ++ (A.take i ++ B.drop i) ++ S = (P ++ B.take i) ++ x :: ((A.drop (i + 1) ++ M ++ A.take i) ++ y :: (B.drop (i + 1) ++ S)) := by
      rw [drop_cons hx, drop_cons hy]; simp
    rw [hsh] at h1
    have l1 : a + i = (P ++ B.take i).length := by rw [List.length_append, List.length_take]; omega
    have l2 : b + i = (P ++ B.take i).length + 1 + (A.drop (i + 1) ++ M ++ A.take i).length := by simp only [List.length_append, List.length_take, List.length_drop]; omega
    refine dr_s h1 fun w2 h2 => ?_
    refine addn_s (by omega) (addn_s (by omega) (addn_s (by omega) ?_))
    refine ixS_rd h2 0 rfl (fun g hg => own_rd hg) kept_len (get_mid2 l2) fun p hp => ?_
    refine ldN_of h2 0 rfl hp rfl ?_
    refine addn_s (by omega) ?_
    refine ixS_rd h2 0 rfl (fun g hg => own_rd hg) kept_len (get_mid l1) fun p hp => ?_
    refine ldN_of h2 0 rfl hp rfl ?_
    refine st_own' h2 0 rfl kept_len (by rw [List.length_append, List.length_cons]; omega) (x := y) rfl (ints_flat _) fun w3 h3 => ?_
    refine st_own' h3 0 rfl kept_len (by rw [List.length_set, l2]; simp only [List.length_append, List.length_cons]; omega) (x := x) rfl (ints_flat _) fun w4 h4 => ?_
    replace h4 : Sat e w4 (DK v ((((P ++ B.take i) ++ x :: ((A.drop (i + 1) ++ M ++ A.take i) ++ y :: (B.drop (i + 1) ++ S))).set (a + i) y).set (b + i) x) :: R) := h4
    rw [swap_mid l1 l2] at h4
    refine inc_s (by omega) ?_
    refine hg _ _ _ (by omega) ⟨i + 1, by omega, rfl, rfl, ?_⟩
    rw [take_snoc hx, take_snoc hy]
    simpa using h4
  · obtain rfl : i = n := by omega
    subst hn
    rw [List.take_of_length_le (by omega), List.drop_of_length_le (by omega), List.take_of_length_le (l := A) (by omega), List.drop_of_length_le (l := B) (by omega)] at h1
    exact hk _ (by simpa using h1)

theorem rotate_s {P A B S : List Kept} {a m b : Nat} (ha : a = P.length) (hm : m = P.length + A.length) (hb : b = P.length + A.length + B.length) (hA : 0 < A.length) (hB : 0 < B.length) (hlen : (P ++ A ++ B ++ S).length ≤ 1000000)
    (hS : Sat e w (DK v (P ++ A ++ B ++ S) :: R)) (hk : ∀ w', Sat e w' (DK v (P ++ B ++ A ++ S) :: R) → K (.tuple #[]) w') :
    Cl prog 198 #[v, .int .i64 (a : Int), .int .i64 (m : Int), .int .i64 (b : Int), fv] w K := by
  refine slices_rotateCmpFunc_gate_kept_calls ?_
  unfold slices_rotateCmpFunc_gate_kept
  simp only [List.length_append] at hlen
  refine subn_s (by omega) (by omega) (subn_s (by omega) (by omega) ?_)
  refine lpi2 (fun q t10 t11 w => ∃ (P' X Y S' : List Kept), t10 = .int .i64 X.length ∧ t11 = .int .i64 Y.length ∧ q = X.length + Y.length ∧ P'.length + X.length = m ∧ 0 < X.length ∧ 0 < Y.length ∧
      P' ++ Y ++ X ++ S' = P ++ B ++ A ++ S ∧ (P' ++ X ++ Y ++ S').length = (P ++ A ++ B ++ S).length ∧ Sat e w (DK v (P' ++ X ++ Y ++ S') :: R)) (A.length + B.length)
    ⟨P, A, B, S, by rw [show m - a = A.length by omega], by rw [show b - m = B.length by omega], rfl, by omega, hA, hB, rfl, rfl, hS⟩ ?_
  rintro q _ _ w g ⟨P', X, Y, S', rfl, rfl, rfl, hpm, hX, hY, heq, hle, h1⟩ hg
  simp only [List.length_append] at hle
  refine ne_c (fun c => iff_t ?_) (fun c => iff_f ?_)
  · refine gt_c (fun c2 => iff_t ?_) (fun c2 => iff_f ?_)
    · -- X is longer
      refine subn_s (by omega) (by omega) ?_
      have hX' : X = X.take Y.length ++ X.drop Y.length := (List.take_append_drop _ _).symm
      have hl1 : (X.take Y.length).length = Y.length := by rw [List.length_take]; omega
      have hl2 : (X.drop Y.length).length = X.length - Y.length := List.length_drop
      refine swapRange_s (P := P') (A := X.take Y.length) (M := X.drop Y.length) (B := Y) (S := S') (by omega) (by omega) (by omega) hl1 (by simp only [List.length_append]; omega) (by rw [hX'] at h1; simpa using h1) fun w2 h2 => ?_
      refine subn_s (by omega) (by omega) ?_
      refine hg _ _ _ _ (by simp only [hl1, hl2]; omega) ⟨P' ++ Y, X.drop Y.length, X.take Y.length, S', by rw [hl2], by rw [hl1], rfl, by rw [List.length_append, hl2]; omega, by omega, by omega, ?_, by simp only [List.length_append]; omega, by simpa using h2⟩
      rw [← heq]
      conv => rhs; rw [hX']
      simp
    · refine subn_s (by omega) (by omega) (addn_s (by omega) (subn_s (by omega) (by omega) ?_))
      have hXY : X.length < Y.length := by omega
      have hY' : Y = Y.take (Y.length - X.length) ++ Y.drop (Y.length - X.length) := (List.take_append_drop _ _).symm
      have hl1 : (Y.take (Y.length - X.length)).length = Y.length - X.length := by rw [List.length_take]; omega
      have hl2 : (Y.drop (Y.length - X.length)).length = X.length := by rw [List.length_drop]; omega
      refine swapRange_s (P := P') (A := X) (M := Y.take (Y.length - X.length)) (B := Y.drop (Y.length - X.length)) (S := S') (by omega) (by omega) rfl hl2.symm (by simp only [List.length_append]; omega) (by rw [hY'] at h1; simpa using h1) fun w2 h2 => ?_
      refine subn_s (by omega) (by omega) ?_
      refine hg _ _ _ _ (by simp only [hl1, hl2]; omega) ⟨P', Y.drop (Y.length - X.length), Y.take (Y.length - X.length), X ++ S', by rw [hl2], by rw [hl1], rfl, by omega, by omega, by omega, ?_, by simp only [List.length_append]; omega, by simpa using h2⟩
      rw [← heq]
      conv => rhs; rw [hY']
      simp
  · have hXY : X.length = Y.length := by omega
    refine subn_s (by omega) (by omega) ?_
    refine swapRange_s (P := P') (A := X) (M := []) (B := Y) (S := S') (by omega) (by simp; omega) rfl hXY (by simp only [List.length_append, List.length_nil]; omega) (by simpa using h1) fun w2 h2 => ?_
    refine hk _ ?_
    rw [← heq]
    simpa using h2

theorem insertion_s (hc : CmpOk e fv cf) (o : Ordered (ltC cf)) {P X S : List Kept} {a b : Nat} (ha : a = P.length) (hb : b = P.length + X.length) (hlen : (P ++ X ++ S).length ≤ 1000000)
    (hS : Sat e w (DK v (P ++ X ++ S) :: R)) (hk : ∀ w', Sat e w' (DK v (P ++ stab (ltC cf) X ++ S) :: R) → K (.tuple #[]) w') :
    Cl prog 189 #[v, .int .i64 (a : Int), .int .i64 (b : Int), fv] w K := by
  refine slices_insertionSortCmpFunc_gate_kept_calls ?_
  unfold slices_insertionSortCmpFunc_gate_kept
  simp only [List.length_append] at hlen
  refine inc_s (by omega) ?_
  by_cases hX0 : X.length = 0
  · have hX : X = [] := List.length_eq_zero_iff.1 hX0
    subst hX
    refine lpi1 (fun q t8 w => t8 = .int .i64 ((a + 1 : Nat) : Int) ∧ Sat e w (DK v (P ++ [] ++ S) :: R)) 0 ⟨rfl, hS⟩ ?_
    rintro q _ w g ⟨rfl, h1⟩ hg
    refine ltn_c (fun c => ?_) (fun c => iff_f (hk _ h1))
    simp at hb
    omega
  refine lpi1 (fun q t8 w => ∃ r : Nat, 1 ≤ r ∧ r ≤ X.length ∧ t8 = .int .i64 ((a + r : Nat) : Int) ∧ q = X.length - r ∧ Sat e w (DK v (P ++ stab (ltC cf) (X.take r) ++ X.drop r ++ S) :: R)) (X.length - 1)
    ⟨1, Nat.le_refl _, by omega, rfl, rfl, ?_⟩ ?_
  · obtain ⟨x, hx⟩ := get_of_lt (l := X) (j := 0) (by omega)
    rw [take_snoc hx, List.take_zero, List.nil_append, stab_one]
    have : X = x :: X.drop 1 := by rw [← List.drop_zero (l := X), drop_cons hx]; simp
    rw [this] at hS
    simpa using hS
  rintro q _ w g ⟨r, hr1, hr2, rfl, rfl, h1⟩ hg
  refine ltn_c (fun c => iff_t ?_) (fun c => iff_f ?_)
  · obtain ⟨x, hx⟩ := get_of_lt (l := X) (j := r) (by omega)
    have hsl : (stab (ltC cf) (X.take r)).length = r := by rw [stab_length, List.length_take]; omega
    refine lpi1 (fun q t9 w => ∃ (U V : List Kept), U ++ V = stab (ltC cf) (X.take r) ∧ t9 = .int .i64 ((a + U.length : Nat) : Int) ∧ q = U.length ∧ (∀ z ∈ V, ltC cf x z = true) ∧
        Sat e w (DK v (P ++ (U ++ x :: V) ++ X.drop (r + 1) ++ S) :: R)) r
      ⟨stab (ltC cf) (X.take r), [], by simp, by rw [hsl], hsl.symm, (fun _ h => by cases h), by rw [drop_cons hx] at h1; simpa using h1⟩ ?_
    rintro q _ w g2 ⟨U, V, hUV, rfl, rfl, hV, h2⟩ hg2
    have hUVl : U.length + V.length = r := by rw [← hsl, ← hUV, List.length_append]
    have hasc : Asc (ltC cf) (U ++ V) := by rw [hUV]; exact stab_asc o _
    have hdone : ∀ w', Sat e w' (DK v (P ++ (U ++ x :: V) ++ X.drop (r + 1) ++ S) :: R) → (∀ z ∈ U, ltC cf x z = false) → bi .add .i64 (.int .i64 ((a + r : Nat) : Int)) (Value.int IntKind.i64 1) w' fun t16 w => g [t16] w := by
      intro w' h3 hU
      refine inc_s (by omega) ?_
      refine hg _ _ _ (by omega) ⟨r + 1, by omega, by omega, rfl, rfl, ?_⟩
      rw [take_snoc hx, stab_append o, stab_one, ← hUV, mg_one' hU hV]
      simpa using h3
    refine dr_s h2 fun w3 h3 => ?_
    refine gt_c (fun c2 => ?_) (fun c2 => ?_)
    · have hU0 : 0 < U.length := by omega
      obtain ⟨u, hu⟩ := get_of_lt (l := U) (j := U.length - 1) (by omega)
      have hU' : U = U.take (U.length - 1) ++ [u] := by
        have h5 := take_snoc hu
        rw [show U.length - 1 + 1 = U.length by omega, List.take_length] at h5
        exact h5
      generalize hU1 : U.take (U.length - 1) = U1 at hU'
      have hU1l : U1.length + 1 = U.length := by rw [hU']; simp
      have hsh : P ++ (U ++ x :: V) ++ X.drop (r + 1) ++ S = (P ++ U1) ++ u :: ([] ++ x :: (V ++ X.drop (r + 1) ++ S)) := by rw [hU']; simp
      rw [hsh] at h3
      have l1 : a + U.length - 1 = (P ++ U1).length := by rw [List.length_append]; omega
      have l2 : a + U.length = (P ++ U1).length + 1 + ([] : List Kept).length := by rw [List.length_append, List.length_nil]; omega
      refine gd_tt (gd_tt (gd_tt (gd_tt ?_)))
      refine ixS_rd h3 0 rfl (fun g hg => own_rd hg) kept_len (get_mid2 l2) fun p hp => ?_
      refine gd_tt (ldN_of h3 0 rfl hp rfl ?_)
      refine gd_tt (gd_tt (gd_tt (dec_s (by omega) (by omega) ?_)))
      refine gd_tt (ixS_rd h3 0 rfl (fun g hg => own_rd hg) kept_len (get_mid l1) fun p hp => ?_)
      refine gd_tt (ldN_of h3 0 rfl hp rfl ?_)
      refine gd_tt (hc _ _ _ _ _ h3 fun w4 h4 => ?_)
      refine gd_tt (lt_c (fun c3 => pk_t (iff_t ?_)) (fun c3 => pk_t (iff_f ?_)))
      · refine dr_s h4 fun w5 h5 => ?_
        refine dec_s (by omega) (by omega) (dec_s (by omega) (by omega) ?_)
        refine swap_s (l := (P ++ U1) ++ u :: ([] ++ x :: (V ++ X.drop (r + 1) ++ S))) kept_len (fun _ => ints_flat _) (get_mid2 l2) (get_mid l1) h5 fun w6 h6 => ?_
        rw [swap_mid' l1 l2] at h6
        refine dec_s (by omega) (by omega) ?_
        refine hg2 _ _ _ (by omega) ⟨U1, u :: V, by rw [← hUV, hU']; simp, by rw [show a + U.length - 1 = a + U1.length by omega], rfl, fun z hz => ?_, by simpa using h6⟩
        rcases List.mem_cons.1 hz with rfl | hz
        · exact decide_eq_true c3
        · exact hV z hz
      · refine hdone _ (by rw [hsh]; exact h4) ?_
        have := asc_last o hasc.left hu (decide_eq_false c3)
        rw [show U.length - 1 + 1 = U.length by omega, List.take_length] at this
        exact this
    · have hU0 : U = [] := List.length_eq_zero_iff.1 (by omega)
      refine gd_ft (gd_ft (gd_ft (gd_ft (gd_ft (gd_ft (gd_ft (gd_ft (gd_ft (gd_ft (gd_ft (gd_ft (pk_f (iff_f (hdone _ h3 ?_))))))))))))))
      rw [hU0]
      exact fun _ h => by cases h
  · obtain rfl : r = X.length := by omega
    rw [List.take_length, List.drop_length, List.append_nil] at h1
    exact hk _ h1
end Go.Proofs.YtbopajpmadlmhaaGreat
end
section
namespace Go.Proofs.YtbopajpmadlmhaaGreat
open Go Go.E
set_option maxRecDepth 100000
variable {e w : World} {R : List HP} {K : KV} {v fv : Value} {cf : Kept → Kept → Int}

theorem get_in {P L S : List Kept} {i n : Nat} {x : Kept} (h : L[i]? = some x) (hn : n = P.length + i) : (P ++ L ++ S)[n]? = some x := by
  have hi := (List.getElem?_eq_some_iff.1 h).1
  subst hn
  rw [List.append_assoc, List.getElem?_append_right (by omega), Nat.add_sub_cancel_left, List.getElem?_append_left hi, h]

theorem ltlt_s {a b x y : Int} (hk : K (.bool (decide (a < b ∧ x < y))) w) : bi .lss .i64 (.int .i64 a) (.int .i64 b) w fun t1 w => gd t1 true (fun k => k (.int .i64 x) w) w fun t2 w => gd t1 true (fun k => k (.int .i64 y) w) w fun t3 w =>
    gd t1 true (fun k => bi .lss .i64 t2 t3 w k) w fun t4 w => pk t1 t4 (.bool false) w K := by
  refine lt_c (fun c => gd_tt (gd_tt (gd_tt (lt_d (pk_t ?_))))) (fun c => gd_ft (gd_ft (gd_ft (pk_f ?_))))
  · rw [show decide (a < b ∧ x < y) = decide (x < y) from by simp [c]] at hk
    exact hk
  · rw [show decide (a < b ∧ x < y) = false from by simp [c]] at hk
    exact hk

theorem symMerge_s (hc : CmpOk e fv cf) (o : Ordered (ltC cf)) : ∀ (N : Nat) {w : World} {R : List HP} {K : KV} {P L Q S : List Kept} {a m b : Nat}, L.length + Q.length ≤ N → a = P.length → m = P.length + L.length → b = P.length + L.length + Q.length →
    0 < L.length → 0 < Q.length → (P ++ L ++ Q ++ S).length ≤ 1000000 → Asc (ltC cf) L → Asc (ltC cf) Q →
    Sat e w (DK v (P ++ L ++ Q ++ S) :: R) → (∀ w', Sat e w' (DK v (P ++ mg (ltC cf) L Q ++ S) :: R) → K (.tuple #[]) w') →
    Cl prog 190 #[v, .int .i64 (a : Int), .int .i64 (m : Int), .int .i64 (b : Int), fv] w K := by
  intro N
  induction N with
  | zero => intro w R K P L Q S a m b h1 _ _ _ h2; omega
  | succ N ih =>
    intro w R K P L Q S a m b hN ha hm hb hL hQ hlen aL aQ hS hk
    refine slices_symMergeCmpFunc_gate_kept_calls ?_
    unfold slices_symMergeCmpFunc_gate_kept
    simp only [List.length_append] at hlen
    refine subn_s (by omega) (by omega) (eq_c (fun c1 => iff_t ?_) (fun c1 => iff_f ?_))
    · -- one from the left
      obtain ⟨x, rfl⟩ : ∃ x, L = [x] := List.length_eq_one_iff.1 (by omega)
      simp only [List.length_cons, List.length_nil] at *
      refine lpi2 (fun z t10 t11 w => ∃ p q : Nat, t10 = .int .i64 ((m + p : Nat) : Int) ∧ t11 = .int .i64 ((m + q : Nat) : Int) ∧ p ≤ q ∧ q ≤ Q.length ∧ z = q - p ∧
          (p = 0 ∨ ∃ y, Q[p - 1]? = some y ∧ ltC cf y x = true) ∧ (q = Q.length ∨ ∃ y, Q[q]? = some y ∧ ltC cf y x = false) ∧ Sat e w (DK v (P ++ [x] ++ Q ++ S) :: R)) Q.length
        ⟨0, Q.length, by simp, by rw [show b = m + Q.length by omega], Nat.zero_le _, Nat.le_refl _, rfl, .inl rfl, .inl rfl, hS⟩ ?_
      rintro z _ _ w g ⟨p, q, rfl, rfl, hpq, hqQ, rfl, hp, hq, h1⟩ hg
      refine ltn_c (fun c2 => iff_t ?_) (fun c2 => iff_f ?_)
      · refine addn_s (by omega) (half_s (xo := fun _ => _) (yo := fun _ => _) (by omega) ?_)
        rw [show (m + p + (m + q)) / 2 = m + (p + q) / 2 by omega]
        have hh : (p + q) / 2 < Q.length := by omega
        obtain ⟨y, hy⟩ := get_of_lt hh
        refine dr_s h1 fun w2 h2 => ?_
        refine ixS_rd h2 0 rfl (fun g hg => own_rd hg) kept_len (get_in (P := P ++ [x]) hy (by simp; omega)) fun r hr => ?_
        refine ldN_of h2 0 rfl hr rfl ?_
        refine ixS_rd (j := a) h2 0 rfl (fun g hg => own_rd hg) kept_len (x := x) (by rw [ha]; simp) fun r hr => ?_
        refine ldN_of h2 0 rfl hr rfl ?_
        refine hc _ _ _ _ _ h2 fun w3 h3 => ?_
        refine lt_c (fun c3 => iff_t ?_) (fun c3 => iff_f ?_)
        · refine inc_s (by omega) ?_
          refine hg _ _ _ _ (by omega) ⟨(p + q) / 2 + 1, q, rfl, rfl, by omega, hqQ, rfl, .inr ⟨y, by rw [Nat.add_sub_cancel]; exact hy, decide_eq_true c3⟩, hq, h3⟩
        · refine hg _ _ _ _ (by omega) ⟨p, (p + q) / 2, rfl, rfl, by omega, by omega, rfl, hp, .inr ⟨y, hy, decide_eq_false c3⟩, h3⟩
      · obtain rfl : p = q := by omega
        have hlow : ∀ y ∈ Q.take p, ltC cf y x = true := by
          rcases hp with rfl | ⟨y, hy, hyx⟩
          · simp
          · have hp0 : p - 1 + 1 = p := by
              by_cases h0 : p = 0
              · exfalso
                subst h0
                rcases hq with h | ⟨y', hy', hyx'⟩
                · omega
                · rw [show 0 - 1 = 0 from rfl, hy'] at hy
                  cases hy
                  rw [hyx] at hyx'
                  cases hyx'
              · omega
            have := asc_below o aQ hy hyx
            rw [hp0] at this
            exact this
        have hhigh : ∀ y ∈ Q.drop p, ltC cf y x = false := by
          rcases hq with rfl | ⟨y, hy, hyx⟩
          · simp
          · exact asc_above o aQ hy hyx
        have hmg : mg (ltC cf) [x] Q = Q.take p ++ x :: Q.drop p := by
          conv => lhs; rw [← List.take_append_drop p Q]
          exact mg_one hlow hhigh
        rw [hmg] at hk
        have hQp : (Q.take p).length = p := by rw [List.length_take]; omega
        obtain ⟨Q1, hQ1⟩ : ∃ Q1, Q1 = Q.take p := ⟨_, rfl⟩
        obtain ⟨Q2, hQ2⟩ : ∃ Q2, Q2 = Q.drop p := ⟨_, rfl⟩
        have hQs : Q = Q1 ++ Q2 := by rw [hQ1, hQ2, List.take_append_drop]
        rw [← hQ1, ← hQ2] at hk
        rw [← hQ1] at hQp
        rw [hQs] at h1
        refine lpi1 (fun z t13 w => ∃ i : Nat, i ≤ p ∧ t13 = .int .i64 ((a + i : Nat) : Int) ∧ z = p - i ∧ Sat e w (DK v (P ++ Q1.take i ++ x :: Q1.drop i ++ Q2 ++ S) :: R)) p
          ⟨0, Nat.zero_le _, rfl, rfl, by simpa using h1⟩ ?_
        rintro z _ w g2 ⟨i, hi, rfl, rfl, h2⟩ hg2
        refine dec_s (by omega) (by omega) (ltn_c (fun c3 => iff_t ?_) (fun c3 => iff_f ?_))
        · obtain ⟨y, hy⟩ := get_of_lt (l := Q1) (j := i) (by omega)
          have hsh : P ++ Q1.take i ++ x :: Q1.drop i ++ Q2 ++ S = (P ++ Q1.take i) ++ x :: ([] ++ y :: (Q1.drop (i + 1) ++ Q2 ++ S)) := by rw [drop_cons hy]; simp
          rw [hsh] at h2
          have l1 : a + i = (P ++ Q1.take i).length := by rw [List.length_append, List.length_take]; omega
          have l2 : a + i + 1 = (P ++ Q1.take i).length + 1 + ([] : List Kept).length := by rw [← l1]; rfl
          refine dr_s h2 fun w3 h3 => ?_
          refine inc_s (by omega) (inc_s (by omega) ?_)
          refine swap_s (l := (P ++ Q1.take i) ++ x :: ([] ++ y :: (Q1.drop (i + 1) ++ Q2 ++ S))) kept_len (fun _ => ints_flat _) (get_mid l1) (get_mid2 l2) h3 fun w4 h4 => ?_
          rw [swap_mid l1 l2] at h4
          refine inc_s (by omega) ?_
          refine hg2 _ _ _ (by omega) ⟨i + 1, by omega, rfl, rfl, ?_⟩
          rw [take_snoc hy]
          simpa using h4
        · obtain rfl : i = p := by omega
          rw [List.take_of_length_le (by omega), List.drop_of_length_le (by omega)] at h2
          exact hk _ (by simpa using h2)
    refine subn_s (by omega) (by omega) (eq_c (fun c2 => iff_t ?_) (fun c2 => iff_f ?_))
    · -- one from the right
      obtain ⟨y, rfl⟩ : ∃ y, Q = [y] := List.length_eq_one_iff.1 (by omega)
      simp only [List.length_cons, List.length_nil] at *
      refine lpi2 (fun z t14 t15 w => ∃ p q : Nat, t14 = .int .i64 ((a + p : Nat) : Int) ∧ t15 = .int .i64 ((a + q : Nat) : Int) ∧ p ≤ q ∧ q ≤ L.length ∧ z = q - p ∧
          (p = 0 ∨ ∃ x, L[p - 1]? = some x ∧ ltC cf y x = false) ∧ (q = L.length ∨ ∃ x, L[q]? = some x ∧ ltC cf y x = true) ∧ Sat e w (DK v (P ++ L ++ [y] ++ S) :: R)) L.length
        ⟨0, L.length, by simp, by rw [show m = a + L.length by omega], Nat.zero_le _, Nat.le_refl _, rfl, .inl rfl, .inl rfl, hS⟩ ?_
      rintro z _ _ w g ⟨p, q, rfl, rfl, hpq, hqL, rfl, hp, hq, h1⟩ hg
      refine ltn_c (fun c2 => iff_t ?_) (fun c2 => iff_f ?_)
      · refine addn_s (by omega) (half_s (xo := fun _ => _) (yo := fun _ => _) (by omega) ?_)
        rw [show (a + p + (a + q)) / 2 = a + (p + q) / 2 by omega]
        have hh : (p + q) / 2 < L.length := by omega
        obtain ⟨x, hx⟩ := get_of_lt hh
        refine dr_s h1 fun w2 h2 => ?_
        refine ixS_rd (j := m) h2 0 rfl (fun g hg => own_rd hg) kept_len (x := y) (get_in (P := P ++ L) (L := [y]) (i := 0) rfl (by simp; omega)) fun r hr => ?_
        refine ldN_of h2 0 rfl hr rfl ?_
        refine ixS_rd h2 0 rfl (fun g hg => own_rd hg) kept_len (x := x) (by rw [List.append_assoc]; exact get_in hx (by omega)) fun r hr => ?_
        refine ldN_of h2 0 rfl hr rfl ?_
        refine hc _ _ _ _ _ h2 fun w3 h3 => ?_
        refine lt_c (fun c3 => not_t (iff_f ?_)) (fun c3 => not_f (iff_t ?_))
        · refine hg _ _ _ _ (by omega) ⟨p, (p + q) / 2, rfl, rfl, by omega, by omega, rfl, hp, .inr ⟨x, hx, decide_eq_true c3⟩, h3⟩
        · refine inc_s (by omega) ?_
          refine hg _ _ _ _ (by omega) ⟨(p + q) / 2 + 1, q, rfl, rfl, by omega, hqL, rfl, .inr ⟨x, by rw [Nat.add_sub_cancel]; exact hx, decide_eq_false c3⟩, hq, h3⟩
      · obtain rfl : p = q := by omega
        have hlow : ∀ x ∈ L.take p, ltC cf y x = false := by
          rcases hp with rfl | ⟨x, hx, hyx⟩
          · simp
          · have hp0 : p - 1 + 1 = p := by
              by_cases h0 : p = 0
              · exfalso
                subst h0
                rcases hq with h | ⟨x', hx', hyx'⟩
                · omega
                · rw [show 0 - 1 = 0 from rfl, hx'] at hx
                  cases hx
                  rw [hyx] at hyx'
                  cases hyx'
              · omega
            have := asc_last o aL hx hyx
            rw [hp0] at this
            exact this
        have hhigh : ∀ x ∈ L.drop p, ltC cf y x = true := by
          rcases hq with rfl | ⟨x, hx, hyx⟩
          · simp
          · exact asc_first o aL hx hyx
        have hmg : mg (ltC cf) L [y] = L.take p ++ y :: L.drop p := by
          conv => lhs; rw [← List.take_append_drop p L]
          exact mg_one' hlow hhigh
        rw [hmg] at hk
        have hL2l : (L.drop p).length = L.length - p := List.length_drop
        have hL1l : (L.take p).length = p := by rw [List.length_take]; omega
        obtain ⟨L1, hL1⟩ : ∃ L1, L1 = L.take p := ⟨_, rfl⟩
        obtain ⟨L2, hL2⟩ : ∃ L2, L2 = L.drop p := ⟨_, rfl⟩
        have hLs : L = L1 ++ L2 := by rw [hL1, hL2, List.take_append_drop]
        rw [← hL1, ← hL2] at hk
        rw [← hL1] at hL1l
        rw [← hL2] at hL2l
        rw [hLs] at h1
        refine lpi1 (fun z t17 w => z ≤ L2.length ∧ t17 = .int .i64 ((a + p + z : Nat) : Int) ∧ Sat e w (DK v (P ++ L1 ++ L2.take z ++ y :: L2.drop z ++ S) :: R)) L2.length
          ⟨Nat.le_refl _, by rw [show m = a + p + L2.length by omega], by simpa using h1⟩ ?_
        rintro z _ w g2 ⟨hz, rfl, h2⟩ hg2
        refine gt_c (fun c3 => iff_t ?_) (fun c3 => iff_f ?_)
        · obtain ⟨u, hu⟩ := get_of_lt (l := L2) (j := z - 1) (by omega)
          have hz1 : z - 1 + 1 = z := by omega
          have htk := take_snoc hu
          rw [hz1] at htk
          have hsh : P ++ L1 ++ L2.take z ++ y :: L2.drop z ++ S = (P ++ L1 ++ L2.take (z - 1)) ++ u :: ([] ++ y :: (L2.drop z ++ S)) := by rw [htk]; simp
          rw [hsh] at h2
          have l1 : a + p + z - 1 = (P ++ L1 ++ L2.take (z - 1)).length := by simp only [List.length_append, List.length_take]; omega
          have l2 : a + p + z = (P ++ L1 ++ L2.take (z - 1)).length + 1 + ([] : List Kept).length := by rw [← l1, List.length_nil]; omega
          refine dr_s h2 fun w3 h3 => ?_
          refine dec_s (by omega) (by omega) (dec_s (by omega) (by omega) ?_)
          refine swap_s (l := (P ++ L1 ++ L2.take (z - 1)) ++ u :: ([] ++ y :: (L2.drop z ++ S))) kept_len (fun _ => ints_flat _) (get_mid2 l2) (get_mid l1) h3 fun w4 h4 => ?_
          rw [swap_mid' l1 l2] at h4
          refine dec_s (by omega) (by omega) ?_
          refine hg2 (z - 1) _ _ (by omega) ⟨by omega, by rw [show a + p + z - 1 = a + p + (z - 1) by omega], ?_⟩
          have hdc := drop_cons hu
          rw [hz1] at hdc
          rw [hdc]
          simpa using h4
        · obtain rfl : z = 0 := by omega
          exact hk _ (by simpa using h2)
    refine addn_s (by omega) (half_s (xo := fun _ => _) (yo := fun _ => _) (by omega) ?_)
    obtain ⟨mid, hmid⟩ : ∃ mid, mid = (a + b) / 2 := ⟨_, rfl⟩
    rw [← hmid]
    refine addn_s (by omega) ?_
    refine gt_d ?_
    refine J2.cut (fun t20 t21 w => ∃ s0 r0 : Nat, t20 = .int .i64 (s0 : Int) ∧ t21 = .int .i64 (r0 : Int) ∧ ((s0 = a ∧ r0 = m ∧ m ≤ mid) ∨ (s0 = mid + m - b ∧ r0 = mid ∧ mid < m)) ∧ Sat e w (DK v (P ++ L ++ Q ++ S) :: R)) (fun k5 hcut => ?_) ?_
    · refine iff_d (fun c3 => ?_) (fun c3 => ?_)
      · refine subn_s (by omega) (by omega) ?_
        exact hcut _ _ _ ⟨_, _, rfl, rfl, .inr ⟨rfl, rfl, by omega⟩, hS⟩
      · exact hcut _ _ _ ⟨_, _, rfl, rfl, .inl ⟨rfl, rfl, by omega⟩, hS⟩
    rintro _ _ w ⟨s0, r0, rfl, rfl, hsr, h1⟩
    refine dec_s (by omega) (by omega) ?_
    have hsr0 : s0 ≤ r0 := by omega
    refine lpi2 (fun z t20 t21 w => ∃ s r : Nat, t20 = .int .i64 (s : Int) ∧ t21 = .int .i64 (r : Int) ∧ s0 ≤ s ∧ s ≤ r ∧ r ≤ r0 ∧ z = r - s ∧
        (s = s0 ∨ (s0 < s ∧ ∃ x y, L[s - 1 - a]? = some x ∧ Q[mid - s]? = some y ∧ ltC cf y x = false)) ∧ (r = r0 ∨ (r < r0 ∧ ∃ x y, L[r - a]? = some x ∧ Q[mid - 1 - r]? = some y ∧ ltC cf y x = true)) ∧ Sat e w (DK v (P ++ L ++ Q ++ S) :: R)) (r0 - s0)
      ⟨s0, r0, rfl, rfl, Nat.le_refl _, hsr0, Nat.le_refl _, rfl, .inl rfl, .inl rfl, h1⟩ ?_
    rintro z _ _ w g ⟨s, r, rfl, rfl, hs0, hsr1, hr0, rfl, hs, hr, h2⟩ hg
    refine ltn_c (fun c4 => iff_t ?_) (fun c4 => iff_f ?_)
    · refine addn_s (by omega) (half_s (xo := fun _ => _) (yo := fun _ => _) (by omega) ?_)
      obtain ⟨c, hcc⟩ : ∃ c, c = (s + r) / 2 := ⟨_, rfl⟩
      rw [← hcc]
      have hc1 : s ≤ c := by omega
      have hc2 : c < r := by omega
      obtain ⟨x, hx⟩ := get_of_lt (l := L) (j := c - a) (by omega)
      obtain ⟨y, hy⟩ := get_of_lt (l := Q) (j := mid - 1 - c) (by omega)
      refine dr_s h2 fun w3 h3 => ?_
      refine subn_s (by omega) (by omega) ?_
      refine ixS_rd h3 0 rfl (fun g hg => own_rd hg) kept_len (x := y) (get_in (P := P ++ L) hy (by rw [List.length_append]; omega)) fun p hp => ?_
      refine ldN_of h3 0 rfl hp rfl ?_
      refine ixS_rd h3 0 rfl (fun g hg => own_rd hg) kept_len (x := x) (by rw [List.append_assoc]; exact get_in hx (by omega)) fun p hp => ?_
      refine ldN_of h3 0 rfl hp rfl ?_
      refine hc _ _ _ _ _ h3 fun w4 h4 => ?_
      refine lt_c (fun c5 => not_t (iff_f ?_)) (fun c5 => not_f (iff_t ?_))
      · exact hg _ _ _ _ (by omega) ⟨s, c, rfl, rfl, hs0, by omega, by omega, rfl, hs, .inr ⟨by omega, x, y, hx, hy, decide_eq_true c5⟩, h4⟩
      · refine inc_s (by omega) ?_
        exact hg _ _ _ _ (by omega) ⟨c + 1, r, rfl, rfl, by omega, by omega, hr0, rfl, .inr ⟨by omega, x, y, by rw [Nat.add_sub_cancel]; exact hx, by rw [show mid - (c + 1) = mid - 1 - c by omega]; exact hy, decide_eq_false c5⟩, hr, h4⟩
    obtain rfl : s = r := by omega
    have hsa : a ≤ s := by omega
    have hsm : s ≤ m := by omega
    have hsd : s ≤ mid := by omega
    have heb : mid + m - s ≤ b := by omega
    have hL1l : (L.take (s - a)).length = s - a := by rw [List.length_take]; omega
    have hL2l : (L.drop (s - a)).length = m - s := by rw [List.length_drop]; omega
    have hQ1l : (Q.take (mid - s)).length = mid - s := by rw [List.length_take]; omega
    have hQ2l : (Q.drop (mid - s)).length = b - (mid + m - s) := by rw [List.length_drop]; omega
    have p1 : ∀ x ∈ L.drop (s - a), ∀ y ∈ Q.take (mid - s), ltC cf y x = true := by
      intro x hx y hy
      rcases hr with hr | ⟨hr, x0, y0, hx0, hy0, hlt⟩
      · rcases hsr with ⟨_, hrm, _⟩ | ⟨_, hrm, _⟩
        · rw [List.drop_of_length_le (by omega)] at hx; cases hx
        · rw [show mid - s = 0 by omega, List.take_zero] at hy; cases hy
      · have h3 := asc_first o aL hx0 hlt x hx
        have h4 := asc_below o aQ hy0 h3
        rw [show mid - 1 - s + 1 = mid - s by omega] at h4
        exact h4 y hy
    have p2 : ∀ x ∈ L.take (s - a), ∀ y ∈ Q.drop (mid - s), ltC cf y x = false := by
      intro x hx y hy
      rcases hs with hs | ⟨hs, x0, y0, hx0, hy0, hlt⟩
      · rcases hsr with ⟨hsx, _, _⟩ | ⟨hsx, _, _⟩
        · rw [show s - a = 0 by omega, List.take_zero] at hx; cases hx
        · rw [List.drop_of_length_le (by omega)] at hy; cases hy
      · have h3 := asc_above o aQ hy0 hlt y hy
        have h4 := asc_last o aL hx0 h3
        rw [show s - 1 - a + 1 = s - a by omega] at h4
        exact h4 x hx
    have hmg : mg (ltC cf) L Q = mg (ltC cf) (L.take (s - a)) (Q.take (mid - s)) ++ mg (ltC cf) (L.drop (s - a)) (Q.drop (mid - s)) := by
      conv => lhs; rw [← List.take_append_drop (s - a) L, ← List.take_append_drop (mid - s) Q]
      exact mg_parts p1 p2
    have aL' : Asc (ltC cf) (L.take (s - a) ++ L.drop (s - a)) := by rw [List.take_append_drop]; exact aL
    have aQ' : Asc (ltC cf) (Q.take (mid - s) ++ Q.drop (mid - s)) := by rw [List.take_append_drop]; exact aQ
    have hLe : L = L.take (s - a) ++ L.drop (s - a) := (List.take_append_drop _ _).symm
    have hQe : Q = Q.take (mid - s) ++ Q.drop (mid - s) := (List.take_append_drop _ _).symm
    rw [hmg] at hk
    have h3 : Sat e w (DK v (P ++ (L.take (s - a) ++ L.drop (s - a)) ++ (Q.take (mid - s) ++ Q.drop (mid - s)) ++ S) :: R) := by rw [← hLe, ← hQe]; exact h2
    clear hs hr p1 p2 hmg h2 hLe hQe
    generalize L.take (s - a) = L1 at *
    generalize L.drop (s - a) = L2 at *
    generalize Q.take (mid - s) = Q1 at *
    generalize Q.drop (mid - s) = Q2 at *
    refine subn_s (by omega) (by omega) ?_
    refine ltlt_s ?_
    refine J0.cut (fun w => Sat e w (DK v (P ++ L1 ++ Q1 ++ L2 ++ Q2 ++ S) :: R)) (fun k7 hcut => ?_) ?_
    · refine iff_d (fun c5 => ?_) (fun c5 => hcut _ ?_)
      · refine rotate_s (P := P ++ L1) (A := L2) (B := Q1) (S := Q2 ++ S) (by rw [List.length_append]; omega) (by rw [List.length_append]; omega) (by rw [List.length_append]; omega) (by omega) (by omega) (by simp only [List.length_append]; omega) (by simpa using h3) fun w5 h5 => ?_
        exact hcut _ (by simpa using h5)
      · have : L2 = [] ∨ Q1 = [] := by
          by_cases h : s < m
          · exact .inr (List.length_eq_zero_iff.1 (by omega))
          · exact .inl (List.length_eq_zero_iff.1 (by omega))
        rcases this with h | h <;> subst h <;> simpa using h3
    intro w5 h5
    refine ltlt_s ?_
    refine J0.cut (fun w => Sat e w (DK v (P ++ mg (ltC cf) L1 Q1 ++ L2 ++ Q2 ++ S) :: R)) (fun k8 hcut => ?_) ?_
    · refine iff_d (fun c5 => ?_) (fun c5 => hcut _ ?_)
      · refine ih (P := P) (L := L1) (Q := Q1) (S := L2 ++ Q2 ++ S) (by omega) ha (by omega) (by omega) (by omega) (by omega) (by simp only [List.length_append]; omega) aL'.left aQ'.left (by simpa using h5) fun w6 h6 => ?_
        exact hcut _ (by simpa using h6)
      · have : L1 = [] ∨ Q1 = [] := by
          by_cases h : a < s
          · exact .inr (List.length_eq_zero_iff.1 (by omega))
          · exact .inl (List.length_eq_zero_iff.1 (by omega))
        rcases this with h | h
        · subst h; rw [mg_nil]; simpa using h5
        · subst h; rw [mg_nil']; simpa using h5
    intro w6 h6
    refine ltlt_s ?_
    refine iff_d (fun c5 => ?_) (fun c5 => hk _ ?_)
    · refine ih (P := P ++ mg (ltC cf) L1 Q1) (L := L2) (Q := Q2) (S := S) (by omega) (by rw [List.length_append, mg_length]; omega) (by rw [List.length_append, mg_length]; omega) (by rw [List.length_append, mg_length]; omega) (by omega) (by omega) (by simp only [List.length_append, mg_length]; omega) aL'.right aQ'.right (by simpa using h6) fun w7 h7 => ?_
      exact hk _ (by simpa using h7)
    · have : L2 = [] ∨ Q2 = [] := by
        by_cases h : mid < mid + m - s
        · exact .inr (List.length_eq_zero_iff.1 (by omega))
        · exact .inl (List.length_eq_zero_iff.1 (by omega))
      rcases this with h | h
      · subst h; rw [mg_nil]; simpa using h6
      · subst h; rw [mg_nil']; simpa using h6

def srt (cf : Kept → Kept → Int) (B : List (List Kept)) : List Kept := (B.map (stab (ltC cf))).flatten
theorem srt_len (B : List (List Kept)) : (srt cf B).length = B.flatten.length := by
  induction B with
  | nil => rfl
  | cons b B ih => simp only [srt, List.map_cons, List.flatten_cons, List.length_append, stab_length] at ih ⊢; rw [ih]
theorem srt_append (A B : List (List Kept)) : srt cf (A ++ B) = srt cf A ++ srt cf B := by simp [srt]
theorem srt_cons (b : List Kept) (B : List (List Kept)) : srt cf (b :: B) = stab (ltC cf) b ++ srt cf B := by simp [srt]
theorem flat_len {B : List (List Kept)} {k : Nat} (h : ∀ b ∈ B, b.length = k) : B.flatten.length = B.length * k := by
  induction B with
  | nil => simp
  | cons b B ih => rw [List.flatten_cons, List.length_append, h b List.mem_cons_self, ih fun x hx => h x (List.mem_cons_of_mem _ hx), List.length_cons, Nat.add_mul]; omega

theorem stable_s (hc : CmpOk e fv cf) (o : Ordered (ltC cf)) {l : List Kept} (hlen : l.length ≤ 1000000) (hS : Sat e w (DK v l :: R)) (hk : ∀ w', Sat e w' (DK v (stab (ltC cf) l) :: R) → K (.tuple #[]) w') :
    Cl prog 165 #[v, .int .i64 (l.length : Int), fv] w K := by
  refine slices_stableCmpFunc_gate_kept_calls ?_
  unfold slices_stableCmpFunc_gate_kept
  refine lpi2 (fun z t7 t8 w => ∃ (B : List (List Kept)) (r : List Kept), l = B.flatten ++ r ∧ (∀ b ∈ B, b.length = 20) ∧ t7 = .int .i64 (B.flatten.length : Int) ∧ t8 = .int .i64 ((B.flatten.length + 20 : Nat) : Int) ∧ z = r.length ∧ Sat e w (DK v (srt cf B ++ r) :: R)) l.length
    ⟨[], l, rfl, (fun _ h => by cases h), rfl, rfl, rfl, hS⟩ ?_
  rintro z _ _ w g ⟨B, r, hl, hB, rfl, rfl, rfl, h1⟩ hg
  have hll : l.length = B.flatten.length + r.length := by rw [hl, List.length_append]
  refine le_c (fun c1 => iff_t ?_) (fun c1 => iff_f ?_)
  · have hr20 : 20 ≤ r.length := by omega
    have htl : (r.take 20).length = 20 := by rw [List.length_take]; omega
    refine insertion_s hc o (P := srt cf B) (X := r.take 20) (S := r.drop 20) (srt_len B).symm (by rw [srt_len, htl]) (by simp only [List.length_append, List.length_take, List.length_drop, srt_len]; omega) (by simpa using h1) fun w2 h2 => ?_
    refine addn_s (b := 20) (by omega) ?_
    refine hg _ _ _ _ (by rw [List.length_drop]; omega) ⟨B ++ [r.take 20], r.drop 20, by rw [hl]; simp, fun b hb => ?_, ?_, ?_, rfl, ?_⟩
    · rcases List.mem_append.1 hb with h | h
      · exact hB b h
      · rw [List.mem_singleton.1 h]; exact htl
    · rw [List.flatten_append, List.length_append]; simp [htl]
    · rw [List.flatten_append, List.length_append]; simp [htl]
    · rw [srt_append, srt_cons]
      simpa [srt] using h2
  · have hr20 : r.length < 20 := by omega
    refine insertion_s hc o (P := srt cf B) (X := r) (S := []) (srt_len B).symm (by rw [srt_len, hll]) (by simp only [List.length_append, srt_len, List.length_nil]; omega) (by simpa using h1) fun w2 h2 => ?_
    rw [List.append_nil] at h2
    refine lpi1 (fun z t6 w => ∃ (bs : Nat) (B : List (List Kept)) (r : List Kept), l = B.flatten ++ r ∧ 0 < bs ∧ bs ≤ 2000000 ∧ (∀ b ∈ B, b.length = bs) ∧ r.length < bs ∧ t6 = .int .i64 (bs : Int) ∧ z = l.length - bs ∧ Sat e w (DK v (srt cf B ++ stab (ltC cf) r) :: R)) (l.length - 20)
      ⟨20, B, r, hl, by decide, by decide, hB, hr20, rfl, rfl, h2⟩ ?_
    clear hl hB hr20 hll h1 h2 hg c1
    rintro z _ w g2 ⟨bs, B, r, hl, hbs, hbs2, hB, hr, rfl, rfl, h1⟩ hg2
    have hll : l.length = B.flatten.length + r.length := by rw [hl, List.length_append]
    refine ltn_c (fun c2 => iff_t ?_) (fun c2 => iff_f ?_)
    · refine muln_s (a := 2) (by omega) ?_
      refine lpi2 (fun z t7 t8 w => ∃ (D B : List (List Kept)), l = D.flatten ++ B.flatten ++ r ∧ (∀ b ∈ D, b.length = 2 * bs) ∧ (∀ b ∈ B, b.length = bs) ∧ t7 = .int .i64 (D.flatten.length : Int) ∧ t8 = .int .i64 ((D.flatten.length + 2 * bs : Nat) : Int) ∧ z = B.length ∧
          Sat e w (DK v (srt cf D ++ srt cf B ++ stab (ltC cf) r) :: R)) B.length
        ⟨[], B, by simpa using hl, (fun _ h => by cases h), hB, rfl, by simp, rfl, h1⟩ ?_
      clear hl hB hll h1
      rintro z _ _ w g3 ⟨D, B, hl, hD, hB, rfl, rfl, rfl, h1⟩ hg3
      have hll : l.length = D.flatten.length + B.flatten.length + r.length := by rw [hl, List.length_append, List.length_append]
      have hBl := flat_len hB
      refine le_c (fun c3 => iff_t ?_) (fun c3 => iff_f ?_)
      · -- two blocks more
        obtain ⟨X, Y, B', rfl⟩ : ∃ X Y B', B = X :: Y :: B' := by
          match B with
          | [] => simp only [List.length_nil] at hBl; omega
          | [X] => simp only [List.length_cons, List.length_nil] at hBl; omega
          | X :: Y :: B' => exact ⟨X, Y, B', rfl⟩
        have hXl : X.length = bs := hB X (by simp)
        have hYl : Y.length = bs := hB Y (by simp)
        rw [List.flatten_cons, List.flatten_cons, List.length_append, List.length_append] at hll
        refine addn_s (by omega) ?_
        refine symMerge_s hc o _ (P := srt cf D) (L := stab (ltC cf) X) (Q := stab (ltC cf) Y) (S := srt cf B' ++ stab (ltC cf) r) (Nat.le_refl _) (srt_len D).symm (by rw [srt_len, stab_length]; omega) (by rw [srt_len, stab_length, stab_length]; omega)
          (by rw [stab_length]; omega) (by rw [stab_length]; omega) (by simp only [List.length_append, srt_len, stab_length]; omega) (stab_asc o _) (stab_asc o _) (by rw [srt_cons, srt_cons] at h1; simpa using h1) fun w4 h4 => ?_
        refine muln_s (a := 2) (by omega) (addn_s (by omega) ?_)
        refine hg3 _ _ _ _ (by simp only [List.length_cons]; omega) ⟨D ++ [X ++ Y], B', by rw [hl]; simp, fun b hb => ?_, fun b hb => hB b (by simp [hb]), ?_, ?_, rfl, ?_⟩
        · rcases List.mem_append.1 hb with h | h
          · exact hD b h
          · rw [List.mem_singleton.1 h, List.length_append]; omega
        · rw [List.flatten_append, List.length_append]; simp [hXl, hYl]; omega
        · rw [List.flatten_append, List.length_append]; simp [hXl, hYl]; omega
        · rw [srt_append, srt_cons, stab_append o]
          simpa [srt] using h4
      · -- at most one block more
        refine addn_s (by omega) (lt_d ?_)
        refine J0.cut (fun w => ∃ r', l = D.flatten ++ r' ∧ r'.length < 2 * bs ∧ Sat e w (DK v (srt cf D ++ stab (ltC cf) r') :: R)) (fun k4 hcut => ?_) ?_
        · refine iff_d (fun c4 => ?_) (fun c4 => hcut _ ?_)
          · obtain ⟨X, rfl⟩ : ∃ X, B = [X] := by
              match B with
              | [] => simp only [List.length_nil] at hBl; omega
              | [X] => exact ⟨X, rfl⟩
              | X :: Y :: B' => simp only [List.length_cons, Nat.add_mul] at hBl; omega
            have hXl : X.length = bs := hB X (by simp)
            simp only [List.flatten_cons, List.flatten_nil, List.append_nil] at hll hl
            refine symMerge_s hc o _ (P := srt cf D) (L := stab (ltC cf) X) (Q := stab (ltC cf) r) (S := []) (Nat.le_refl _) (srt_len D).symm (by rw [srt_len, stab_length]; omega) (by rw [srt_len, stab_length, stab_length]; omega)
              (by rw [stab_length]; omega) (by rw [stab_length]; omega) (by simp only [List.length_append, srt_len, stab_length, List.length_nil]; omega) (stab_asc o _) (stab_asc o _) (by rw [srt_cons] at h1; simpa [srt] using h1) fun w4 h4 => ?_
            refine hcut _ ⟨X ++ r, by rw [hl]; simp, by rw [List.length_append]; omega, ?_⟩
            rw [stab_append o]
            simpa using h4
          · match B, hB, hl, hll, hBl, h1 with
            | [], hB, hl, hll, hBl, h1 => exact ⟨r, by simpa using hl, by omega, by simpa [srt] using h1⟩
            | [X], hB, hl, hll, hBl, h1 =>
              have hXl : X.length = bs := hB X (by simp)
              simp only [List.flatten_cons, List.flatten_nil, List.append_nil] at hll
              have hr0 : r = [] := List.length_eq_zero_iff.1 (by omega)
              subst hr0
              exact ⟨X, by simpa using hl, by omega, by simpa [srt, stab] using h1⟩
            | X :: Y :: B', hB, hl, hll, hBl, h1 => simp only [List.length_cons, Nat.add_mul] at hBl; omega
        · rintro w5 ⟨r', hl', hr', h5⟩
          refine muln_s (b := 2) (by omega) ?_
          exact hg2 _ _ _ (by omega) ⟨bs * 2, D, r', hl', by omega, by omega, fun b hb => by rw [hD b hb]; omega, by omega, rfl, rfl, h5⟩
    · have hBl := flat_len hB
      refine hk _ ?_
      match B, hB, hl, hll, hBl, h1 with
      | [], hB, hl, hll, hBl, h1 => rw [show l = r by simpa using hl]; simpa [srt] using h1
      | [X], hB, hl, hll, hBl, h1 =>
        have hXl : X.length = bs := hB X (by simp)
        simp only [List.flatten_cons, List.flatten_nil, List.append_nil] at hll
        have hr0 : r = [] := List.length_eq_zero_iff.1 (by omega)
        subst hr0
        rw [show l = X by simpa using hl]
        simpa [srt, stab] using h1
      | X :: Y :: B', hB, hl, hll, hBl, h1 => simp only [List.length_cons, Nat.add_mul] at hBl; omega

theorem sortStable_s {S : HP} (hc : CmpOk e fv cf) (o : Ordered (ltC cf)) {l : List Kept} (hlen : l.length ≤ 1000000) (hS : Sat e w (DK v l :: S :: R)) (hk : ∀ w', Sat e w' (DK v (stab (ltC cf) l) :: S :: R) → K (.tuple #[]) w') :
    Cl prog 123 #[v, fv] w K := by
  refine slices_SortStableFunc_gate_kept_gate_kept_calls ?_
  unfold slices_SortStableFunc_gate_kept_gate_kept
  refine lnS_rd hS 0 rfl (fun g hg => own_rd hg) ?_
  exact stable_s hc o hlen hS hk
end Go.Proofs.YtbopajpmadlmhaaGreat
end
section
namespace Go.Proofs.YtbopajpmadlmhaaGreat
open Go Go.E
set_option maxRecDepth 100000
variable {e w : World} {R : List HP} {K : KV}

theorem drop1_s {b : Nat} {k : Key} {x : Kept} (hS : Sat e w (blk b 35 k.cs :: R)) (hk : ∀ w', Sat e w' (blk b 35 k.cs :: R) → K (.bool (decide (0 ≤ cmpK x.cause k))) w') :
    clV prog (.func (.func 174) #[] #[.pointer (some ⟨b, 0, none⟩)]) #[.agg x.cs.toArray] w K := by
  refine ⟨_, _, _, rfl, ?_⟩
  refine gate_Gate_Drop_1_calls (t0 := .agg x.cs.toArray) (t1 := .pointer (some ⟨b, 0, none⟩)) ?_
  unfold gate_Gate_Drop_1
  refine al_s (cs := x.cs) hS rfl fun b2 w1 h1 => ?_
  refine fld_at ?_
  refine ldN_at h1 0 (vs := x.cause.cs) rfl (by rfl) rfl ?_
  refine ldN_at h1 1 (vs := k.cs) rfl (by rfl) rfl ?_
  refine vtime_Cmp_s h1 fun w2 h2 => ?_
  refine ge_d ?_
  exact hk _ h2.drop

def dropP (k : Key) (x : Kept) : Bool := decide (0 ≤ cmpK x.cause k)
theorem gate_Drop_s {g : Nat} {fl : Int} {l : List Kept} (k : Key) (hS : Sat e w (IsGate g fl l :: R)) (hl : l.length ≤ 1000000)
    (hk : ∀ v w', Sat e w' (ownS 37 6 Msg.cs v ((l.filter (dropP k)).map Kept.m) :: IsGate g fl (l.filter fun x => !dropP k x) :: R) → K v w') : Cl prog 147 #[.pointer (some ⟨g, 0, none⟩), .agg k.cs.toArray] w K := by
  refine gate_Gate_Drop_calls ?_
  unfold gate_Gate_Drop
  refine al_s (cs := k.cs) hS rfl fun b3 w1 h1 => ?_
  refine gate_part_s (dropP k) h1.swap hl (fun w R K x h hk => drop1_s h hk) fun v' w2 h2 => ?_
  refine messages_s h2 (fun g hg => own_rd hg) (Nat.le_trans (List.length_filter_le _ _) hl) fun v3 w3 h3 => ?_
  exact hk _ _ (h3.selR [_, _, _, _] [_, _] [0, 2] (by decide) rfl)

end Go.Proofs.YtbopajpmadlmhaaGreat
end
section
namespace Go.Proofs.YtbopajpmadlmhaaGreat
open Go Go.E
set_option maxRecDepth 100000
variable {e w : World} {R : List HP} {K : KV}

def cfK (x y : Kept) : Int := cmpK x.cause y.cause
theorem ltC_iff {x y : Kept} : ltC cfK x y = true ↔ KeyLt x.cause y.cause := by
  unfold ltC cfK
  rw [decide_eq_true_eq]
  exact cmpK_lt
theorem ltC_no {x y : Kept} : ltC cfK x y = false ↔ ¬ KeyLt x.cause y.cause := by
  rw [← ltC_iff]
  cases ltC cfK x y <;> simp
theorem orderedK : Ordered (ltC cfK) where
  asymm a b h := ltC_no.2 (ltC_iff.1 h).asymm
  trans a b c h k := by
    rw [ltC_no] at h k ⊢
    intro hca
    rcases KeyLt.tri a.cause b.cause with h1 | h1 | h1
    · exact k (hca.trans h1)
    · rw [h1] at hca; exact k hca
    · exact h h1
def openP (t : Int) (x : Kept) : Bool := decide (x.cause.T < t)
def openR (l : List Kept) (t : Int) : List Kept := stab (ltC cfK) (l.filter (openP t))
def openL (l : List Kept) (t : Int) : List Kept := l.filter fun x => !openP t x

theorem open1_s {b : Nat} {t : Int} {x : Kept} (hS : Sat e w (blk b 3 [.int .i64 t] :: R)) (hk : ∀ w', Sat e w' (blk b 3 [.int .i64 t] :: R) → K (.bool (openP t x)) w') :
    clV prog (.func (.func 122) #[] #[.pointer (some ⟨b, 0, none⟩)]) #[.agg x.cs.toArray] w K := by
  refine ⟨_, _, _, rfl, ?_⟩
  refine gate_Gate_Open_1_calls (t0 := .agg x.cs.toArray) (t1 := .pointer (some ⟨b, 0, none⟩)) ?_
  unfold gate_Gate_Open_1
  refine al_s (cs := x.cs) hS rfl fun b2 w1 h1 => ?_
  refine fld_at (fld_at ?_)
  refine ld1_at h1 0 rfl (v := .int .i64 x.cause.T) rfl ?_
  refine ld1_at h1 1 rfl (v := .int .i64 t) rfl ?_
  refine lt_d ?_
  exact hk _ h1.drop
theorem open2_s : CmpOk e (.func (.func 124) #[] #[]) cfK := by
  intro w R K x y hS hk
  refine ⟨_, _, _, rfl, ?_⟩
  refine gate_Gate_Open_2_calls (t0 := .agg x.cs.toArray) (t1 := .agg y.cs.toArray) ?_
  unfold gate_Gate_Open_2
  refine al_s (cs := x.cs) hS rfl fun b2 w1 h1 => ?_
  refine al_s (cs := y.cs) h1 rfl fun b3 w2 h2 => ?_
  refine fld_at (ldN_at h2 1 (vs := x.cause.cs) rfl (by rfl) rfl ?_)
  refine fld_at (ldN_at h2 0 (vs := y.cause.cs) rfl (by rfl) rfl ?_)
  exact vtime_Cmp_s h2 fun w3 h3 => hk _ h3.drop.drop
theorem gate_Open_s {g : Nat} {fl : Int} {l : List Kept} (t : Int) (hS : Sat e w (IsGate g fl l :: R)) (hl : l.length ≤ 1000000)
    (hk : ∀ v w', Sat e w' (ownS 37 6 Msg.cs v ((openR l t).map Kept.m) :: IsGate g (max fl t) (openL l t) :: R) → K v w') : Cl prog 63 #[.pointer (some ⟨g, 0, none⟩), .int .i64 t] w K := by
  refine gate_Gate_Open_calls ?_
  unfold gate_Gate_Open
  refine al_s (cs := [.int .i64 t]) hS rfl fun b3 w1 h1 => ?_
  refine gate_part_s (openP t) h1.swap hl (fun w R K x h hk => open1_s h hk) fun v' w2 h2 => ?_
  have hfl := List.length_filter_le (openP t) l
  refine sortStable_s open2_s orderedK (by omega) h2 fun w3 h3 => ?_
  refine dr_s h3 fun w4 h4 => ?_
  obtain ⟨v, h5⟩ := (h4.selR [_, _, _] [_, _, _] [1, 0, 2] (by decide) rfl).ex
  have h6 := h5.split
  refine ncP_p (fld_at (ld1_at h6 0 rfl (v := .int .i64 fl) rfl ?_))
  refine ld1_at h6 3 rfl (v := .int .i64 t) rfl ?_
  refine max_s ?_
  refine ncP_p (fld_at ?_)
  refine stN_at h6 0 rfl (vs := [.int .i64 (max fl t)]) rfl rfl (Nat.le_of_ble_eq_true rfl) (by simp [flat]) (cs' := [.int .i64 (max fl t), v]) rfl fun w5 h7 => ?_
  have h8 : Sat e w5 (DK v' (openR l t) :: IsGate g (max fl t) (openL l t) :: blk b3 3 [.int .i64 t] :: R) :=
    Sat.swap (.mk_ex v (.join (l' := [_, _]) (h7.selR [_, _, _, _] [_, _, _, _] [0, 1, 2, 3] (by decide) rfl)))
  refine messages_s h8 (fun g hg => own_rd hg) (by unfold openR; rw [stab_length]; omega) fun v3 w6 h9 => ?_
  exact hk _ _ (h9.selR [_, _, _, _] [_, _] [0, 2] (by decide) rfl)
def IsGateR (g : Nat) (fl : Int) (l : List Kept) : HP := hex fun v : Value => sepL [blk g 138 [.int .i64 fl, v], ownS 196 9 Kept.cs v l]
abbrev DR (v : Value) (l : List Kept) : HP := ownS 196 9 Kept.cs v l
theorem gateR_open {g : Nat} {fl : Int} {l : List Kept} (h : Sat e w (IsGateR g fl l :: R)) : ∃ v, Sat e w (blk g 138 [.int .i64 fl, v] :: DR v l :: R) := by
  obtain ⟨v, h5⟩ := h.ex
  exact ⟨v, h5.split⟩
theorem gateR_mk {g : Nat} {fl : Int} {l : List Kept} {v : Value} (h : Sat e w (blk g 138 [.int .i64 fl, v] :: DR v l :: R)) : Sat e w (IsGateR g fl l :: R) :=
  .mk_ex v (.join (l' := [_, _]) h)
theorem ref14_New_s (hS : Sat e w R) (hk : ∀ g w', Sat e w' (IsGateR g 0 [] :: R) → K (.pointer (some ⟨g, 0, none⟩)) w') : Cl prog 73 #[] w K := by
  refine pacelineref14_New_calls ?_
  unfold pacelineref14_New
  rw [zero_138]
  refine ⟨_, rfl, ?_⟩
  refine al_s (cs := [.int .i64 0, .slice none 0 0]) hS rfl fun b w1 h1 => ?_
  exact hk _ _ (gateR_mk (h1.own_nil 196 9 Kept.cs).swap)
theorem ref14_Hold_s {g : Nat} {fl : Int} {l : List Kept} (c : Key) (m : Msg) (hS : Sat e w (IsGateR g fl l :: R)) (hl : l.length ≤ 256)
    (hk : ∀ w', Sat e w' (IsGateR g fl (holdL fl l c m) :: R) → K (.int .i64 (holdE fl l c)) w') : Cl prog 83 #[.pointer (some ⟨g, 0, none⟩), .agg c.cs.toArray, .agg m.cs.toArray] w K := by
  obtain ⟨v, h1⟩ := gateR_open hS
  refine pacelineref14_Gate_Hold_calls ?_
  unfold pacelineref14_Gate_Hold
  refine al_s (cs := c.cs) h1 rfl fun b4 w1 h2 => ?_
  refine al_s (cs := m.cs) h2 rfl fun b5 w2 h3 => ?_
  refine dr_s h3 fun w3 h4 => ?_
  refine fld_at (ld1_at h4 1 rfl (v := .int .i64 c.T) rfl ?_)
  refine ncP_p (fld_at (ld1_at h4 2 rfl (v := .int .i64 fl) rfl ?_))
  refine lt_c (fun c1 => ?_) (fun c1 => ?_)
  · refine iff_t ?_
    have := hk w3
    simp only [holdE, holdL, if_pos c1] at this
    exact this (gateR_mk h4.drop.drop)
  · refine iff_f (ncP_p (fld_at (ld1_at h4 2 rfl (v := v) rfl ?_)))
    refine lnS_rd h4 3 rfl (fun g hg => own_rd hg) ?_
    refine ge_c (fun c2 => ?_) (fun c2 => ?_)
    · refine iff_t ?_
      have := hk w3
      have c3 : 256 ≤ l.length := by omega
      simp only [holdE, holdL, if_neg c1, if_pos c3] at this
      exact this (gateR_mk h4.drop.drop)
    · refine iff_f ?_
      refine bsl0 h4 Kept.cs fun v1 w4 h5 => ?_
      refine ncP_p (fld_at (ld1_at h5 3 rfl (v := v) rfl ?_))
      replace h5 : Sat e w4 (DR v1 [] :: DR v l :: blk b5 37 m.cs :: blk b4 35 c.cs :: blk g 138 [.int .i64 fl, v] :: R) := h5.selR [_, _, _, _, _] [_, _, _, _, _] [0, 4, 1, 2, 3] (by decide) rfl
      refine apS_own te_136 und_136 (f := Kept.cs) (fun _ => rfl) (fun _ => ints_flat _) h5 (fun g hg => own_rd hg) (by simp; omega) fun v2 w5 h6 => ?_
      rw [List.nil_append] at h6
      refine ldN_at h6 3 (vs := c.cs) rfl (by rfl) rfl ?_
      refine ldN_at h6 2 (vs := m.cs) rfl (by rfl) rfl ?_
      rw [zero_196]
      refine bld_s (Kept.cs ⟨c, m⟩) (by kernel_rfl) ?_
      refine push1 te_136 (f := Kept.cs) (fun _ => rfl) (fun _ => ints_flat _) h6 (x := ⟨c, m⟩) rfl (by omega) fun v3 w6 h7 => ?_
      refine ncP_p (fld_at ?_)
      refine st1_at h7 4 rfl (h7.own_cells 0 rfl) (Nat.le_of_ble_eq_true rfl) rfl fun w7 h8 => ?_
      have := hk w7
      have c3 : ¬ 256 ≤ l.length := by omega
      simp only [holdE, holdL, if_neg c1, if_neg c3] at this
      exact this (gateR_mk (h8.selR [_, _, _, _, _] [_, _] [4, 0] (by decide) rfl))

theorem dropP_neg {k : Key} {x : Kept} : dropP k x = !decide (cmpK x.cause k < 0) := by
  unfold dropP
  by_cases h : cmpK x.cause k < 0
  · rw [decide_eq_true h, decide_eq_false (by omega)]; rfl
  · rw [decide_eq_false h, decide_eq_true (by omega)]; rfl
theorem filter_snoc {α : Type} {p : α → Bool} {l : List α} {j : Nat} {x : α} (hx : l[j]? = some x) : (l.take (j + 1)).filter p = (l.take j).filter p ++ if p x then [x] else [] := by
  rw [take_snoc hx, List.filter_append]
  cases hpx : p x <;> simp [hpx]
theorem ref14_Drop_s {g : Nat} {fl : Int} {l : List Kept} (k : Key) (hS : Sat e w (IsGateR g fl l :: R)) (hl : l.length ≤ 1000000)
    (hk : ∀ v w', Sat e w' (ownS 37 6 Msg.cs v ((l.filter (dropP k)).map Kept.m) :: IsGateR g fl (l.filter fun x => !dropP k x) :: R) → K v w') : Cl prog 131 #[.pointer (some ⟨g, 0, none⟩), .agg k.cs.toArray] w K := by
  obtain ⟨v, h1⟩ := gateR_open hS
  refine pacelineref14_Gate_Drop_calls ?_
  unfold pacelineref14_Gate_Drop
  refine al_s (cs := k.cs) h1 rfl fun b3 w1 h2 => ?_
  refine bsl0 h2 Msg.cs fun v1 w2 h3 => ?_
  refine bsl0 h3 Kept.cs fun v2 w3 h4 => ?_
  refine lpi3 (fun z t5 t6 t7 w => ∃ j : Nat, j ≤ l.length ∧ t7 = .int .i64 j ∧ z = l.length - j ∧ Sat e w (ownS 37 6 Msg.cs t5 (((l.take j).filter (dropP k)).map Kept.m) :: DR t6 ((l.take j).filter fun x => !dropP k x) :: blk b3 35 k.cs ::
      blk g 138 [.int .i64 fl, v] :: DR v l :: R)) l.length
    ⟨0, Nat.zero_le _, rfl, rfl, h4.selR [_, _, _, _, _] [_, _, _, _, _] [1, 0, 2, 3, 4] (by decide) rfl⟩ ?_
  rintro z t5 t6 _ w g1 ⟨j, hj, rfl, rfl, h5⟩ hg
  refine ncP_p (fld_at (ld1_at h5 3 rfl (v := v) rfl ?_))
  refine lnS_rd h5 4 rfl (fun g hg => own_rd hg) ?_
  refine lt_c (fun c => iff_t ?_) (fun c => iff_f ?_)
  · obtain ⟨x, hx⟩ := get_of_lt (l := l) (j := j) (by omega)
    have hn1 := List.length_filter_le (dropP k) (l.take j)
    have hn2 := List.length_filter_le (fun x => !dropP k x) (l.take j)
    have hn3 : (l.take j).length ≤ 1000000 := by simp; omega
    refine J2.cut (fun t5 t6 w => Sat e w (ownS 37 6 Msg.cs t5 (((l.take (j + 1)).filter (dropP k)).map Kept.m) :: DR t6 ((l.take (j + 1)).filter fun x => !dropP k x) :: blk b3 35 k.cs ::
      blk g 138 [.int .i64 fl, v] :: DR v l :: R)) (fun k2 hcut => ?_) (fun t5 t6 w h6 => ?_)
    · refine dr_s h5 fun w4 h6 => ?_
      refine ncP_p (fld_at (ld1_at h6 3 rfl (v := v) rfl ?_))
      refine ixS_rd h6 4 rfl (fun g hg => own_rd hg) (fun _ => rfl) hx fun p hp => ?_
      refine fld_of hp fun p1 hp1 => ?_
      refine ldN_sub (us := x.cause.cs) h6 4 rfl hp1 (by rfl) rfl ?_
      refine ldN_at h6 2 (vs := k.cs) rfl (by rfl) rfl ?_
      refine ref01_Cmp_s h6 fun w5 h7 => ?_
      rw [filter_snoc hx, filter_snoc hx] at hcut
      refine lt_c (fun c2 => iff_t ?_) (fun c2 => iff_f ?_)
      · have hd : dropP k x = false := by rw [dropP_neg, decide_eq_true c2]; rfl
        rw [hd] at hcut
        refine ncP_p (fld_at (ld1_at h7 3 rfl (v := v) rfl ?_))
        refine ixS_rd h7 4 rfl (fun g hg => own_rd hg) (fun _ => rfl) hx fun p hp => ?_
        refine ldN_of h7 4 rfl hp rfl ?_
        refine push1 te_136 (f := Kept.cs) (fun _ => rfl) (fun _ => ints_flat _) (h7.pick 1 rfl) (x := x) rfl (by omega) fun v' w6 h8 => ?_
        refine hcut _ _ _ ?_
        simp only [Bool.false_eq_true, if_false, List.append_nil, Bool.not_false, if_true]
        exact h8.selR [_, _, _, _, _] [_, _, _, _, _] [1, 0, 2, 3, 4] (by decide) rfl
      · have hd : dropP k x = true := by rw [dropP_neg, decide_eq_false c2]; rfl
        rw [hd] at hcut
        refine ncP_p (fld_at (ld1_at h7 3 rfl (v := v) rfl ?_))
        refine ixS_rd h7 4 rfl (fun g hg => own_rd hg) (fun _ => rfl) hx fun p hp => ?_
        refine fld_of hp fun p1 hp1 => ?_
        refine ldN_sub (us := x.m.cs) h7 4 rfl hp1 (by rfl) rfl ?_
        refine push1 te_33 (f := Msg.cs) (fun _ => rfl) (fun _ => ints_flat _) h7 (x := x.m) rfl (by rw [List.length_map]; omega) fun v' w6 h8 => ?_
        refine hcut _ _ _ ?_
        simp only [Bool.not_true, Bool.false_eq_true, if_false, List.append_nil, if_true, List.map_append, List.map_cons, List.map_nil]
        exact h8
    · refine inc_s (by omega) ?_
      exact hg _ _ _ _ _ (by omega) ⟨j + 1, by omega, rfl, rfl, h6⟩
  · obtain rfl : j = l.length := by omega
    rw [List.take_length] at h5
    refine ncP_p (fld_at ?_)
    refine st1_at h5 3 rfl (h5.own_cells 1 rfl) (Nat.le_of_ble_eq_true rfl) rfl fun w4 h6 => ?_
    exact hk _ _ (Sat.swap (gateR_mk (h6.selR [_, _, _, _, _] [_, _, _] [3, 1, 0] (by decide) rfl)))

end Go.Proofs.YtbopajpmadlmhaaGreat
end
section
namespace Go.Proofs.YtbopajpmadlmhaaGreat
open Go Go.E
set_option maxRecDepth 100000
variable {e w : World} {R : List HP} {K : KV}

structure Ins (G : List Kept) (x : Kept) (i : Nat) (d : Bool) (c : List Kept) : Prop where
  no : d = false → c = G.take i ∧ ∀ z ∈ G.take i, ltC cfK x z = false
  yes : d = true → ∃ p y, p < i ∧ G[p]? = some y ∧ ltC cfK x y = true ∧ (∀ z ∈ G.take p, ltC cfK x z = false) ∧ c = G.take p ++ x :: (G.take i).drop p
theorem Ins.len {G : List Kept} {x : Kept} {i : Nat} {d : Bool} {c : List Kept} (h : Ins G x i d c) (_hi : i ≤ G.length) : c.length ≤ i + 1 := by
  cases d with
  | false => rw [(h.no rfl).1, List.length_take]; omega
  | true =>
    obtain ⟨p, y, hp, _, _, _, rfl⟩ := h.yes rfl
    simp only [List.length_append, List.length_cons, List.length_take, List.length_drop]
    omega
theorem Ins.done {G : List Kept} {x : Kept} {c : List Kept} (h : Ins G x G.length true c) (ha : Asc (ltC cfK) G) : c = mg (ltC cfK) G [x] := by
  obtain ⟨p, y, hp, hy, hxy, hlo, rfl⟩ := h.yes rfl
  rw [List.take_length]
  have hhi := asc_first orderedK ha hy hxy
  have := mg_one' hlo hhi
  rw [List.take_append_drop] at this
  exact this.symm
theorem Ins.push {G : List Kept} {x : Kept} {c : List Kept} (h : Ins G x G.length false c) : c ++ [x] = mg (ltC cfK) G [x] := by
  obtain ⟨rfl, hlo⟩ := h.no rfl
  rw [List.take_length] at hlo ⊢
  have := mg_one' (lt := ltC cfK) (y := x) (L1 := G) (L2 := []) hlo (fun _ h => by cases h)
  rw [List.append_nil] at this
  exact this.symm

theorem ref14_Open_s {g : Nat} {fl : Int} {l : List Kept} (t : Int) (hS : Sat e w (IsGateR g fl l :: R)) (hl : l.length ≤ 1000000)
    (hk : ∀ v w', Sat e w' (ownS 37 6 Msg.cs v ((openR l t).map Kept.m) :: IsGateR g (max fl t) (openL l t) :: R) → K v w') : Cl prog 85 #[.pointer (some ⟨g, 0, none⟩), .int .i64 t] w K := by
  obtain ⟨v, h1⟩ := gateR_open hS
  refine pacelineref14_Gate_Open_calls ?_
  unfold pacelineref14_Gate_Open
  refine bsl0 h1 Kept.cs fun v1 w2 h2 => ?_
  refine bsl0 h2 Kept.cs fun v2 w3 h3 => ?_
  refine lpi3 (fun z t5 t6 t7 w => ∃ j : Nat, j ≤ l.length ∧ t7 = .int .i64 j ∧ z = l.length - j ∧ Sat e w (DR t5 (stab (ltC cfK) ((l.take j).filter (openP t))) :: DR t6 ((l.take j).filter fun x => !openP t x) ::
      blk g 138 [.int .i64 fl, v] :: DR v l :: R)) l.length
    ⟨0, Nat.zero_le _, rfl, rfl, h3.selR [_, _, _, _] [_, _, _, _] [1, 0, 2, 3] (by decide) rfl⟩ ?_
  rintro z t5 t6 _ w g1 ⟨j, hj, rfl, rfl, h5⟩ hg
  refine ncP_p (fld_at (ld1_at h5 2 rfl (v := v) rfl ?_))
  refine lnS_rd h5 3 rfl (fun g hg => own_rd hg) ?_
  refine lt_c (fun c => iff_t ?_) (fun c => iff_f ?_)
  · obtain ⟨x, hx⟩ := get_of_lt (l := l) (j := j) (by omega)
    have hn1 := List.length_filter_le (openP t) (l.take j)
    have hn2 := List.length_filter_le (fun x => !openP t x) (l.take j)
    have hn3 : (l.take j).length ≤ 1000000 := by simp; omega
    refine J2.cut (fun t5 t6 w => Sat e w (DR t5 (stab (ltC cfK) ((l.take (j + 1)).filter (openP t))) :: DR t6 ((l.take (j + 1)).filter fun x => !openP t x) ::
      blk g 138 [.int .i64 fl, v] :: DR v l :: R)) (fun k2 hcut => ?_) (fun t5 t6 w h6 => ?_)
    · refine ncP_p (fld_at (ld1_at h5 2 rfl (v := v) rfl ?_))
      refine ixS_rd h5 3 rfl (fun g hg => own_rd hg) (fun _ => rfl) hx fun p hp => ?_
      refine ldN_of h5 3 rfl hp rfl ?_
      rw [zero_196]
      refine al_s (cs := ints [0, 0, 0, 0, 0, 0, 0, 0, 0]) h5 rfl fun b w4 h6 => ?_
      refine stN_at h6 0 rfl (vs := x.cs) rfl rfl (Nat.le_of_ble_eq_true rfl) (ints_flat _) (cs' := x.cs) (by kernel_rfl) fun w5 h7 => ?_
      replace h7 : Sat e w5 (blk b 196 x.cs :: DR t5 (stab (ltC cfK) ((l.take j).filter (openP t))) :: DR t6 ((l.take j).filter fun x => !openP t x) :: blk g 138 [.int .i64 fl, v] :: DR v l :: R) := h7
      refine fld_at (fld_at (ld1_at h7 0 rfl (v := .int .i64 x.cause.T) rfl ?_))
      rw [filter_snoc hx, filter_snoc hx] at hcut
      refine ge_c (fun c2 => iff_t ?_) (fun c2 => iff_f ?_)
      · have hd : openP t x = false := decide_eq_false (by omega)
        rw [hd] at hcut
        refine ldN_at h7 0 (vs := x.cs) rfl (by rfl) rfl ?_
        refine push1 te_136 (f := Kept.cs) (fun _ => rfl) (fun _ => ints_flat _) (h7.pick 2 rfl) (x := x) rfl (by omega) fun v' w6 h8 => ?_
        refine hcut _ _ _ ?_
        simp only [Bool.false_eq_true, if_false, List.append_nil, Bool.not_false, if_true]
        exact h8.selR [_, _, _, _, _] [_, _, _, _] [2, 0, 3, 4] (by decide) rfl
      · have hd : openP t x = true := decide_eq_true (by omega)
        rw [hd] at hcut
        simp only [Bool.not_true, Bool.false_eq_true, if_false, List.append_nil, if_true] at hcut
        rw [stab_append orderedK, stab_one] at hcut
        have hGl : (stab (ltC cfK) ((l.take j).filter (openP t))).length ≤ 1000000 := by rw [stab_length]; omega
        have hGa : Asc (ltC cfK) (stab (ltC cfK) ((l.take j).filter (openP t))) := stab_asc orderedK _
        generalize stab (ltC cfK) ((l.take j).filter (openP t)) = G at h7 hcut hGl hGa
        refine bsl0 h7 Kept.cs fun v3 w6 h8 => ?_
        refine lpi3 (fun z t9 t10 t11 w => ∃ (i : Nat) (d : Bool) (c : List Kept), i ≤ G.length ∧ t10 = .bool d ∧ t11 = .int .i64 i ∧ z = G.length - i ∧ Ins G x i d c ∧ Sat e w (DR t9 c :: blk b 196 x.cs :: DR t5 G ::
            DR t6 ((l.take j).filter fun x => !openP t x) :: blk g 138 [.int .i64 fl, v] :: DR v l :: R)) G.length
          ⟨0, false, [], Nat.zero_le _, rfl, rfl, rfl, ⟨fun _ => ⟨rfl, fun _ h => by cases h⟩, fun h => by cases h⟩, h8⟩ ?_
        rintro z t9 _ _ w g3 ⟨i, d, c, hi, rfl, rfl, rfl, hins, h9⟩ hg3
        have hcl := hins.len hi
        refine lnS_rd h9 2 rfl (fun g hg => own_rd hg) ?_
        refine lt_c (fun c3 => iff_t ?_) (fun c3 => iff_f ?_)
        · obtain ⟨y, hy⟩ := get_of_lt (l := G) (j := i) (by omega)
          have hlast : ∀ t9 c' d' w, c'.length ≤ i + 1 → Ins G x (i + 1) d' (c' ++ [y]) → Sat e w (DR t9 c' :: blk b 196 x.cs :: DR t5 G :: DR t6 ((l.take j).filter fun x => !openP t x) :: blk g 138 [.int .i64 fl, v] :: DR v l :: R) →
              ixS 9 t5 (.int .i64 (i : Int)) w fun t68 w => ldN 9 t68 w fun t69 w => bsl 196 9 1 (ints [0, 0, 0, 0, 0, 0, 0, 0, 0]).toArray [(0, t69)] w fun t70 w => apS prog #[136, 136] 136 t9 t70 w fun t71 w =>
                bi .add .i64 (.int .i64 (i : Int)) (Value.int IntKind.i64 1) w fun t47 w => g3 [t71, .bool d', t47] w := by
            intro t9 c' d' w hc' hins' h10
            refine ixS_rd h10 2 rfl (fun g hg => own_rd hg) (fun _ => rfl) hy fun p hp => ?_
            refine ldN_of h10 2 rfl hp rfl ?_
            refine push1 te_136 (f := Kept.cs) (fun _ => rfl) (fun _ => ints_flat _) h10 (x := y) rfl (by omega) fun v' w6 h11 => ?_
            refine inc_s (by omega) ?_
            exact hg3 _ _ _ _ _ (by omega) ⟨i + 1, d', c' ++ [y], by omega, rfl, rfl, rfl, hins', h11⟩
          refine dr_s h9 fun w7 h10 => ?_
          cases d with
          | true =>
            refine not_t (gd_ft (gd_ft (gd_ft (gd_ft (gd_ft (gd_ft (gd_ft (gd_ft (gd_ft (pk_f (iff_f ?_)))))))))))
            refine hlast _ c true _ hcl ⟨(fun h => by cases h), fun _ => ?_⟩ h10
            obtain ⟨p, y', hp, hy', hxy, hlo, rfl⟩ := hins.yes rfl
            refine ⟨p, y', by omega, hy', hxy, hlo, ?_⟩
            rw [take_snoc hy, List.drop_append_of_le_length (by rw [List.length_take]; omega)]
            simp
          | false =>
            obtain ⟨rfl, hlo⟩ := hins.no rfl
            refine not_f (gd_tt (fld_at (gd_tt (ldN_at h10 1 (vs := x.cause.cs) rfl (by rfl) rfl (gd_tt (gd_tt (gd_tt ?_)))))))
            refine ixS_rd h10 2 rfl (fun g hg => own_rd hg) (fun _ => rfl) hy fun p hp => ?_
            refine gd_tt (fld_of hp fun p1 hp1 => ?_)
            refine gd_tt (ldN_sub (us := y.cause.cs) h10 2 rfl hp1 (by rfl) rfl ?_)
            refine gd_tt (ref01_Cmp_s h10 fun w8 h11 => ?_)
            refine gd_tt (lt_c (fun c4 => pk_t (iff_t ?_)) (fun c4 => pk_t (iff_f ?_)))
            · refine ldN_at h11 1 (vs := x.cs) rfl (by rfl) rfl ?_
              refine push1 te_136 (f := Kept.cs) (fun _ => rfl) (fun _ => ints_flat _) h11 (x := x) rfl (by omega) fun v' w9 h12 => ?_
              refine hlast _ (G.take i ++ [x]) true _ (by rw [List.length_append, List.length_take]; simp; omega) ⟨(fun h => by cases h), fun _ => ⟨i, y, by omega, hy, decide_eq_true c4, hlo, ?_⟩⟩ h12
              rw [take_snoc hy, List.drop_append_of_le_length (by rw [List.length_take]; omega), List.drop_of_length_le (by rw [List.length_take]; omega)]
              simp
            · refine hlast _ (G.take i) false _ hcl ⟨fun _ => ⟨(take_snoc hy).symm, fun z hz => ?_⟩, fun h => by cases h⟩ h11
              rw [take_snoc hy] at hz
              rcases List.mem_append.1 hz with h | h
              · exact hlo z h
              · rw [List.mem_singleton.1 h]; exact decide_eq_false c4
        · obtain rfl : i = G.length := by omega
          cases d with
          | true =>
            refine not_t (iff_f (hcut _ _ _ ?_))
            rw [← hins.done hGa]
            exact h9.selR [_, _, _, _, _, _] [_, _, _, _] [0, 3, 4, 5] (by decide) rfl
          | false =>
            refine not_f (iff_t ?_)
            refine ldN_at h9 1 (vs := x.cs) rfl (by rfl) rfl ?_
            refine push1 te_136 (f := Kept.cs) (fun _ => rfl) (fun _ => ints_flat _) h9 (x := x) rfl (by omega) fun v' w9 h12 => ?_
            refine hcut _ _ _ ?_
            rw [← hins.push]
            exact h12.selR [_, _, _, _, _, _] [_, _, _, _] [0, 3, 4, 5] (by decide) rfl
    · refine inc_s (by omega) ?_
      exact hg _ _ _ _ _ (by omega) ⟨j + 1, by omega, rfl, rfl, h6⟩
  · obtain rfl : j = l.length := by omega
    rw [List.take_length] at h5
    have hfl := List.length_filter_le (openP t) l
    have hGl : (openR l t).length ≤ 1000000 := by unfold openR; rw [stab_length]; omega
    replace h5 : Sat e w (DR t5 (openR l t) :: DR t6 (openL l t) :: blk g 138 [.int .i64 fl, v] :: DR v l :: R) := h5
    generalize openR l t = G at h5 hGl hk
    refine bsl0 h5 Msg.cs fun v3 w6 h8 => ?_
    refine lpi2 (fun z t12 t13 w => ∃ i : Nat, i ≤ G.length ∧ t13 = .int .i64 i ∧ z = G.length - i ∧ Sat e w (ownS 37 6 Msg.cs t12 ((G.take i).map Kept.m) :: DR t5 G :: DR t6 (openL l t) :: blk g 138 [.int .i64 fl, v] :: DR v l :: R)) G.length
      ⟨0, Nat.zero_le _, rfl, rfl, h8⟩ ?_
    rintro z t12 _ w g6 ⟨i, hi, rfl, rfl, h9⟩ hg6
    refine lnS_rd h9 1 rfl (fun g hg => own_rd hg) ?_
    refine lt_c (fun c3 => iff_t ?_) (fun c3 => iff_f ?_)
    · obtain ⟨x, hx⟩ := get_of_lt (l := G) (j := i) (by omega)
      refine ixS_rd h9 1 rfl (fun g hg => own_rd hg) (fun _ => rfl) hx fun p hp => ?_
      refine fld_of hp fun p1 hp1 => ?_
      refine ldN_sub (us := x.m.cs) h9 1 rfl hp1 (by rfl) rfl ?_
      refine push1 te_33 (f := Msg.cs) (fun _ => rfl) (fun _ => ints_flat _) h9 (x := x.m) rfl (by simp; omega) fun v' w6 h8 => ?_
      refine inc_s (by omega) ?_
      refine hg6 _ _ _ _ (by omega) ⟨i + 1, by omega, rfl, rfl, ?_⟩
      rw [take_snoc hx, List.map_append]
      exact h8
    · obtain rfl : i = G.length := by omega
      rw [List.take_length] at h9
      refine ncP_p (fld_at ?_)
      refine st1_at h9 3 rfl (h9.own_cells 2 rfl) (Nat.le_of_ble_eq_true rfl) (cs' := [.int .i64 fl, t6]) rfl fun w7 h10 => ?_
      refine ncP_p (fld_at (ld1_at h10 3 rfl (v := .int .i64 fl) rfl ?_))
      refine max_s ?_
      refine ncP_p (fld_at ?_)
      refine stN_at h10 3 rfl (vs := [.int .i64 (max fl t)]) rfl rfl (Nat.le_of_ble_eq_true rfl) (by simp [flat]) (cs' := [.int .i64 (max fl t), t6]) rfl fun w8 h11 => ?_
      exact hk _ _ (Sat.swap (gateR_mk (h11.selR [_, _, _, _, _] [_, _, _] [3, 2, 0] (by decide) rfl)))
end Go.Proofs.YtbopajpmadlmhaaGreat
end
section
namespace Go.Proofs.YtbopajpmadlmhaaGreat
open Go Go.E
set_option maxRecDepth 100000
variable {e w : World} {L Q R : List HP} {K : KV} {S S2 : HP}

abbrev DE (v : Value) (xs : List EnX) : HP := ownS 113 10 EnX.cs v xs
theorem cloneE_s {v : Value} {l : List EnX} (i : Nat) (hi : L[i]? = some S) (hl : l.length ≤ 1000000) (hff : ∀ x ∈ l, flat x.ov = true) (hS : Sat e w L) (hr : ∀ g, S g → rdS 10 EnX.cs v l g)
    (hk : ∀ v' w', Sat e w' (DE v' l :: L) → K v' w') : Cl prog 120 #[v] w K := by
  refine slices_Clone_past_Entry_past_Entry_calls ?_
  unfold slices_Clone_past_Entry_past_Entry
  have h0 := hS.pick i hi
  obtain ⟨A, c, rfl, _⟩ := h0.shape 0 rfl hr
  cases A with
  | none =>
    refine ex_oV (w' := w) (v := .bool true) (by kernel_rfl) ?_
    obtain rfl := rd_nil h0 hr
    exact iff_t (hk _ _ (unpick hi (h0.own_nil 113 10 EnX.cs)))
  | some a =>
    refine ex_oV (w' := w) (v := .bool false) (by kernel_rfl) ?_
    refine iff_f ?_
    refine bsl0 h0 EnX.cs fun v1 w2 h2 => ?_
    refine apS_ownM te_115 und_115 (f := EnX.cs) (fun _ => rfl) (fun x hx => EnX.flat (hff x hx)) h2 hr (by simp; omega) fun v2 w3 h3 => ?_
    rw [List.nil_append] at h3
    exact hk _ _ (unpick hi h3)
theorem reverseE_s {v : Value} {xs : List EnX} (hl : xs.length ≤ 1000000) (hff : ∀ x ∈ xs, flat x.ov = true) (hS : Sat e w (DE v xs :: Q)) (hk : ∀ w', Sat e w' (DE v xs.reverse :: Q) → K (.tuple #[]) w') :
    Cl prog 173 #[v] w K := by
  refine slices_Reverse_past_Entry_past_Entry_calls ?_
  unfold slices_Reverse_past_Entry_past_Entry
  refine lnS_rd hS 0 rfl (fun g hg => own_rd hg) ?_
  refine sub_s (by omega) (by omega) ?_
  refine lpi2 (fun q t2 t3 w => ∃ (i : Nat) (l : List EnX), 2 * i ≤ xs.length ∧ t2 = .int .i64 i ∧ t3 = .int .i64 ((xs.length : Int) - 1 - i) ∧ q = xs.length - i ∧ l.length = xs.length ∧ (∀ p, p < xs.length → l[p]? = if p < i ∨ xs.length ≤ p + i then xs[xs.length - 1 - p]? else xs[p]?) ∧ Sat e w (DE v l :: Q)) xs.length
    ⟨0, xs, by omega, rfl, by rw [Int.natCast_zero, Int.sub_zero], rfl, rfl, fun p hp => by rw [if_neg (by omega)], hS⟩ ?_
  rintro q _ _ w g ⟨i, l, hi2, rfl, rfl, rfl, hl2, hget, h2⟩ hg
  refine lt_c (fun c => iff_t ?_) (fun c => iff_f ?_)
  · obtain ⟨j, hj⟩ : ∃ j : Nat, (xs.length : Int) - 1 - i = j := ⟨xs.length - 1 - i, by omega⟩
    rw [hj] at c ⊢
    have hij : i < j := by omega
    have hjl : j = xs.length - 1 - i := by omega
    have gi := hget i (by omega)
    have gj := hget j (by omega)
    rw [if_neg (by omega)] at gi gj
    obtain ⟨x, hx⟩ := get_of_lt (l := xs) (j := i) (by omega)
    obtain ⟨y, hy⟩ := get_of_lt (l := xs) (j := j) (by omega)
    rw [hx] at gi
    rw [hy] at gj
    have fx := hff x (List.mem_of_getElem? hx)
    have fy := hff y (List.mem_of_getElem? hy)
    refine dr_s h2 fun w3 h3 => ?_
    refine ixS_rd h3 0 rfl (fun g hg => own_rd hg) (fun _ => rfl) gj fun a ha => ldN_of h3 0 rfl ha rfl ?_
    refine ixS_rd h3 0 rfl (fun g hg => own_rd hg) (fun _ => rfl) gi fun a ha => ldN_of h3 0 rfl ha rfl ?_
    refine st_own' h3 0 rfl (fun _ => rfl) (by omega) (x := y) rfl (EnX.flat fy) fun w4 h4 => ?_
    refine st_own' h4 0 rfl (fun _ => rfl) (by rw [List.length_set]; omega) (x := x) rfl (EnX.flat fx) fun w5 h5 => ?_
    refine add_s (by omega) (by omega) (sub_s (by omega) (by omega) ?_)
    refine hg _ _ _ _ (by omega) ⟨i + 1, (l.set i y).set j x, by omega, by rw [Int.natCast_add]; rfl, by rw [← hj, Int.natCast_add]; congr 1; omega, rfl, by rw [List.length_set, List.length_set]; exact hl2, fun p hp => ?_, h5⟩
    rw [List.getElem?_set, List.getElem?_set]
    by_cases h1 : j = p
    · subst h1
      rw [if_pos rfl, if_pos (by rw [List.length_set]; omega), if_pos (by omega), show xs.length - 1 - j = i from by omega, hx]
    · rw [if_neg h1]
      by_cases h6 : i = p
      · subst h6
        rw [if_pos rfl, if_pos (by omega), if_pos (by omega), ← hjl, hy]
      · rw [if_neg h6, hget p hp]
        by_cases h7 : p < i ∨ xs.length ≤ p + i
        · rw [if_pos h7, if_pos (by omega)]
        · rw [if_neg h7, if_neg (by omega)]
  · have he : l = xs.reverse := by
      apply List.ext_getElem?
      intro p
      by_cases hp : p < xs.length
      · rw [hget p hp, List.getElem?_reverse hp]
        by_cases h7 : p < i ∨ xs.length ≤ p + i
        · rw [if_pos h7]
        · rw [if_neg h7]
          congr 1
          omega
      · rw [List.getElem?_eq_none (by omega), List.getElem?_eq_none (by rw [List.length_reverse]; omega)]
    rw [he] at h2
    exact hk _ h2
def keepE (k : Key) (l : List En) : List En := l.filter fun x => decide (KeyLt x.m.key k)
def goneL (k : Key) (l : List En) : List En := l.filter fun x => !decide (KeyLt x.m.key k)
def frontE (t : Int) (l : List En) : List En := l.filter fun x => decide (x.m.key.T < t)
def backE (t : Int) (l : List En) : List En := l.filter fun x => !decide (x.m.key.T < t)
theorem PastOk.sub {l l' : List En} (h : PastOk l) (s : l'.Sublist l) : PastOk l' := ⟨h.up.sublist s, Nat.le_trans s.length_le h.len, fun x hx => h.outs x (s.subset hx)⟩
theorem cut_en {P : En → Bool} {xs : List EnX} {l : List En} {m : Nat} (he : xs.map EnX.e = l) (h1 : ∀ x ∈ xs.take m, P x.e = true) (h2 : ∀ x ∈ xs.drop m, P x.e = false) :
    (xs.take m).map EnX.e = l.filter P ∧ (xs.drop m).map EnX.e = l.filter fun x => !P x := by
  subst he
  constructor
  · conv => rhs; rw [← List.take_append_drop m xs]
    rw [List.map_append, List.filter_append, List.filter_eq_self.2 fun x hx => by obtain ⟨y, hy, rfl⟩ := List.mem_map.1 hx; exact h1 y hy, List.filter_eq_nil_iff.2 fun x hx => by obtain ⟨y, hy, rfl⟩ := List.mem_map.1 hx; rw [h2 y hy]; decide, List.append_nil]
  · conv => rhs; rw [← List.take_append_drop m xs]
    rw [List.map_append, List.filter_append, List.filter_eq_nil_iff.2 fun x hx => by obtain ⟨y, hy, rfl⟩ := List.mem_map.1 hx; rw [h1 y hy]; decide, List.filter_eq_self.2 fun x hx => by obtain ⟨y, hy, rfl⟩ := List.mem_map.1 hx; rw [h2 y hy]; rfl, List.nil_append]
theorem up_at {xs : List EnX} {l : List En} (he : xs.map EnX.e = l) (hp : PastOk l) {i j : Nat} {x y : EnX} (hij : i ≤ j) (hx : xs[i]? = some x) (hy : xs[j]? = some y) : x = y ∨ KeyLt x.m.key y.m.key := by
  rcases Nat.eq_or_lt_of_le hij with rfl | hlt
  · rw [hx] at hy; exact .inl (Option.some.inj hy)
  · right
    subst he
    have h1 := List.pairwise_map.1 hp.up
    obtain ⟨hi', rfl⟩ := List.getElem?_eq_some_iff.1 hx
    obtain ⟨hj', rfl⟩ := List.getElem?_eq_some_iff.1 hy
    exact List.pairwise_iff_getElem.1 h1 i j hi' hj' hlt

theorem past_Back_s {p : Nat} {fl : Int} {l : List En} {k : Key} (hS : Sat e w (IsPast p fl l :: Q)) (hk : ∀ v w', Sat e w' (IsEns v (goneL k l).reverse :: IsPast p fl (keepE k l) :: Q) → K v w') :
    Cl prog 146 #[.pointer (some ⟨p, 0, none⟩), .agg k.cs.toArray] w K := by
  refine past_Past_Back_calls ?_
  unfold past_Past_Back
  obtain ⟨lv, xs, hp, h0⟩ := past_of hS
  have hxl : xs.length ≤ 64 := by have := hp.2.len; rw [← hp.1, List.length_map] at this; exact this
  have hfl : ∀ x ∈ xs, flat x.ov = true := fun x hx => en_flat 2 h0 rfl hx
  refine al_s (cs := k.cs) h0 rfl fun b w1 h1 => ?_
  refine ldN_at h1 0 (vs := k.cs) rfl (by rfl) rfl ?_
  refine many_s (P := fun x => decide (KeyLt x.m.key k)) hxl ⟨rfl, rfl⟩ (fun i j x y hij hx hy hP => ?_) (fun x w L K h hk => aheadF_s x k h hk) (h1.selR [_, _, _, _] [_, _, _, _] [1, 2, 3, 0] (by decide) rfl) fun m w2 hm hlo hhi h2 => ?_
  · rw [decide_eq_true_iff] at *
    rcases up_at hp.1 hp.2 hij hx hy with rfl | hlt
    · exact hP
    · exact hlt.trans hP
  obtain ⟨c1, c2⟩ := cut_en (P := fun x => decide (KeyLt x.m.key k)) hp.1 hlo hhi
  refine ncP_p (fld_at (ld1_at h2 0 rfl (v := lv) rfl ?_))
  refine slc_from h2 1 rfl (fun g hg => own_rd hg) (fun _ => rfl) hm fun v1 hv1 => ?_
  refine cloneE_s 1 rfl (by rw [List.length_drop]; omega) (fun x hx => hfl x (List.mem_of_mem_drop hx)) h2 hv1 fun v2 w3 h3 => ?_
  refine reverseE_s (by rw [List.length_drop]; omega) (fun x hx => hfl x (List.mem_of_mem_drop hx)) h3 fun w4 h4 => ?_
  refine ncP_p (fld_at (ld1_at h4 1 rfl (v := lv) rfl ?_))
  refine slc_own h4 2 rfl (fun _ => rfl) hm fun v3 h5 => ?_
  replace h5 : Sat e w4 (DE v2 (xs.drop m).reverse :: blk p 157 [.int .i64 fl, lv] :: DE v3 (xs.take m) :: sepL (xs.map eOwn) :: blk b 35 k.cs :: Q) := h5
  have q3 := h5.own_cells 2 rfl
  refine ncP_p (fld_at (stN_at h5 1 rfl (vs := [v3]) q3.1 rfl (Nat.le_of_ble_eq_true rfl) (fun c hc => by rw [List.mem_singleton.1 hc]; exact q3.2) (cs' := [.int .i64 fl, v3]) (by rfl) fun w5 h6 => ?_))
  replace h6 : Sat e w5 (DE v2 (xs.drop m).reverse :: blk p 157 [.int .i64 fl, v3] :: DE v3 (xs.take m) :: sepL (xs.map eOwn) :: blk b 35 k.cs :: Q) := h6
  rw [show xs.map eOwn = (xs.take m).map eOwn ++ (xs.drop m).map eOwn from by rw [← List.map_append, List.take_append_drop]] at h6
  have h7 := sepL_parts (h6.pick 3 rfl)
  have h8 := sepL_perm (b := (xs.drop m).reverse.map eOwn) (by rw [List.map_reverse]; exact (List.reverse_perm _).symm) h7.swap
  replace h8 : Sat e w5 (sepL ((xs.drop m).reverse.map eOwn) :: sepL ((xs.take m).map eOwn) :: DE v2 (xs.drop m).reverse :: blk p 157 [.int .i64 fl, v3] :: DE v3 (xs.take m) :: blk b 35 k.cs :: Q) := h8
  have h9 := past_mk (fl := fl) (lv := v3) (xs := xs.take m) (l := keepE k l) ⟨c1, hp.2.sub List.filter_sublist⟩ (h8.selR [_, _, _, _, _, _] [_, _, _, _, _] [3, 4, 1, 2, 0] (by decide) rfl)
  have h10 := ens_mk (v := v2) (xs := (xs.drop m).reverse) (h9.selR [_, _, _] [_, _, _] [1, 2, 0] (by decide) rfl)
  rw [show (xs.drop m).reverse.map EnX.e = (goneL k l).reverse from by rw [List.map_reverse, c2]; rfl] at h10
  exact hk _ _ h10
theorem past_Settle_s {p : Nat} {fl : Int} {l : List En} {t : Int} (hS : Sat e w (IsPast p fl l :: Q)) (hk : ∀ v w', Sat e w' (IsEns v (frontE t l) :: IsPast p (max fl t) (backE t l) :: Q) → K v w') :
    Cl prog 62 #[.pointer (some ⟨p, 0, none⟩), .int .i64 t] w K := by
  refine past_Past_Settle_calls ?_
  unfold past_Past_Settle
  obtain ⟨lv, xs, hp, h1⟩ := past_of hS
  have hxl : xs.length ≤ 64 := by have := hp.2.len; rw [← hp.1, List.length_map] at this; exact this
  have hfl : ∀ x ∈ xs, flat x.ov = true := fun x hx => en_flat 2 h1 rfl hx
  refine bld_s (ints [t, 0, 0]) (by kernel_rfl) ?_
  refine many_s (k := ⟨t, 0, 0⟩) (P := fun x => decide (x.m.key.T < t)) hxl ⟨rfl, rfl⟩ (fun i j x y hij hx hy hP => ?_) (fun x w L K h hk => earlyF_s x ⟨t, 0, 0⟩ h hk) h1 fun m w2 hm hlo hhi h2 => ?_
  · rw [decide_eq_true_iff] at *
    rcases up_at hp.1 hp.2 hij hx hy with rfl | hlt
    · exact hP
    · unfold KeyLt at hlt; omega
  obtain ⟨c1, c2⟩ := cut_en (P := fun x => decide (x.m.key.T < t)) hp.1 hlo hhi
  refine ncP_p (fld_at (ld1_at h2 0 rfl (v := lv) rfl ?_))
  refine slc_to h2 1 rfl (fun g hg => own_rd hg) (fun _ => rfl) hm fun v1 hv1 => ?_
  refine cloneE_s 1 rfl (by rw [List.length_take]; omega) (fun x hx => hfl x (List.mem_of_mem_take hx)) h2 hv1 fun v2 w3 h3 => ?_
  refine ncP_p (fld_at (ld1_at h3 1 rfl (v := lv) rfl ?_))
  refine slc_from h3 2 rfl (fun g hg => own_rd hg) (fun _ => rfl) hm fun v3 hv3 => ?_
  refine cloneE_s 2 rfl (by rw [List.length_drop]; omega) (fun x hx => hfl x (List.mem_of_mem_drop hx)) h3 hv3 fun v4 w4 h4 => ?_
  have q4 := h4.own_cells 0 rfl
  refine ncP_p (fld_at (stN_at h4 2 rfl (vs := [v4]) q4.1 rfl (Nat.le_of_ble_eq_true rfl) (fun c hc => by rw [List.mem_singleton.1 hc]; exact q4.2) (cs' := [.int .i64 fl, v4]) (by rfl) fun w5 h5 => ?_))
  refine ncP_p (fld_at (ld1_at h5 2 rfl (v := .int .i64 fl) rfl (max_s ?_)))
  refine ncP_p (fld_at (stN_at h5 2 rfl (vs := ints [max fl t]) rfl rfl (Nat.le_of_ble_eq_true rfl) (ints_flat _) (cs' := [.int .i64 (max fl t), v4]) (by rfl) fun w6 h6 => ?_))
  replace h6 : Sat e w6 (DE v4 (xs.drop m) :: DE v2 (xs.take m) :: blk p 157 [.int .i64 (max fl t), v4] :: DE lv xs :: sepL (xs.map eOwn) :: Q) := h6
  rw [show xs.map eOwn = (xs.take m).map eOwn ++ (xs.drop m).map eOwn from by rw [← List.map_append, List.take_append_drop]] at h6
  have h7 := sepL_parts (h6.pick 4 rfl)
  replace h7 : Sat e w6 (sepL ((xs.take m).map eOwn) :: sepL ((xs.drop m).map eOwn) :: DE v4 (xs.drop m) :: DE v2 (xs.take m) :: blk p 157 [.int .i64 (max fl t), v4] :: DE lv xs :: Q) := h7
  have h9 := past_mk (fl := max fl t) (lv := v4) (xs := xs.drop m) (l := backE t l) ⟨c2, hp.2.sub List.filter_sublist⟩ (h7.selR [_, _, _, _, _, _] [_, _, _, _, _] [4, 2, 1, 3, 0] (by decide) rfl)
  have h10 := ens_mk (v := v2) (xs := xs.take m) (h9.selR [_, _, _] [_, _, _] [1, 2, 0] (by decide) rfl)
  rw [c1] at h10
  exact hk _ _ h10
end Go.Proofs.YtbopajpmadlmhaaGreat
end
