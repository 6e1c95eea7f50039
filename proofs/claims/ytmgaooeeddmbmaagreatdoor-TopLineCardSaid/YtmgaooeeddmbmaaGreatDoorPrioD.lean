/- Queues: the heap's up and down, Push, Pop. Conditions: at most a thousand messages. Queues: the heap's Pop, Pop. Conditions: at most a thousand messages. Queues: up and down at any place, the heap's Remove. Conditions: at most a thousand messages. -/
import Derived.Test.YtmgaooeeddmbmaaGreatDoorPrioA
namespace Go.Proofs.YtmgaooeeddmbmaaGreatDoor
open Go Go.E
set_option maxRecDepth 100000
variable {e w : World} {R : List HP} {K : KV}

theorem quo_s {k : IntKind} {a b : Int} (hb : b ≠ 0) (h : K (.int k (k.wrap (a.tdiv b))) w) : bi .quo k (.int k a) (.int k b) w K := ⟨a, b, rfl, rfl, fun _ => hb, h⟩
theorem keyLE_trans {a b c : Key} (h : ¬ KeyLt a b) (k : ¬ KeyLt b c) : ¬ KeyLt a c := by
  intro hac
  rcases KeyLt.tri a b with h1 | h1 | h1
  · exact h h1
  · subst h1; exact k hac
  · exact k (h1.trans hac)
def Heapy (l : List Msg) (n : Nat) : Prop := ∀ (i : Nat) (x y : Msg), 0 < i → i < n → l[i]? = some x → l[(i - 1) / 2]? = some y → ¬ KeyLt x.key y.key
def UpInv (l : List Msg) (j : Nat) : Prop :=
  (∀ (i : Nat) (x y : Msg), 0 < i → i ≠ j → l[i]? = some x → l[(i - 1) / 2]? = some y → ¬ KeyLt x.key y.key) ∧
  ∀ (i : Nat) (x y : Msg), 0 < i → 0 < j → (i - 1) / 2 = j → l[i]? = some x → l[(j - 1) / 2]? = some y → ¬ KeyLt x.key y.key
def DownInv (l : List Msg) (j n : Nat) : Prop :=
  (∀ (i : Nat) (x y : Msg), 0 < i → i < n → (i - 1) / 2 ≠ j → l[i]? = some x → l[(i - 1) / 2]? = some y → ¬ KeyLt x.key y.key) ∧
  ∀ (i : Nat) (x y : Msg), 0 < i → i < n → 0 < j → (i - 1) / 2 = j → l[i]? = some x → l[(j - 1) / 2]? = some y → ¬ KeyLt x.key y.key
theorem Heapy.min {l : List Msg} {n : Nat} (h : Heapy l n) (hn : n ≤ l.length) {z : Msg} (hz : l[0]? = some z) : ∀ (i : Nat) (x : Msg), i < n → l[i]? = some x → ¬ KeyLt x.key z.key := by
  intro i
  induction i using Nat.strongRecOn with
  | _ i ih =>
    intro x hi hx
    by_cases h0 : i = 0
    · subst h0
      rw [hz] at hx
      injection hx with hx
      subst hx
      exact KeyLt.irrefl _
    · obtain ⟨y, hy⟩ := get_of_lt (l := l) (j := (i - 1) / 2) (by omega)
      exact keyLE_trans (h i x y (by omega) hi hx hy) (ih _ (by omega) y (by omega) hy)
theorem UpInv.done {l : List Msg} {j : Nat} (h : UpInv l j) (hj : j = 0 ∨ ∃ x y, l[j]? = some x ∧ l[(j - 1) / 2]? = some y ∧ ¬ KeyLt x.key y.key) : Heapy l l.length := by
  intro i x y hi _ hx hy
  by_cases hij : i = j
  · subst hij
    rcases hj with hj | ⟨x', y', hx', hy', hn⟩
    · omega
    · rw [hx] at hx'
      rw [hy] at hy'
      injection hx' with hx'
      injection hy' with hy'
      subst hx' hy'
      exact hn
  · exact h.1 i x y hi hij hx hy
theorem UpInv.step {l : List Msg} {j : Nat} {x y : Msg} (h : UpInv l j) (hj : 0 < j) (hx : l[j]? = some x) (hy : l[(j - 1) / 2]? = some y) (hlt : KeyLt x.key y.key) : UpInv (swapM l ((j - 1) / 2) j y x) ((j - 1) / 2) := by
  obtain ⟨h1, h2⟩ := h
  have hg := swapM_get (i := (j - 1) / 2) (k := j) hy hx
  constructor
  · intro i a b hi hij ha hb
    rw [hg] at ha hb
    by_cases e1 : i = j
    · subst e1
      rw [if_pos rfl] at ha
      rw [if_neg (by omega), if_pos rfl] at hb
      injection ha with ha
      injection hb with hb
      subst ha hb
      exact hlt.asymm
    · rw [if_neg e1, if_neg hij] at ha
      by_cases e2 : (i - 1) / 2 = j
      · rw [if_pos e2] at hb
        injection hb with hb
        subst hb
        exact h2 i a y hi hj e2 ha hy
      · rw [if_neg e2] at hb
        by_cases e3 : (i - 1) / 2 = (j - 1) / 2
        · rw [if_pos e3] at hb
          injection hb with hb
          subst hb
          have := h1 i a y hi e1 ha (by rw [e3]; exact hy)
          intro hax
          exact this (hax.trans hlt)
        · rw [if_neg e3] at hb
          exact h1 i a b hi e1 ha hb
  · intro i a b hi hp hpar ha hb
    rw [hg] at ha hb
    rw [if_neg (by omega), if_neg (by omega)] at hb
    have hyb := h1 ((j - 1) / 2) y b hp (by omega) hy hb
    by_cases e1 : i = j
    · rw [if_pos e1] at ha
      injection ha with ha
      subst ha
      exact hyb
    · rw [if_neg e1, if_neg (by omega)] at ha
      have := h1 i a y hi e1 ha (by rw [hpar]; exact hy)
      exact keyLE_trans this hyb

theorem up_s {q j0 : Nat} {room : Int} {l : List Msg} (hj : j0 < l.length) (hl : l.length ≤ 1001) (hS : Sat e w (IsPrio q room l :: R)) (hk : ∀ l' w', l'.Perm l → (UpInv l j0 → Heapy l' l'.length) → Sat e w' (IsPrio q room l' :: R) → K (.tuple #[]) w') :
    Cl prog 62 #[.iface 106 (rcv q), .int .i64 (j0 : Int)] w K := by
  refine heap_up_calls ?_
  unfold heap_up
  refine lpi1 (fun z t1 w => ∃ (j : Nat) (l' : List Msg), t1 = .int .i64 (j : Int) ∧ z = j ∧ j < l'.length ∧ l'.Perm l ∧ (UpInv l j0 → UpInv l' j) ∧ Sat e w (IsPrio q room l' :: R)) j0
    ⟨j0, l, rfl, rfl, hj, .refl _, id, hS⟩ ?_
  rintro j _ w g ⟨j', l', rfl, rfl, hjl, hp, hinv, h1⟩ hg
  have hlen := hp.length_eq
  refine sub_s (by omega) (by omega) (quo_s (by decide) ?_)
  by_cases h0 : j = 0
  · subst h0
    refine eq_t rfl (gd_tf (gd_tf (gd_tf (gd_tf (gd_tf (pk_t (iff_t (hk _ _ hp (fun hu => (hinv hu).done (.inl rfl)) h1))))))))
  · have e1 : IntKind.i64.wrap (((j : Int) - 1).tdiv 2) = (((j - 1) / 2 : Nat) : Int) := by
      rw [Int.tdiv_eq_ediv_of_nonneg (by omega), wrap_i64 (by omega) (by omega)]
      omega
    rw [e1]
    obtain ⟨x, hx⟩ := get_of_lt hjl
    obtain ⟨y, hy⟩ := get_of_lt (l := l') (j := (j - 1) / 2) (by omega)
    refine eq_f (by omega) (gd_ff (gd_ff (gd_ff (gd_ff ?_))))
    refine faced_Less_s hx hy h1 fun w2 h2 => ?_
    by_cases hlt : cmpK x.key y.key < 0
    · rw [decide_eq_true hlt]
      refine gd_ff (not_t (pk_f (iff_f ?_)))
      refine faced_Swap_s hy hx h2 fun w3 h3 => ?_
      refine hg _ _ _ (by omega) ⟨(j - 1) / 2, _, rfl, rfl, by rw [swapM_len]; omega, (swapM_perm hy hx).trans hp, fun hu => (hinv hu).step (by omega) hx hy (cmpK_lt.1 hlt), h3⟩
    · rw [decide_eq_false hlt]
      refine gd_ff (not_f (pk_f (iff_t (hk _ _ hp (fun hu => (hinv hu).done (.inr ⟨x, y, hx, hy, fun h => hlt (cmpK_lt.2 h)⟩)) h2))))

theorem DownInv.done {l : List Msg} {j n : Nat} (h : DownInv l j n) (hj : ∀ (i : Nat) (x y : Msg), 0 < i → i < n → (i - 1) / 2 = j → l[i]? = some x → l[j]? = some y → ¬ KeyLt x.key y.key) : Heapy l n := by
  intro i x y hi hn hx hy
  by_cases hij : (i - 1) / 2 = j
  · exact hj i x y hi hn hij hx (by rw [← hij]; exact hy)
  · exact h.1 i x y hi hn hij hx hy
/-- c is j's smallest child, and below it. -/
theorem DownInv.step {l : List Msg} {j c n : Nat} {x y : Msg} (h : DownInv l j n) (hc0 : 0 < c) (hcn : c < n) (hcj : (c - 1) / 2 = j) (hx : l[j]? = some x) (hy : l[c]? = some y) (hlt : KeyLt y.key x.key)
    (hmin : ∀ (i : Nat) (a : Msg), 0 < i → i < n → (i - 1) / 2 = j → l[i]? = some a → ¬ KeyLt a.key y.key) : DownInv (swapM l j c x y) c n := by
  obtain ⟨h1, h2⟩ := h
  have hg := swapM_get (i := j) (k := c) hx hy
  constructor
  · intro i a b hi hn hij ha hb
    rw [hg] at ha hb
    rw [if_neg hij] at hb
    by_cases e1 : i = c
    · subst e1
      rw [if_pos rfl] at ha
      rw [if_pos hcj] at hb
      injection ha with ha
      injection hb with hb
      subst ha hb
      exact hlt.asymm
    · rw [if_neg e1] at ha
      by_cases e2 : (i - 1) / 2 = j
      · rw [if_pos e2] at hb
        rw [if_neg (by omega)] at ha
        injection hb with hb
        subst hb
        exact hmin i a hi hn e2 ha
      · rw [if_neg e2] at hb
        by_cases e3 : i = j
        · rw [if_pos e3] at ha
          injection ha with ha
          subst ha
          subst e3
          exact h2 c y b hc0 hcn hi hcj hy hb
        · rw [if_neg e3] at ha
          exact h1 i a b hi hn e2 ha hb
  · intro i a b hi hn hc hpar ha hb
    rw [hg] at ha hb
    rw [if_neg (by omega), if_neg (by omega)] at ha
    rw [if_neg (by omega), if_pos hcj] at hb
    injection hb with hb
    subst hb
    exact h1 i a y hi hn (by omega) ha (by rw [hpar]; exact hy)

theorem down_s {q i0 n : Nat} {room : Int} {l : List Msg} (hn : n ≤ l.length) (hi0 : i0 ≤ n) (hl : l.length ≤ 1001) (hS : Sat e w (IsPrio q room l :: R))
    (hk : ∀ l' b w', l'.Perm l → (∀ i, n ≤ i → l'[i]? = l[i]?) → (DownInv l i0 n → Heapy l' n) → Sat e w' (IsPrio q room l' :: R) → K (.bool b) w') :
    Cl prog 69 #[.iface 106 (rcv q), .int .i64 (i0 : Int), .int .i64 (n : Int)] w K := by
  refine heap_down_calls ?_
  unfold heap_down
  refine J1.cut (fun t7 w => ∃ (i : Nat) (l' : List Msg), t7 = .int .i64 (i : Int) ∧ l'.Perm l ∧ (∀ i, n ≤ i → l'[i]? = l[i]?) ∧ (DownInv l i0 n → Heapy l' n) ∧ Sat e w (IsPrio q room l' :: R)) (fun k1 hcut => ?_) ?_
  · refine lpi1 (fun z t7 w => ∃ (j : Nat) (l' : List Msg), t7 = .int .i64 (j : Int) ∧ z = n - j ∧ j ≤ n ∧ l'.Perm l ∧ (∀ i, n ≤ i → l'[i]? = l[i]?) ∧ (DownInv l i0 n → DownInv l' j n) ∧ Sat e w (IsPrio q room l' :: R)) (n - i0)
      ⟨i0, l, rfl, rfl, hi0, .refl _, fun _ _ => rfl, id, hS⟩ ?_
    rintro z _ w g ⟨j, l', rfl, rfl, hjn, hp, htail, hinv, h1⟩ hg
    have hlen := hp.length_eq
    refine muln_s (a := 2) (by omega) (addn_s (b := 1) (by omega) ?_)
    refine ge_c (fun c1 => ?_) (fun c1 => ?_)
    · refine gd_tf (gd_tf (pk_t (iff_t (hcut _ _ ⟨j, l', rfl, hp, htail, fun hd => (hinv hd).done fun i x y hi hin hpar _ _ => ?_, h1⟩))))
      omega
    · refine gd_ff (gd_ff (lt_f (by omega) (pk_f (iff_f ?_))))
      refine addn_s (b := 1) (by omega) ?_
      obtain ⟨x, hx⟩ := get_of_lt (l := l') (j := j) (by omega)
      obtain ⟨y1, hy1⟩ := get_of_lt (l := l') (j := 2 * j + 1) (by omega)
      -- what is left where the smallest child is known
      have hrest : ∀ (c : Nat) (y : Msg) w', (c = 2 * j + 1 ∨ c = 2 * j + 1 + 1) → c < n → l'[c]? = some y → (∀ (i : Nat) (a : Msg), 0 < i → i < n → (i - 1) / 2 = j → l'[i]? = some a → ¬ KeyLt a.key y.key) → Sat e w' (IsPrio q room l' :: R) →
          clI prog (.iface 106 (rcv q)) "Less" #[.int .i64 (c : Int), .int .i64 (j : Int)] w' fun t38 w => bnot t38 w fun t39 w => iff' t39 (k1 (.int .i64 (j : Int)) w)
            (clI prog (.iface 106 (rcv q)) "Swap" #[.int .i64 (j : Int), .int .i64 (c : Int)] w fun _ w => g [.int .i64 (c : Int)] w) := by
        intro c y w' hc hcn hy hmin h2
        refine faced_Less_s hy hx h2 fun w3 h3 => ?_
        by_cases hlt : cmpK y.key x.key < 0
        · rw [decide_eq_true hlt]
          refine not_t (iff_f ?_)
          refine faced_Swap_s hx hy h3 fun w4 h4 => ?_
          refine hg _ _ _ (by omega) ⟨c, _, rfl, rfl, by omega, (swapM_perm hx hy).trans hp, fun i hi => ?_, fun hd => (hinv hd).step (by omega) hcn (by omega) hx hy (cmpK_lt.1 hlt) hmin, h4⟩
          rw [swapM_get hx hy, if_neg (by omega), if_neg (by omega)]
          exact htail i hi
        · rw [decide_eq_false hlt]
          refine not_f (iff_t (hcut _ _ ⟨j, l', rfl, hp, htail, fun hd => (hinv hd).done fun i a b hi hin hpar ha hb => ?_, h3⟩))
          rw [hx] at hb
          injection hb with hb
          subst hb
          exact keyLE_trans (hmin i a hi hin hpar ha) (fun h => hlt (cmpK_lt.2 h))
      refine lt_c (fun c2 => ?_) (fun c2 => ?_)
      · obtain ⟨y2, hy2⟩ := get_of_lt (l := l') (j := 2 * j + 1 + 1) (by omega)
        refine gd_tt (gd_tt (gd_tt (gd_tt ?_)))
        refine faced_Less_s hy2 hy1 h1 fun w2 h2 => ?_
        by_cases hlt : cmpK y2.key y1.key < 0
        · rw [decide_eq_true hlt]
          refine pk_t (iff_t ?_)
          refine hrest (2 * j + 1 + 1) y2 _ (.inr rfl) (by omega) hy2 (fun i a hi hin hpar ha => ?_) h2
          have : i = 2 * j + 1 ∨ i = 2 * j + 1 + 1 := by omega
          rcases this with rfl | rfl
          · rw [hy1] at ha; injection ha with ha; subst ha; exact (cmpK_lt.1 hlt).asymm
          · rw [hy2] at ha; injection ha with ha; subst ha; exact KeyLt.irrefl _
        · rw [decide_eq_false hlt]
          refine pk_t (iff_f ?_)
          refine hrest (2 * j + 1) y1 _ (.inl rfl) (by omega) hy1 (fun i a hi hin hpar ha => ?_) h2
          have : i = 2 * j + 1 ∨ i = 2 * j + 1 + 1 := by omega
          rcases this with rfl | rfl
          · rw [hy1] at ha; injection ha with ha; subst ha; exact KeyLt.irrefl _
          · rw [hy2] at ha; injection ha with ha; subst ha; exact fun h => hlt (cmpK_lt.2 h)
      · refine gd_ft (gd_ft (gd_ft (gd_ft (pk_f (iff_f ?_)))))
        refine hrest (2 * j + 1) y1 _ (.inl rfl) (by omega) hy1 (fun i a hi hin hpar ha => ?_) h1
        have : i = 2 * j + 1 := by omega
        subst this
        rw [hy1] at ha; injection ha with ha; subst ha; exact KeyLt.irrefl _
  · rintro _ w ⟨i, l', rfl, hp, htail, hd, h2⟩
    exact gt_d (hk _ _ _ hp htail hd h2)

theorem heapPush_s {q : Nat} {room : Int} {l : List Msg} {x : Msg} (hx : ∀ y ∈ l, y.key ≠ x.key) (hl : l.length ≤ 1000) (hS : Sat e w (IsPrio q room l :: R))
    (hk : ∀ l' w', l'.Perm (l ++ [x]) → (Heapy l l.length → Heapy l' l'.length) → Sat e w' (IsPrio q room l' :: R) → K (.tuple #[]) w') :
    Cl prog 46 #[.iface 106 (rcv q), .iface 42 (.agg x.cs.toArray)] w K := by
  refine heap_Push_calls ?_
  unfold heap_Push
  refine faced_Push_s hx hl hS fun w2 h2 => ?_
  refine faced_Len_s h2 fun w3 h3 => ?_
  have hlen : (l ++ [x]).length = l.length + 1 := by simp
  refine dec_s (by omega) (by omega) ?_
  refine up_s (by omega) (by omega) h3 fun l' w4 hp hu h4 => hk _ _ hp (fun hh => hu ⟨fun i a b hi hij ha hb => ?_, fun i a b hi hj hpar ha hb => ?_⟩) h4
  · have hil := (List.getElem?_eq_some_iff.1 ha).1
    rw [List.getElem?_append_left (by omega)] at ha hb
    exact hh i a b hi (by omega) ha hb
  · have hil := (List.getElem?_eq_some_iff.1 ha).1
    omega

def pushE (room : Int) (l : List Msg) (x : Msg) : Int := if (l.any fun y => decide (y.key = x.key)) = true then 3 else if room ≤ l.length then 2 else 0
theorem prio_Push_s {q : Nat} {room : Int} {l : List Msg} {x : Msg} (hl : l.length ≤ 1000) (hS : Sat e w (IsPrio q room l :: R))
    (hbad : pushE room l x ≠ 0 → ∀ w', Sat e w' (IsPrio q room l :: R) → K (.int .i64 (pushE room l x)) w')
    (hok : pushE room l x = 0 → (∀ y ∈ l, y.key ≠ x.key) → l.length < room → ∀ l' w', l'.Perm (l ++ [x]) → (Heapy l l.length → Heapy l' l'.length) → Sat e w' (IsPrio q room l' :: R) → K (.int .i64 0) w') :
    Cl prog 28 #[.pointer (some ⟨q, 0, none⟩), .agg x.cs.toArray] w K := by
  refine prio_Queue_Push_calls ?_
  unfold prio_Queue_Push
  obtain ⟨v, b, m, ha, h1⟩ := prio_of hS
  refine al_s (cs := x.cs) h1 rfl fun c w2 h2 => ?_
  refine dr_s h2 fun w3 h3 => ?_
  refine ncP_p (fld_at (ld1_at h3 1 rfl (v := .map (some b)) rfl ?_))
  refine fld_at (ldN_at h3 0 (vs := x.key.cs) rfl (by rfl) rfl ?_)
  refine lkM_s keyT_Key mapT_84 h3 3 rfl x.key ?_
  refine xt_02 (xt_12 ?_)
  have hany : (lkA m x.key).isSome = l.any fun y => decide (y.key = x.key) := by
    rw [Bool.eq_iff_iff, ha.has, List.any_eq_true]
    constructor
    · rintro ⟨y, hy, hk⟩; exact ⟨y, hy, by simpa using hk⟩
    · rintro ⟨y, hy, hk⟩; exact ⟨y, hy, by simpa using hk⟩
  rw [hany]
  cases hh : l.any fun y => decide (y.key = x.key) with
  | true =>
    have e1 : pushE room l x = 3 := if_pos hh
    have := hbad (by rw [e1]; decide) w3 (prio_mk ha h3.drop)
    rw [e1] at this
    exact iff_t this
  | false =>
    refine iff_f ?_
    refine dr_s h3 fun w4 h4 => ?_
    refine ncP_p (fld_at (ld1_at h4 1 rfl (v := v) rfl ?_))
    refine lnS_rd h4 2 rfl (fun g hg => own_rd hg) ?_
    refine ncP_p (fld_at (ld1_at h4 1 rfl (v := .int .i64 room) rfl ?_))
    have hno : ¬ (l.any fun y => decide (y.key = x.key)) = true := by rw [hh]; decide
    refine ge_c (fun c1 => iff_t ?_) (fun c1 => iff_f ?_)
    · have e1 : pushE room l x = 2 := by unfold pushE; rw [if_neg hno, if_pos c1]
      have := hbad (by rw [e1]; decide) w4 (prio_mk ha h4.drop)
      rw [e1] at this
      exact this
    · have e1 : pushE room l x = 0 := by unfold pushE; rw [if_neg hno, if_neg c1]
      rw [zero_106]
      refine bld_s [.pointer (some ⟨q, 0, none⟩)] (by kernel_rfl) ?_
      refine ldN_at h4 0 (vs := x.cs) rfl (by rfl) rfl ?_
      have hne : ∀ y ∈ l, y.key ≠ x.key := fun y hy hk => by
        rw [List.any_eq_false] at hh
        exact hh y hy (by simpa using hk)
      refine heapPush_s hne hl (prio_mk ha h4.drop) fun l' w5 hp hheap h5 => ?_
      exact hok e1 hne (by omega) l' w5 hp hheap h5
end Go.Proofs.YtmgaooeeddmbmaaGreatDoor
namespace Go.Proofs.YtmgaooeeddmbmaaGreatDoor
open Go Go.E
set_option maxRecDepth 100000
variable {e w : World} {R : List HP} {K : KV}

theorem AtOk.pop {m : List (Key × Nat)} {l : List Msg} {x : Msg} (h : AtOk m (l ++ [x])) : AtOk (dlA m x.key) l := by
  have hxl : (l ++ [x])[l.length]? = some x := by simp
  refine ⟨h.u.dl _, fun k i => ?_⟩
  rw [lkA_dl h.u]
  by_cases hk : k = x.key
  · rw [if_pos hk]
    constructor
    · intro hn; cases hn
    · rintro ⟨y, hy, hyk⟩
      have hil := (List.getElem?_eq_some_iff.1 hy).1
      have := h.inj (i := i) (j := l.length) (by rw [List.getElem?_append_left hil]; exact hy) hxl (by rw [hyk, hk])
      omega
  · rw [if_neg hk, h.ok k i]
    constructor
    · rintro ⟨y, hy, hyk⟩
      by_cases hil : i < l.length
      · rw [List.getElem?_append_left hil] at hy
        exact ⟨y, hy, hyk⟩
      · have hle := (List.getElem?_eq_some_iff.1 hy).1
        rw [List.length_append] at hle
        simp only [List.length_cons, List.length_nil] at hle
        rw [show i = l.length by omega, hxl] at hy
        injection hy with hy
        subst hy
        exact absurd hyk.symm hk
    · rintro ⟨y, hy, hyk⟩
      exact ⟨y, by rw [List.getElem?_append_left (List.getElem?_eq_some_iff.1 hy).1]; exact hy, hyk⟩

theorem faced_Pop_s {q : Nat} {room : Int} {l : List Msg} {x : Msg} (hl : l.length ≤ 1000) (hS : Sat e w (IsPrio q room (l ++ [x]) :: R)) (hk : ∀ w', Sat e w' (IsPrio q room l :: R) → K (.iface 42 (.agg x.cs.toArray)) w') :
    clI prog (.iface 106 (rcv q)) "Pop" #[] w K := by
  refine clI_s (f := 114) (rcv := rcv q) (by kernel_rfl) ?_
  refine prio_faced_Pop_calls (t0 := rcv q) ?_
  unfold prio_faced_Pop
  obtain ⟨v, b, m, ha, h1⟩ := prio_of hS
  have hlen : (l ++ [x]).length = l.length + 1 := by simp
  have hxl : (l ++ [x])[l.length]? = some x := by simp
  refine al_s (cs := [.pointer (some ⟨q, 0, none⟩)]) h1 rfl fun c w2 h2 => ?_
  refine fld_at (ld1_at h2 0 rfl (v := .pointer (some ⟨q, 0, none⟩)) rfl ?_)
  refine ncP_p (fld_at (ld1_at h2 1 rfl (v := v) rfl ?_))
  refine lnS_rd h2 2 rfl (fun g hg => own_rd hg) ?_
  rw [hlen]
  refine dec_s (by omega) (by omega) ?_
  rw [Nat.add_sub_cancel]
  refine fld_at (ld1_at h2 0 rfl (v := .pointer (some ⟨q, 0, none⟩)) rfl ?_)
  refine ncP_p (fld_at (ld1_at h2 1 rfl (v := v) rfl ?_))
  refine ixS_rd h2 2 rfl (fun g hg => own_rd hg) (fun _ => rfl) hxl fun p hp => ?_
  refine ldN_of h2 2 rfl hp rfl ?_
  rw [zero_42]
  refine al_s (cs := ints [0, 0, 0, 0, 0, 0]) h2 rfl fun d w3 h3 => ?_
  refine stN_at h3 0 rfl (vs := x.cs) rfl rfl (Nat.le_of_ble_eq_true rfl) (ints_flat _) (cs' := x.cs) (by kernel_rfl) fun w4 h4 => ?_
  refine dr_s h4 fun w5 h5 => ?_
  refine fld_at (ld1_at h5 1 rfl (v := .pointer (some ⟨q, 0, none⟩)) rfl ?_)
  refine fld_at (ld1_at h5 1 rfl (v := .pointer (some ⟨q, 0, none⟩)) rfl ?_)
  refine ncP_p (fld_at (ld1_at h5 2 rfl (v := v) rfl ?_))
  refine slc_own h5 3 rfl (fun _ => rfl) (hi := l.length) (by omega) fun v' h6 => ?_
  rw [List.take_left' rfl] at h6
  refine ncP_p (fld_at ?_)
  refine st1_at h6 2 rfl (h6.own_cells 3 rfl) (Nat.le_of_ble_eq_true rfl) (cs' := [.int .i64 room, v', .map (some b)]) rfl fun w7 h7 => ?_
  replace h7 : Sat e w7 (blk d 42 x.cs :: blk c 106 [.pointer (some ⟨q, 0, none⟩)] :: blk q 86 [.int .i64 room, v', .map (some b)] :: ownS 42 6 Msg.cs v' l :: isMap kfK vfN b m :: R) := h7
  refine dr_s h7 fun w8 h8 => ?_
  refine fld_at (ld1_at h8 1 rfl (v := .pointer (some ⟨q, 0, none⟩)) rfl ?_)
  refine ncP_p (fld_at (ld1_at h8 2 rfl (v := .map (some b)) rfl ?_))
  refine fld_at (ldN_at h8 0 (vs := x.key.cs) rfl (by rfl) rfl ?_)
  refine dlM_s keyT_Key mapT_84 (h8.pick 4 rfl) x.key fun w9 h9 => ?_
  refine ldN_at h9 1 (vs := x.cs) rfl (by rfl) rfl ?_
  exact hk _ (prio_mk ha.pop (h9.selR [_, _, _, _, _] [_, _, _] [3, 4, 0] (by decide) rfl))

theorem heapPop_s {q : Nat} {room : Int} {l : List Msg} {x : Msg} (hx : l[0]? = some x) (hl : l.length ≤ 1001) (hS : Sat e w (IsPrio q room l :: R))
    (hk : ∀ l' w', (l' ++ [x]).Perm l → (Heapy l l.length → Heapy l' l'.length) → Sat e w' (IsPrio q room l' :: R) → K (.iface 42 (.agg x.cs.toArray)) w') :
    Cl prog 53 #[.iface 106 (rcv q)] w K := by
  refine heap_Pop_calls ?_
  unfold heap_Pop
  have h0 := (List.getElem?_eq_some_iff.1 hx).1
  obtain ⟨n, hn⟩ : ∃ n, l.length = n + 1 := ⟨l.length - 1, by omega⟩
  obtain ⟨y, hy⟩ := get_of_lt (l := l) (j := n) (by omega)
  refine faced_Len_s hS fun w2 h2 => ?_
  rw [hn]
  refine dec_s (by omega) (by omega) ?_
  rw [Nat.add_sub_cancel]
  refine faced_Swap_s (i := 0) (k := n) hx hy h2 fun w3 h3 => ?_
  have hp1 := swapM_perm hx hy
  refine down_s (i0 := 0) (n := n) (by rw [swapM_len]; omega) (by omega) (by rw [swapM_len]; omega) h3 fun l2 bb w4 hp2 htail hd h4 => ?_
  have hl2 : l2.length = n + 1 := by rw [hp2.length_eq, swapM_len, hn]
  have hln : l2[n]? = some x := by rw [htail n (Nat.le_refl _), swapM_get hx hy, if_pos rfl]
  have hsp : l2 = l2.take n ++ [x] := by
    have := take_snoc hln
    rw [List.take_of_length_le (by omega)] at this
    exact this
  have hpf : (l2.take n ++ [x]).Perm l := by rw [← hsp]; exact hp2.trans hp1
  rw [hsp] at h4
  refine faced_Pop_s (by rw [List.length_take]; omega) h4 fun w5 h5 => hk _ _ hpf (fun hh => ?_) h5
  have hh2 := hd ⟨fun i a b hi hin hpar ha hb => ?_, fun i a b hi hin hj => by omega⟩
  · intro i a b hi hin ha hb
    rw [List.length_take] at hin
    rw [List.getElem?_take, if_pos (by omega)] at ha hb
    exact hh2 i a b hi (by omega) ha hb
  · rw [swapM_get hx hy, if_neg (by omega), if_neg (by omega)] at ha hb
    exact hh i a b hi (by omega) ha hb

theorem prio_Pop_none {q : Nat} {room : Int} (hS : Sat e w (IsPrio q room [] :: R)) (hk : ∀ w', Sat e w' (IsPrio q room [] :: R) → K (.tuple #[.agg Msg.zero.cs.toArray, .bool false]) w') : Cl prog 31 #[.pointer (some ⟨q, 0, none⟩)] w K := by
  refine prio_Queue_Pop_calls ?_
  unfold prio_Queue_Pop
  rw [zero_42]
  obtain ⟨v, b, m, ha, h1⟩ := prio_of hS
  refine al_s (cs := ints [0, 0, 0, 0, 0, 0]) h1 rfl fun d w3 h3 => ?_
  refine ncP_p (fld_at (ld1_at h3 1 rfl (v := v) rfl ?_))
  refine lnS_rd h3 2 rfl (fun g hg => own_rd hg) ?_
  refine eq_t rfl (iff_t ?_)
  refine bld_s Msg.zero.cs (by kernel_rfl) ?_
  refine stN_at h3 0 rfl (vs := Msg.zero.cs) rfl rfl (Nat.le_of_ble_eq_true rfl) (ints_flat _) (cs' := Msg.zero.cs) (by kernel_rfl) fun w4 h4 => ?_
  refine ldN_at h4 0 (vs := Msg.zero.cs) rfl (by rfl) rfl ?_
  exact hk _ (prio_mk ha h4.drop)
theorem prio_Pop_s {q : Nat} {room : Int} {l : List Msg} {x : Msg} (hx : l[0]? = some x) (hl : l.length ≤ 1001) (hS : Sat e w (IsPrio q room l :: R))
    (hk : ∀ l' w', (l' ++ [x]).Perm l → (Heapy l l.length → Heapy l' l'.length) → Sat e w' (IsPrio q room l' :: R) → K (.tuple #[.agg x.cs.toArray, .bool true]) w') : Cl prog 31 #[.pointer (some ⟨q, 0, none⟩)] w K := by
  refine prio_Queue_Pop_calls ?_
  unfold prio_Queue_Pop
  rw [zero_42, zero_106]
  obtain ⟨v, b, m, ha, h1⟩ := prio_of hS
  have h0 := (List.getElem?_eq_some_iff.1 hx).1
  refine al_s (cs := ints [0, 0, 0, 0, 0, 0]) h1 rfl fun d w3 h3 => ?_
  refine ncP_p (fld_at (ld1_at h3 1 rfl (v := v) rfl ?_))
  refine lnS_rd h3 2 rfl (fun g hg => own_rd hg) ?_
  refine eq_f (by omega) (iff_f ?_)
  refine bld_s [.pointer (some ⟨q, 0, none⟩)] (by kernel_rfl) ?_
  refine heapPop_s hx hl (prio_mk ha (h3.selR [_, _, _, _] [_, _, _, _] [1, 2, 3, 0] (by decide) rfl)) fun l' w4 hp hh h4 => ?_
  refine tyA_ok (by kernel_rfl) ?_
  refine stN_at h4 1 rfl (vs := x.cs) rfl rfl (Nat.le_of_ble_eq_true rfl) (ints_flat _) (cs' := x.cs) (by kernel_rfl) fun w5 h5 => ?_
  refine ldN_at h5 1 (vs := x.cs) rfl (by rfl) rfl ?_
  exact hk _ _ hp hh (h5.selR [_, _] [_] [0] (by decide) rfl)
end Go.Proofs.YtmgaooeeddmbmaaGreatDoor
namespace Go.Proofs.YtmgaooeeddmbmaaGreatDoor
open Go Go.E
set_option maxRecDepth 100000
variable {e w : World} {R : List HP} {K : KV}

def UpN (l : List Msg) (j n : Nat) : Prop :=
  (∀ (i : Nat) (x y : Msg), 0 < i → i < n → i ≠ j → l[i]? = some x → l[(i - 1) / 2]? = some y → ¬ KeyLt x.key y.key) ∧
  ∀ (i : Nat) (x y : Msg), 0 < i → i < n → 0 < j → (i - 1) / 2 = j → l[i]? = some x → l[(j - 1) / 2]? = some y → ¬ KeyLt x.key y.key
theorem UpN.done {l : List Msg} {j n : Nat} (h : UpN l j n) (hj : j = 0 ∨ ∃ x y, l[j]? = some x ∧ l[(j - 1) / 2]? = some y ∧ ¬ KeyLt x.key y.key) : Heapy l n := by
  intro i x y hi hin hx hy
  by_cases hij : i = j
  · subst hij
    rcases hj with hj | ⟨x', y', hx', hy', hn⟩
    · omega
    · rw [hx] at hx'
      rw [hy] at hy'
      injection hx' with hx'
      injection hy' with hy'
      subst hx' hy'
      exact hn
  · exact h.1 i x y hi hin hij hx hy
theorem UpN.step {l : List Msg} {j n : Nat} {x y : Msg} (h : UpN l j n) (hj : 0 < j) (hjn : j < n) (hx : l[j]? = some x) (hy : l[(j - 1) / 2]? = some y) (hlt : KeyLt x.key y.key) : UpN (swapM l ((j - 1) / 2) j y x) ((j - 1) / 2) n := by
  obtain ⟨h1, h2⟩ := h
  have hg := swapM_get (i := (j - 1) / 2) (k := j) hy hx
  constructor
  · intro i a b hi hin hij ha hb
    rw [hg] at ha hb
    by_cases e1 : i = j
    · subst e1
      rw [if_pos rfl] at ha
      rw [if_neg (by omega), if_pos rfl] at hb
      injection ha with ha
      injection hb with hb
      subst ha hb
      exact hlt.asymm
    · rw [if_neg e1, if_neg hij] at ha
      by_cases e2 : (i - 1) / 2 = j
      · rw [if_pos e2] at hb
        injection hb with hb
        subst hb
        exact h2 i a y hi hin hj e2 ha hy
      · rw [if_neg e2] at hb
        by_cases e3 : (i - 1) / 2 = (j - 1) / 2
        · rw [if_pos e3] at hb
          injection hb with hb
          subst hb
          have := h1 i a y hi hin e1 ha (by rw [e3]; exact hy)
          intro hax
          exact this (hax.trans hlt)
        · rw [if_neg e3] at hb
          exact h1 i a b hi hin e1 ha hb
  · intro i a b hi hin hp hpar ha hb
    rw [hg] at ha hb
    rw [if_neg (by omega), if_neg (by omega)] at hb
    have hyb := h1 ((j - 1) / 2) y b hp (by omega) (by omega) hy hb
    by_cases e1 : i = j
    · rw [if_pos e1] at ha
      injection ha with ha
      subst ha
      exact hyb
    · rw [if_neg e1, if_neg (by omega)] at ha
      have := h1 i a y hi hin e1 ha (by rw [hpar]; exact hy)
      exact keyLE_trans this hyb

theorem up2_s {q j0 n : Nat} {room : Int} {l : List Msg} (hj : j0 < n) (hn : n ≤ l.length) (hl : l.length ≤ 1001) (hS : Sat e w (IsPrio q room l :: R))
    (hk : ∀ l' w', l'.Perm l → (∀ i, n ≤ i → l'[i]? = l[i]?) → (UpN l j0 n → Heapy l' n) → Sat e w' (IsPrio q room l' :: R) → K (.tuple #[]) w') :
    Cl prog 62 #[.iface 106 (rcv q), .int .i64 (j0 : Int)] w K := by
  refine heap_up_calls ?_
  unfold heap_up
  refine lpi1 (fun z t1 w => ∃ (j : Nat) (l' : List Msg), t1 = .int .i64 (j : Int) ∧ z = j ∧ j < n ∧ l'.Perm l ∧ (∀ i, n ≤ i → l'[i]? = l[i]?) ∧ (UpN l j0 n → UpN l' j n) ∧ Sat e w (IsPrio q room l' :: R)) j0
    ⟨j0, l, rfl, rfl, hj, .refl _, fun _ _ => rfl, id, hS⟩ ?_
  rintro j _ w g ⟨j', l', rfl, rfl, hjn, hp, htail, hinv, h1⟩ hg
  have hlen := hp.length_eq
  refine sub_s (by omega) (by omega) (quo_s (by decide) ?_)
  by_cases h0 : j = 0
  · subst h0
    refine eq_t rfl (gd_tf (gd_tf (gd_tf (gd_tf (gd_tf (pk_t (iff_t (hk _ _ hp htail (fun hu => (hinv hu).done (.inl rfl)) h1))))))))
  · have e1 : IntKind.i64.wrap (((j : Int) - 1).tdiv 2) = (((j - 1) / 2 : Nat) : Int) := by
      rw [Int.tdiv_eq_ediv_of_nonneg (by omega), wrap_i64 (by omega) (by omega)]
      omega
    rw [e1]
    obtain ⟨x, hx⟩ := get_of_lt (l := l') (j := j) (by omega)
    obtain ⟨y, hy⟩ := get_of_lt (l := l') (j := (j - 1) / 2) (by omega)
    refine eq_f (by omega) (gd_ff (gd_ff (gd_ff (gd_ff ?_))))
    refine faced_Less_s hx hy h1 fun w2 h2 => ?_
    by_cases hlt : cmpK x.key y.key < 0
    · rw [decide_eq_true hlt]
      refine gd_ff (not_t (pk_f (iff_f ?_)))
      refine faced_Swap_s hy hx h2 fun w3 h3 => ?_
      refine hg _ _ _ (by omega) ⟨(j - 1) / 2, _, rfl, rfl, by omega, (swapM_perm hy hx).trans hp, fun i hi => ?_, fun hu => (hinv hu).step (by omega) hjn hx hy (cmpK_lt.1 hlt), h3⟩
      rw [swapM_get hy hx, if_neg (by omega), if_neg (by omega)]
      exact htail i hi
    · rw [decide_eq_false hlt]
      refine gd_ff (not_f (pk_f (iff_t (hk _ _ hp htail (fun hu => (hinv hu).done (.inr ⟨x, y, hx, hy, fun h => hlt (cmpK_lt.2 h)⟩)) h2))))

/-- All but at j; and j's children are not below j's parent. -/
def Hole (l : List Msg) (j n : Nat) : Prop :=
  (∀ (i : Nat) (x y : Msg), 0 < i → i < n → i ≠ j → (i - 1) / 2 ≠ j → l[i]? = some x → l[(i - 1) / 2]? = some y → ¬ KeyLt x.key y.key) ∧
  ∀ (i : Nat) (x y : Msg), 0 < i → i < n → 0 < j → (i - 1) / 2 = j → l[i]? = some x → l[(j - 1) / 2]? = some y → ¬ KeyLt x.key y.key
theorem Hole.step {l : List Msg} {j c n : Nat} {x y : Msg} (h : Hole l j n) (hc0 : 0 < c) (hcn : c < n) (hcj : (c - 1) / 2 = j) (hx : l[j]? = some x) (hy : l[c]? = some y) (hlt : KeyLt y.key x.key)
    (hmin : ∀ (i : Nat) (a : Msg), 0 < i → i < n → (i - 1) / 2 = j → l[i]? = some a → ¬ KeyLt a.key y.key) : DownInv (swapM l j c x y) c n := by
  obtain ⟨h1, h2⟩ := h
  have hg := swapM_get (i := j) (k := c) hx hy
  constructor
  · intro i a b hi hn hij ha hb
    rw [hg] at ha hb
    rw [if_neg hij] at hb
    by_cases e1 : i = c
    · subst e1
      rw [if_pos rfl] at ha
      rw [if_pos hcj] at hb
      injection ha with ha
      injection hb with hb
      subst ha hb
      exact hlt.asymm
    · rw [if_neg e1] at ha
      by_cases e2 : (i - 1) / 2 = j
      · rw [if_pos e2] at hb
        rw [if_neg (by omega)] at ha
        injection hb with hb
        subst hb
        exact hmin i a hi hn e2 ha
      · rw [if_neg e2] at hb
        by_cases e3 : i = j
        · rw [if_pos e3] at ha
          injection ha with ha
          subst ha
          subst e3
          exact h2 c y b hc0 hcn hi hcj hy hb
        · rw [if_neg e3] at ha
          exact h1 i a b hi hn e3 e2 ha hb
  · intro i a b hi hn hc hpar ha hb
    rw [hg] at ha hb
    rw [if_neg (by omega), if_neg (by omega)] at ha
    rw [if_neg (by omega), if_pos hcj] at hb
    injection hb with hb
    subst hb
    exact h1 i a y hi hn (by omega) (by omega) ha (by rw [hpar]; exact hy)

theorem down2_s {q i0 n : Nat} {room : Int} {l : List Msg} (hn : n ≤ l.length) (hi0 : i0 ≤ n) (hl : l.length ≤ 1001) (hS : Sat e w (IsPrio q room l :: R))
    (hk0 : (∀ (i : Nat) (x y : Msg), 0 < i → i < n → (i - 1) / 2 = i0 → l[i]? = some x → l[i0]? = some y → ¬ KeyLt x.key y.key) → ∀ w', Sat e w' (IsPrio q room l :: R) → K (.bool false) w')
    (hk : ∀ l' w', l'.Perm l → (∀ i, n ≤ i → l'[i]? = l[i]?) → (Hole l i0 n → Heapy l' n) → Sat e w' (IsPrio q room l' :: R) → K (.bool true) w') :
    Cl prog 69 #[.iface 106 (rcv q), .int .i64 (i0 : Int), .int .i64 (n : Int)] w K := by
  refine heap_down_calls ?_
  unfold heap_down
  refine J1.cut (fun t7 w => ∃ (i : Nat) (l' : List Msg), t7 = .int .i64 (i : Int) ∧ i0 ≤ i ∧ l'.Perm l ∧ (∀ i, n ≤ i → l'[i]? = l[i]?) ∧ (i = i0 → l' = l ∧ ∀ (i : Nat) (x y : Msg), 0 < i → i < n → (i - 1) / 2 = i0 → l[i]? = some x → l[i0]? = some y → ¬ KeyLt x.key y.key) ∧
      (i0 < i → Hole l i0 n → Heapy l' n) ∧ Sat e w (IsPrio q room l' :: R)) (fun k1 hcut => ?_) ?_
  · refine lpi1 (fun z t7 w => ∃ (j : Nat) (l' : List Msg), t7 = .int .i64 (j : Int) ∧ z = n - j ∧ i0 ≤ j ∧ j ≤ n ∧ l'.Perm l ∧ (∀ i, n ≤ i → l'[i]? = l[i]?) ∧ (j = i0 → l' = l) ∧ (i0 < j → Hole l i0 n → DownInv l' j n) ∧ Sat e w (IsPrio q room l' :: R)) (n - i0)
      ⟨i0, l, rfl, rfl, Nat.le_refl _, hi0, .refl _, fun _ _ => rfl, fun _ => rfl, (fun h => absurd h (Nat.lt_irrefl _)), hS⟩ ?_
    rintro z _ w g ⟨j, l', rfl, rfl, hij, hjn, hp, htail, hsame, hinv, h1⟩ hg
    have hlen := hp.length_eq
    refine muln_s (a := 2) (by omega) (addn_s (b := 1) (by omega) ?_)
    -- where j's children are not below it
    have hend : ∀ w', (∀ (i : Nat) (x y : Msg), 0 < i → i < n → (i - 1) / 2 = j → l'[i]? = some x → l'[j]? = some y → ¬ KeyLt x.key y.key) → Sat e w' (IsPrio q room l' :: R) → k1 (.int .i64 (j : Int)) w' := by
      intro w' hch h
      refine hcut _ _ ⟨j, l', rfl, hij, hp, htail, fun e => ⟨hsame e, ?_⟩, fun hlt hh => (hinv hlt hh).done hch, h⟩
      subst e
      have := hsame rfl
      subst this
      exact hch
    refine ge_c (fun c1 => ?_) (fun c1 => ?_)
    · refine gd_tf (gd_tf (pk_t (iff_t (hend _ (fun i x y hi hin hpar _ _ => ?_) h1))))
      omega
    · refine gd_ff (gd_ff (lt_f (by omega) (pk_f (iff_f ?_))))
      refine addn_s (b := 1) (by omega) ?_
      obtain ⟨x, hx⟩ := get_of_lt (l := l') (j := j) (by omega)
      obtain ⟨y1, hy1⟩ := get_of_lt (l := l') (j := 2 * j + 1) (by omega)
      have hrest : ∀ (c : Nat) (y : Msg) w', (c = 2 * j + 1 ∨ c = 2 * j + 1 + 1) → c < n → l'[c]? = some y → (∀ (i : Nat) (a : Msg), 0 < i → i < n → (i - 1) / 2 = j → l'[i]? = some a → ¬ KeyLt a.key y.key) → Sat e w' (IsPrio q room l' :: R) →
          clI prog (.iface 106 (rcv q)) "Less" #[.int .i64 (c : Int), .int .i64 (j : Int)] w' fun t38 w => bnot t38 w fun t39 w => iff' t39 (k1 (.int .i64 (j : Int)) w)
            (clI prog (.iface 106 (rcv q)) "Swap" #[.int .i64 (j : Int), .int .i64 (c : Int)] w fun _ w => g [.int .i64 (c : Int)] w) := by
        intro c y w' hc hcn hy hmin h2
        refine faced_Less_s hy hx h2 fun w3 h3 => ?_
        by_cases hlt : cmpK y.key x.key < 0
        · rw [decide_eq_true hlt]
          refine not_t (iff_f ?_)
          refine faced_Swap_s hx hy h3 fun w4 h4 => ?_
          refine hg _ _ _ (by omega) ⟨c, _, rfl, rfl, by omega, by omega, (swapM_perm hx hy).trans hp, fun i hi => ?_, fun e => by omega, fun _ hh => ?_, h4⟩
          · rw [swapM_get hx hy, if_neg (by omega), if_neg (by omega)]
            exact htail i hi
          · by_cases hj0 : j = i0
            · subst hj0
              have := hsame rfl
              subst this
              exact hh.step (by omega) hcn (by omega) hx hy (cmpK_lt.1 hlt) hmin
            · exact (hinv (by omega) hh).step (by omega) hcn (by omega) hx hy (cmpK_lt.1 hlt) hmin
        · rw [decide_eq_false hlt]
          refine not_f (iff_t (hend _ (fun i a b hi hin hpar ha hb => ?_) h3))
          rw [hx] at hb
          injection hb with hb
          subst hb
          exact keyLE_trans (hmin i a hi hin hpar ha) (fun h => hlt (cmpK_lt.2 h))
      refine lt_c (fun c2 => ?_) (fun c2 => ?_)
      · obtain ⟨y2, hy2⟩ := get_of_lt (l := l') (j := 2 * j + 1 + 1) (by omega)
        refine gd_tt (gd_tt (gd_tt (gd_tt ?_)))
        refine faced_Less_s hy2 hy1 h1 fun w2 h2 => ?_
        by_cases hlt : cmpK y2.key y1.key < 0
        · rw [decide_eq_true hlt]
          refine pk_t (iff_t ?_)
          refine hrest (2 * j + 1 + 1) y2 _ (.inr rfl) (by omega) hy2 (fun i a hi hin hpar ha => ?_) h2
          have : i = 2 * j + 1 ∨ i = 2 * j + 1 + 1 := by omega
          rcases this with rfl | rfl
          · rw [hy1] at ha; injection ha with ha; subst ha; exact (cmpK_lt.1 hlt).asymm
          · rw [hy2] at ha; injection ha with ha; subst ha; exact KeyLt.irrefl _
        · rw [decide_eq_false hlt]
          refine pk_t (iff_f ?_)
          refine hrest (2 * j + 1) y1 _ (.inl rfl) (by omega) hy1 (fun i a hi hin hpar ha => ?_) h2
          have : i = 2 * j + 1 ∨ i = 2 * j + 1 + 1 := by omega
          rcases this with rfl | rfl
          · rw [hy1] at ha; injection ha with ha; subst ha; exact KeyLt.irrefl _
          · rw [hy2] at ha; injection ha with ha; subst ha; exact fun h => hlt (cmpK_lt.2 h)
      · refine gd_ft (gd_ft (gd_ft (gd_ft (pk_f (iff_f ?_)))))
        refine hrest (2 * j + 1) y1 _ (.inl rfl) (by omega) hy1 (fun i a hi hin hpar ha => ?_) h1
        have : i = 2 * j + 1 := by omega
        subst this
        rw [hy1] at ha; injection ha with ha; subst ha; exact KeyLt.irrefl _
  · rintro _ w ⟨i, l', rfl, hii, hp, htail, hsame, hd, h2⟩
    refine gt_c (fun c => ?_) (fun c => ?_)
    · exact hk l' _ hp htail (hd (by omega)) h2
    · have : i = i0 := by omega
      obtain ⟨hs1, hs2⟩ := hsame this
      subst hs1
      exact hk0 hs2 _ h2

theorem prio_First_none {q : Nat} {room : Int} (hS : Sat e w (IsPrio q room [] :: R)) (hk : ∀ w', Sat e w' (IsPrio q room [] :: R) → K (.tuple #[.agg Msg.zero.cs.toArray, .bool false]) w') : Cl prog 45 #[.pointer (some ⟨q, 0, none⟩)] w K := by
  refine prio_Queue_First_calls ?_
  unfold prio_Queue_First
  rw [zero_42]
  obtain ⟨v, b, m, ha, h1⟩ := prio_of hS
  refine al_s (cs := ints [0, 0, 0, 0, 0, 0]) h1 rfl fun d w3 h3 => ?_
  refine ncP_p (fld_at (ld1_at h3 1 rfl (v := v) rfl ?_))
  refine lnS_rd h3 2 rfl (fun g hg => own_rd hg) ?_
  refine eq_t rfl (iff_t ?_)
  refine bld_s Msg.zero.cs (by kernel_rfl) ?_
  refine stN_at h3 0 rfl (vs := Msg.zero.cs) rfl rfl (Nat.le_of_ble_eq_true rfl) (ints_flat _) (cs' := Msg.zero.cs) (by kernel_rfl) fun w4 h4 => ?_
  refine ldN_at h4 0 (vs := Msg.zero.cs) rfl (by rfl) rfl ?_
  exact hk _ (prio_mk ha h4.drop)
theorem prio_First_s {q : Nat} {room : Int} {l : List Msg} {x : Msg} (hx : l[0]? = some x) (hS : Sat e w (IsPrio q room l :: R))
    (hk : ∀ w', Sat e w' (IsPrio q room l :: R) → K (.tuple #[.agg x.cs.toArray, .bool true]) w') : Cl prog 45 #[.pointer (some ⟨q, 0, none⟩)] w K := by
  refine prio_Queue_First_calls ?_
  unfold prio_Queue_First
  rw [zero_42]
  obtain ⟨v, b, m, ha, h1⟩ := prio_of hS
  have h0 := (List.getElem?_eq_some_iff.1 hx).1
  refine al_s (cs := ints [0, 0, 0, 0, 0, 0]) h1 rfl fun d w3 h3 => ?_
  refine ncP_p (fld_at (ld1_at h3 1 rfl (v := v) rfl ?_))
  refine lnS_rd h3 2 rfl (fun g hg => own_rd hg) ?_
  refine eq_f (by omega) (iff_f ?_)
  refine ncP_p (fld_at (ld1_at h3 1 rfl (v := v) rfl ?_))
  refine ixS_rd (j := 0) h3 2 rfl (fun g hg => own_rd hg) (fun _ => rfl) hx fun p hp => ?_
  refine ldN_of h3 2 rfl hp rfl ?_
  refine stN_at h3 0 rfl (vs := x.cs) rfl rfl (Nat.le_of_ble_eq_true rfl) (ints_flat _) (cs' := x.cs) (by kernel_rfl) fun w4 h4 => ?_
  refine ldN_at h4 0 (vs := x.cs) rfl (by rfl) rfl ?_
  exact hk _ (prio_mk ha h4.drop)
end Go.Proofs.YtmgaooeeddmbmaaGreatDoor
