/- Queues: up and down at any place, the heap's Remove. Conditions: at most a thousand messages. -/
import Derived.Test.YtenglfaeohgkfaaPrioC
namespace Go.Proofs.Ytenglfaeohgkfaa
open Go Go.E
set_option maxRecDepth 100000
variable {e w : World} {R : List HP} {K : KV}

def UpN (l : List Msg) (j n : Nat) : Prop :=
  (∀ (i : Nat) (x y : Msg), 0 < i → i < n → i ≠ j → l[i]? = some x → l[(i - 1) / 2]? = some y → ¬ KeyLt x.key y.key) ∧
  ∀ (i : Nat) (x y : Msg), 0 < i → i < n → 0 < j → (i - 1) / 2 = j → l[i]? = some x → l[(j - 1) / 2]? = some y → ¬ KeyLt x.key y.key
theorem UpN.done {l : List Msg} {j n : Nat} (h : UpN l j n) (hj : j = 0 ∨ ∃ x y, l[j]? = some x ∧ l[(j - 1) / 2]? = some y ∧ ¬ KeyLt x.key y.key) : Heapy l n := by
  intro i x y hi hin hx hy
  by_cases hij : i = j
  · subst hij
    rcases hj with hj | ⟨x', y', hx', hy', hn⟩
    · omega
    · rw [hx] at hx'
      rw [hy] at hy'
      injection hx' with hx'
      injection hy' with hy'
      subst hx' hy'
      exact hn
  · exact h.1 i x y hi hin hij hx hy
theorem UpN.step {l : List Msg} {j n : Nat} {x y : Msg} (h : UpN l j n) (hj : 0 < j) (hjn : j < n) (hx : l[j]? = some x) (hy : l[(j - 1) / 2]? = some y) (hlt : KeyLt x.key y.key) : UpN (swapM l ((j - 1) / 2) j y x) ((j - 1) / 2) n := by
  obtain ⟨h1, h2⟩ := h
  have hg := swapM_get (i := (j - 1) / 2) (k := j) hy hx
  constructor
  · intro i a b hi hin hij ha hb
    rw [hg] at ha hb
    by_cases e1 : i = j
    · subst e1
      rw [if_pos rfl] at ha
      rw [if_neg (by omega), if_pos rfl] at hb
      injection ha with ha
      injection hb with hb
      subst ha hb
      exact hlt.asymm
    · rw [if_neg e1, if_neg hij] at ha
      by_cases e2 : (i - 1) / 2 = j
      · rw [if_pos e2] at hb
        injection hb with hb
        subst hb
        exact h2 i a y hi hin hj e2 ha hy
      · rw [if_neg e2] at hb
        by_cases e3 : (i - 1) / 2 = (j - 1) / 2
        · rw [if_pos e3] at hb
          injection hb with hb
          subst hb
          have := h1 i a y hi hin e1 ha (by rw [e3]; exact hy)
          intro hax
          exact this (hax.trans hlt)
        · rw [if_neg e3] at hb
          exact h1 i a b hi hin e1 ha hb
  · intro i a b hi hin hp hpar ha hb
    rw [hg] at ha hb
    rw [if_neg (by omega), if_neg (by omega)] at hb
    have hyb := h1 ((j - 1) / 2) y b hp (by omega) (by omega) hy hb
    by_cases e1 : i = j
    · rw [if_pos e1] at ha
      injection ha with ha
      subst ha
      exact hyb
    · rw [if_neg e1, if_neg (by omega)] at ha
      have := h1 i a y hi hin e1 ha (by rw [hpar]; exact hy)
      exact keyLE_trans this hyb

theorem up2_s {q j0 n : Nat} {room : Int} {l : List Msg} (hj : j0 < n) (hn : n ≤ l.length) (hl : l.length ≤ 1001) (hS : Sat e w (IsPrio q room l :: R))
    (hk : ∀ l' w', l'.Perm l → (∀ i, n ≤ i → l'[i]? = l[i]?) → (UpN l j0 n → Heapy l' n) → Sat e w' (IsPrio q room l' :: R) → K (.tuple #[]) w') :
    Cl prog 64 #[.iface 109 (rcv q), .int .i64 (j0 : Int)] w K := by
  refine heap_up_calls ?_
  unfold heap_up
  refine lpi1 (fun z t1 w => ∃ (j : Nat) (l' : List Msg), t1 = .int .i64 (j : Int) ∧ z = j ∧ j < n ∧ l'.Perm l ∧ (∀ i, n ≤ i → l'[i]? = l[i]?) ∧ (UpN l j0 n → UpN l' j n) ∧ Sat e w (IsPrio q room l' :: R)) j0
    ⟨j0, l, rfl, rfl, hj, .refl _, fun _ _ => rfl, id, hS⟩ ?_
  rintro j _ w g ⟨j', l', rfl, rfl, hjn, hp, htail, hinv, h1⟩ hg
  have hlen := hp.length_eq
  refine sub_s (by omega) (by omega) (quo_s (by decide) ?_)
  by_cases h0 : j = 0
  · subst h0
    refine eq_t rfl (gd_tf (gd_tf (gd_tf (gd_tf (gd_tf (pk_t (iff_t (hk _ _ hp htail (fun hu => (hinv hu).done (.inl rfl)) h1))))))))
  · have e1 : IntKind.i64.wrap (((j : Int) - 1).tdiv 2) = (((j - 1) / 2 : Nat) : Int) := by
      rw [Int.tdiv_eq_ediv_of_nonneg (by omega), wrap_i64 (by omega) (by omega)]
      omega
    rw [e1]
    obtain ⟨x, hx⟩ := get_of_lt (l := l') (j := j) (by omega)
    obtain ⟨y, hy⟩ := get_of_lt (l := l') (j := (j - 1) / 2) (by omega)
    refine eq_f (by omega) (gd_ff (gd_ff (gd_ff (gd_ff ?_))))
    refine faced_Less_s hx hy h1 fun w2 h2 => ?_
    by_cases hlt : cmpK x.key y.key < 0
    · rw [decide_eq_true hlt]
      refine gd_ff (not_t (pk_f (iff_f ?_)))
      refine faced_Swap_s hy hx h2 fun w3 h3 => ?_
      refine hg _ _ _ (by omega) ⟨(j - 1) / 2, _, rfl, rfl, by omega, (swapM_perm hy hx).trans hp, fun i hi => ?_, fun hu => (hinv hu).step (by omega) hjn hx hy (cmpK_lt.1 hlt), h3⟩
      rw [swapM_get hy hx, if_neg (by omega), if_neg (by omega)]
      exact htail i hi
    · rw [decide_eq_false hlt]
      refine gd_ff (not_f (pk_f (iff_t (hk _ _ hp htail (fun hu => (hinv hu).done (.inr ⟨x, y, hx, hy, fun h => hlt (cmpK_lt.2 h)⟩)) h2))))

/-- All but at j; and j's children are not below j's parent. -/
def Hole (l : List Msg) (j n : Nat) : Prop :=
  (∀ (i : Nat) (x y : Msg), 0 < i → i < n → i ≠ j → (i - 1) / 2 ≠ j → l[i]? = some x → l[(i - 1) / 2]? = some y → ¬ KeyLt x.key y.key) ∧
  ∀ (i : Nat) (x y : Msg), 0 < i → i < n → 0 < j → (i - 1) / 2 = j → l[i]? = some x → l[(j - 1) / 2]? = some y → ¬ KeyLt x.key y.key
theorem Hole.step {l : List Msg} {j c n : Nat} {x y : Msg} (h : Hole l j n) (hc0 : 0 < c) (hcn : c < n) (hcj : (c - 1) / 2 = j) (hx : l[j]? = some x) (hy : l[c]? = some y) (hlt : KeyLt y.key x.key)
    (hmin : ∀ (i : Nat) (a : Msg), 0 < i → i < n → (i - 1) / 2 = j → l[i]? = some a → ¬ KeyLt a.key y.key) : DownInv (swapM l j c x y) c n := by
  obtain ⟨h1, h2⟩ := h
  have hg := swapM_get (i := j) (k := c) hx hy
  constructor
  · intro i a b hi hn hij ha hb
    rw [hg] at ha hb
    rw [if_neg hij] at hb
    by_cases e1 : i = c
    · subst e1
      rw [if_pos rfl] at ha
      rw [if_pos hcj] at hb
      injection ha with ha
      injection hb with hb
      subst ha hb
      exact hlt.asymm
    · rw [if_neg e1] at ha
      by_cases e2 : (i - 1) / 2 = j
      · rw [if_pos e2] at hb
        rw [if_neg (by omega)] at ha
        injection hb with hb
        subst hb
        exact hmin i a hi hn e2 ha
      · rw [if_neg e2] at hb
        by_cases e3 : i = j
        · rw [if_pos e3] at ha
          injection ha with ha
          subst ha
          subst e3
          exact h2 c y b hc0 hcn hi hcj hy hb
        · rw [if_neg e3] at ha
          exact h1 i a b hi hn e3 e2 ha hb
  · intro i a b hi hn hc hpar ha hb
    rw [hg] at ha hb
    rw [if_neg (by omega), if_neg (by omega)] at ha
    rw [if_neg (by omega), if_pos hcj] at hb
    injection hb with hb
    subst hb
    exact h1 i a y hi hn (by omega) (by omega) ha (by rw [hpar]; exact hy)

theorem down2_s {q i0 n : Nat} {room : Int} {l : List Msg} (hn : n ≤ l.length) (hi0 : i0 ≤ n) (hl : l.length ≤ 1001) (hS : Sat e w (IsPrio q room l :: R))
    (hk0 : (∀ (i : Nat) (x y : Msg), 0 < i → i < n → (i - 1) / 2 = i0 → l[i]? = some x → l[i0]? = some y → ¬ KeyLt x.key y.key) → ∀ w', Sat e w' (IsPrio q room l :: R) → K (.bool false) w')
    (hk : ∀ l' w', l'.Perm l → (∀ i, n ≤ i → l'[i]? = l[i]?) → (Hole l i0 n → Heapy l' n) → Sat e w' (IsPrio q room l' :: R) → K (.bool true) w') :
    Cl prog 65 #[.iface 109 (rcv q), .int .i64 (i0 : Int), .int .i64 (n : Int)] w K := by
  refine heap_down_calls ?_
  unfold heap_down
  refine J1.cut (fun t7 w => ∃ (i : Nat) (l' : List Msg), t7 = .int .i64 (i : Int) ∧ i0 ≤ i ∧ l'.Perm l ∧ (∀ i, n ≤ i → l'[i]? = l[i]?) ∧ (i = i0 → l' = l ∧ ∀ (i : Nat) (x y : Msg), 0 < i → i < n → (i - 1) / 2 = i0 → l[i]? = some x → l[i0]? = some y → ¬ KeyLt x.key y.key) ∧
      (i0 < i → Hole l i0 n → Heapy l' n) ∧ Sat e w (IsPrio q room l' :: R)) (fun k1 hcut => ?_) ?_
  · refine lpi1 (fun z t7 w => ∃ (j : Nat) (l' : List Msg), t7 = .int .i64 (j : Int) ∧ z = n - j ∧ i0 ≤ j ∧ j ≤ n ∧ l'.Perm l ∧ (∀ i, n ≤ i → l'[i]? = l[i]?) ∧ (j = i0 → l' = l) ∧ (i0 < j → Hole l i0 n → DownInv l' j n) ∧ Sat e w (IsPrio q room l' :: R)) (n - i0)
      ⟨i0, l, rfl, rfl, Nat.le_refl _, hi0, .refl _, fun _ _ => rfl, fun _ => rfl, (fun h => absurd h (Nat.lt_irrefl _)), hS⟩ ?_
    rintro z _ w g ⟨j, l', rfl, rfl, hij, hjn, hp, htail, hsame, hinv, h1⟩ hg
    have hlen := hp.length_eq
    refine muln_s (a := 2) (by omega) (addn_s (b := 1) (by omega) ?_)
    -- where j's children are not below it
    have hend : ∀ w', (∀ (i : Nat) (x y : Msg), 0 < i → i < n → (i - 1) / 2 = j → l'[i]? = some x → l'[j]? = some y → ¬ KeyLt x.key y.key) → Sat e w' (IsPrio q room l' :: R) → k1 (.int .i64 (j : Int)) w' := by
      intro w' hch h
      refine hcut _ _ ⟨j, l', rfl, hij, hp, htail, fun e => ⟨hsame e, ?_⟩, fun hlt hh => (hinv hlt hh).done hch, h⟩
      subst e
      have := hsame rfl
      subst this
      exact hch
    refine ge_c (fun c1 => ?_) (fun c1 => ?_)
    · refine gd_tf (gd_tf (pk_t (iff_t (hend _ (fun i x y hi hin hpar _ _ => ?_) h1))))
      omega
    · refine gd_ff (gd_ff (lt_f (by omega) (pk_f (iff_f ?_))))
      refine addn_s (b := 1) (by omega) ?_
      obtain ⟨x, hx⟩ := get_of_lt (l := l') (j := j) (by omega)
      obtain ⟨y1, hy1⟩ := get_of_lt (l := l') (j := 2 * j + 1) (by omega)
      have hrest : ∀ (c : Nat) (y : Msg) w', (c = 2 * j + 1 ∨ c = 2 * j + 1 + 1) → c < n → l'[c]? = some y → (∀ (i : Nat) (a : Msg), 0 < i → i < n → (i - 1) / 2 = j → l'[i]? = some a → ¬ KeyLt a.key y.key) → Sat e w' (IsPrio q room l' :: R) →
          clI prog (.iface 109 (rcv q)) "Less" #[.int .i64 (c : Int), .int .i64 (j : Int)] w' fun t38 w => bnot t38 w fun t39 w => iff' t39 (k1 (.int .i64 (j : Int)) w)
            (clI prog (.iface 109 (rcv q)) "Swap" #[.int .i64 (j : Int), .int .i64 (c : Int)] w fun _ w => g [.int .i64 (c : Int)] w) := by
        intro c y w' hc hcn hy hmin h2
        refine faced_Less_s hy hx h2 fun w3 h3 => ?_
        by_cases hlt : cmpK y.key x.key < 0
        · rw [decide_eq_true hlt]
          refine not_t (iff_f ?_)
          refine faced_Swap_s hx hy h3 fun w4 h4 => ?_
          refine hg _ _ _ (by omega) ⟨c, _, rfl, rfl, by omega, by omega, (swapM_perm hx hy).trans hp, fun i hi => ?_, fun e => by omega, fun _ hh => ?_, h4⟩
          · rw [swapM_get hx hy, if_neg (by omega), if_neg (by omega)]
            exact htail i hi
          · by_cases hj0 : j = i0
            · subst hj0
              have := hsame rfl
              subst this
              exact hh.step (by omega) hcn (by omega) hx hy (cmpK_lt.1 hlt) hmin
            · exact (hinv (by omega) hh).step (by omega) hcn (by omega) hx hy (cmpK_lt.1 hlt) hmin
        · rw [decide_eq_false hlt]
          refine not_f (iff_t (hend _ (fun i a b hi hin hpar ha hb => ?_) h3))
          rw [hx] at hb
          injection hb with hb
          subst hb
          exact keyLE_trans (hmin i a hi hin hpar ha) (fun h => hlt (cmpK_lt.2 h))
      refine lt_c (fun c2 => ?_) (fun c2 => ?_)
      · obtain ⟨y2, hy2⟩ := get_of_lt (l := l') (j := 2 * j + 1 + 1) (by omega)
        refine gd_tt (gd_tt (gd_tt (gd_tt ?_)))
        refine faced_Less_s hy2 hy1 h1 fun w2 h2 => ?_
        by_cases hlt : cmpK y2.key y1.key < 0
        · rw [decide_eq_true hlt]
          refine pk_t (iff_t ?_)
          refine hrest (2 * j + 1 + 1) y2 _ (.inr rfl) (by omega) hy2 (fun i a hi hin hpar ha => ?_) h2
          have : i = 2 * j + 1 ∨ i = 2 * j + 1 + 1 := by omega
          rcases this with rfl | rfl
          · rw [hy1] at ha; injection ha with ha; subst ha; exact (cmpK_lt.1 hlt).asymm
          · rw [hy2] at ha; injection ha with ha; subst ha; exact KeyLt.irrefl _
        · rw [decide_eq_false hlt]
          refine pk_t (iff_f ?_)
          refine hrest (2 * j + 1) y1 _ (.inl rfl) (by omega) hy1 (fun i a hi hin hpar ha => ?_) h2
          have : i = 2 * j + 1 ∨ i = 2 * j + 1 + 1 := by omega
          rcases this with rfl | rfl
          · rw [hy1] at ha; injection ha with ha; subst ha; exact KeyLt.irrefl _
          · rw [hy2] at ha; injection ha with ha; subst ha; exact fun h => hlt (cmpK_lt.2 h)
      · refine gd_ft (gd_ft (gd_ft (gd_ft (pk_f (iff_f ?_)))))
        refine hrest (2 * j + 1) y1 _ (.inl rfl) (by omega) hy1 (fun i a hi hin hpar ha => ?_) h1
        have : i = 2 * j + 1 := by omega
        subst this
        rw [hy1] at ha; injection ha with ha; subst ha; exact KeyLt.irrefl _
  · rintro _ w ⟨i, l', rfl, hii, hp, htail, hsame, hd, h2⟩
    refine gt_c (fun c => ?_) (fun c => ?_)
    · exact hk l' _ hp htail (hd (by omega)) h2
    · have : i = i0 := by omega
      obtain ⟨hs1, hs2⟩ := hsame this
      subst hs1
      exact hk0 hs2 _ h2

theorem prio_First_none {q : Nat} {room : Int} (hS : Sat e w (IsPrio q room [] :: R)) (hk : ∀ w', Sat e w' (IsPrio q room [] :: R) → K (.tuple #[.agg Msg.zero.cs.toArray, .bool false]) w') : Cl prog 49 #[.pointer (some ⟨q, 0, none⟩)] w K := by
  refine prio_Queue_First_calls ?_
  unfold prio_Queue_First
  rw [zero_36]
  obtain ⟨v, b, m, ha, h1⟩ := prio_of hS
  refine al_s (cs := ints [0, 0, 0, 0, 0, 0]) h1 rfl fun d w3 h3 => ?_
  refine ncP_p (fld_at (ld1_at h3 1 rfl (v := v) rfl ?_))
  refine lnS_rd h3 2 rfl (fun g hg => own_rd hg) ?_
  refine eq_t rfl (iff_t ?_)
  refine bld_s Msg.zero.cs (by kernel_rfl) ?_
  refine stN_at h3 0 rfl (vs := Msg.zero.cs) rfl rfl (Nat.le_of_ble_eq_true rfl) (ints_flat _) (cs' := Msg.zero.cs) (by kernel_rfl) fun w4 h4 => ?_
  refine ldN_at h4 0 (vs := Msg.zero.cs) rfl (by rfl) rfl ?_
  exact hk _ (prio_mk ha h4.drop)
theorem prio_First_s {q : Nat} {room : Int} {l : List Msg} {x : Msg} (hx : l[0]? = some x) (hS : Sat e w (IsPrio q room l :: R))
    (hk : ∀ w', Sat e w' (IsPrio q room l :: R) → K (.tuple #[.agg x.cs.toArray, .bool true]) w') : Cl prog 49 #[.pointer (some ⟨q, 0, none⟩)] w K := by
  refine prio_Queue_First_calls ?_
  unfold prio_Queue_First
  rw [zero_36]
  obtain ⟨v, b, m, ha, h1⟩ := prio_of hS
  have h0 := (List.getElem?_eq_some_iff.1 hx).1
  refine al_s (cs := ints [0, 0, 0, 0, 0, 0]) h1 rfl fun d w3 h3 => ?_
  refine ncP_p (fld_at (ld1_at h3 1 rfl (v := v) rfl ?_))
  refine lnS_rd h3 2 rfl (fun g hg => own_rd hg) ?_
  refine eq_f (by omega) (iff_f ?_)
  refine ncP_p (fld_at (ld1_at h3 1 rfl (v := v) rfl ?_))
  refine ixS_rd (j := 0) h3 2 rfl (fun g hg => own_rd hg) (fun _ => rfl) hx fun p hp => ?_
  refine ldN_of h3 2 rfl hp rfl ?_
  refine stN_at h3 0 rfl (vs := x.cs) rfl rfl (Nat.le_of_ble_eq_true rfl) (ints_flat _) (cs' := x.cs) (by kernel_rfl) fun w4 h4 => ?_
  refine ldN_at h4 0 (vs := x.cs) rfl (by rfl) rfl ?_
  exact hk _ (prio_mk ha h4.drop)
end Go.Proofs.Ytenglfaeohgkfaa
