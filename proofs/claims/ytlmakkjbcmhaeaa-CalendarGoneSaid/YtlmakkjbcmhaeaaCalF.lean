/- The document's calendar, and what pages have. Conditions: at most a thousand messages. -/
import Derived.Test.YtlmakkjbcmhaeaaCalE
namespace Go.Proofs.Ytlmakkjbcmhaeaa
open Go Go.E
set_option maxRecDepth 100000
variable {e w : World} {R : List HP} {K : KV}

abbrev i1 (n : Int) : List Value := [.int .i64 n]
def cntN (day : Int) (l : List Msg) (p : Nat) : Nat := l.countP fun m => decide (pageN day m.key.T = p)
def cntOf (day : Int) (l : List Msg) : List Int := (List.range 8).map fun p => (cntN day l p : Int)
theorem cntOf_length (day : Int) (l : List Msg) : (cntOf day l).length = 8 := by simp [cntOf]
theorem cntOf_get {day : Int} {l : List Msg} {p : Nat} (hp : p < 8) : (cntOf day l)[p]? = some (cntN day l p : Int) := by
  unfold cntOf
  rw [List.getElem?_map, List.getElem?_range hp]
  rfl
theorem cntOf_perm {day : Int} {l l' : List Msg} (h : l.Perm l') : cntOf day l = cntOf day l' := by
  unfold cntOf cntN
  congr 1
  funext p
  rw [h.countP_eq]
theorem cntOf_nil (day : Int) : cntOf day [] = List.replicate 8 0 := rfl
theorem cntN_snoc {day : Int} {l : List Msg} {x : Msg} {p : Nat} : cntN day (l ++ [x]) p = cntN day l p + if pageN day x.key.T = p then 1 else 0 := by
  unfold cntN
  rw [List.countP_append, List.countP_singleton]
  simp
theorem cntOf_snoc {day : Int} {l : List Msg} {x : Msg} : cntOf day (l ++ [x]) = (cntOf day l).set (pageN day x.key.T) ((cntN day l (pageN day x.key.T) : Int) + 1) := by
  apply List.ext_getElem?
  intro p
  rw [List.getElem?_set]
  by_cases h8 : p < 8
  · rw [cntOf_get h8, cntOf_get h8, cntN_snoc, cntOf_length]
    by_cases h : pageN day x.key.T = p
    · rw [if_pos h, if_pos h, if_pos (by omega), h]
      simp
    · rw [if_neg h, if_neg h]
      simp
  · rw [List.getElem?_eq_none (by rw [cntOf_length]; omega), List.getElem?_eq_none (by rw [cntOf_length]; omega), cntOf_length]
    split
    · rw [if_neg (by omega)]
    · rfl
theorem CalOk.lens {day : Int} {pg : List (List Msg)} (h : CalOk day pg) : lensOf pg = cntOf day pg.flatten := by
  have h8 := h.len
  apply List.ext_getElem?
  intro p
  by_cases hp : p < 8
  · rw [cntOf_get hp]
    obtain ⟨l, hl⟩ : ∃ l, pg[p]? = some l := ⟨_, List.getElem?_eq_getElem (by omega)⟩
    unfold lensOf
    rw [List.getElem?_map, hl]
    have e1 : pg = pg.take p ++ l :: pg.drop (p + 1) := by
      have : pg.drop p = l :: pg.drop (p + 1) := by
        rw [List.drop_eq_getElem_cons (by omega), (List.getElem?_eq_some_iff.1 hl).2]
      rw [← this, List.take_append_drop]
    have h1 : (pg.take p).flatten.countP (fun m => decide (pageN day m.key.T = p)) = 0 := by
      rw [List.countP_eq_zero]
      intro m hm
      obtain ⟨a, ha, hma⟩ := List.mem_flatten.1 hm
      obtain ⟨i, hi⟩ := List.mem_iff_getElem?.1 ha
      rw [List.getElem?_take] at hi
      split at hi
      · have := (h.at' i a hi m hma).2
        simp
        omega
      · cases hi
    have h2 : (pg.drop (p + 1)).flatten.countP (fun m => decide (pageN day m.key.T = p)) = 0 := by
      rw [List.countP_eq_zero]
      intro m hm
      obtain ⟨a, ha, hma⟩ := List.mem_flatten.1 hm
      obtain ⟨i, hi⟩ := List.mem_iff_getElem?.1 ha
      rw [List.getElem?_drop] at hi
      have := (h.at' _ a hi m hma).2
      simp
      omega
    have h3 : l.countP (fun m => decide (pageN day m.key.T = p)) = l.length := by
      rw [List.countP_eq_length]
      intro m hm
      exact decide_eq_true (h.at' p l hl m hm).2
    have e2 : cntN day pg.flatten p = l.length := by
      unfold cntN
      rw [e1, List.flatten_append, List.flatten_cons, List.countP_append, List.countP_append, h1, h2, h3]
      omega
    rw [e2]
    rfl
  · rw [List.getElem?_eq_none (show (lensOf pg).length ≤ p by unfold lensOf; rw [List.length_map]; omega), List.getElem?_eq_none (by rw [cntOf_length]; omega)]

/-! ### The document's -/
abbrev dB (q r : Nat) (day : Int) : HP := blk q 43 [.pointer (some ⟨r, 0, none⟩), .int .i64 day]
theorem ref04_New_s {n d : Int} (hS : Sat e w R) (hk : ∀ q r w', Sat e w' (IsPR r (max 0 (min n 64)) [] :: dB q r (max 1 (min d 1048576)) :: R) → K (.pointer (some ⟨q, 0, none⟩)) w') : Cl prog 12 #[.int .i64 n, .int .i64 d] w K := by
  refine pacelineref04_New_calls ?_
  unfold pacelineref04_New
  refine ref03_New_s hS fun r w1 h1 => ?_
  refine min_s (max_s ?_)
  rw [zero_43]
  refine bld_s [.pointer (some ⟨r, 0, none⟩), .int .i64 (max 1 (min d 1048576))] (by kernel_rfl) ?_
  refine al_s (cs := [.pointer (some ⟨r, 0, none⟩), .int .i64 (max 1 (min d 1048576))]) h1 rfl fun q w2 h2 => ?_
  exact hk _ _ _ h2.swap
theorem ref04_Push_s {q r : Nat} {room day : Int} {l : List Msg} {x : Msg} (hl : l.length ≤ 1000) (hS : Sat e w (IsPR r room l :: dB q r day :: R))
    (h1 : validT x.key.T = false → ∀ w', Sat e w' (IsPR r room l :: dB q r day :: R) → K (.int .i64 1) w')
    (h3 : validT x.key.T = true → (∃ y ∈ l, y.key = x.key) → ∀ w', Sat e w' (IsPR r room l :: dB q r day :: R) → K (.int .i64 3) w')
    (h2 : validT x.key.T = true → (∀ y ∈ l, y.key ≠ x.key) → room ≤ l.length → ∀ w', Sat e w' (IsPR r room l :: dB q r day :: R) → K (.int .i64 2) w')
    (h0 : validT x.key.T = true → (∀ y ∈ l, y.key ≠ x.key) → l.length < room → ∀ p w', Place l x p → Sat e w' (IsPR r room (insAt l x p) :: dB q r day :: R) → K (.int .i64 0) w') :
    Cl prog 13 #[.pointer (some ⟨q, 0, none⟩), .agg x.cs.toArray] w K := by
  refine pacelineref04_Queue_Push_calls ?_
  unfold pacelineref04_Queue_Push
  refine al_s (cs := x.cs) hS rfl fun c w2 k2 => ?_
  refine fld_at (fld_at (ld1_at k2 0 rfl (v := .int .i64 x.key.T) rfl ?_))
  refine ref01_Valid_s ?_
  cases hv : validT x.key.T with
  | false => exact not_f (iff_t (h1 hv _ k2.drop))
  | true =>
    refine not_t (iff_f ?_)
    refine dr_s k2 fun w3 k3 => ?_
    have k4 : Sat e w3 (IsPR r room l :: dB q r day :: blk c 32 x.cs :: R) := k3.selR [_, _, _] [_, _, _] [1, 2, 0] (by decide) rfl
    refine ncP_p (fld_at (ld1_at k4 1 rfl (v := .pointer (some ⟨r, 0, none⟩)) rfl ?_))
    refine ldN_at k4 2 rfl (vs := x.cs) (by rfl) rfl ?_
    refine ref03_Push_s hl k4 (fun h w5 k5 => h3 hv h _ (k5.selR [_, _, _] [_, _] [0, 1] (by decide) rfl)) (fun h hr w5 k5 => h2 hv h hr _ (k5.selR [_, _, _] [_, _] [0, 1] (by decide) rfl)) (fun h hr p w5 hp k5 => h0 hv h hr p _ hp (k5.selR [_, _, _] [_, _] [0, 1] (by decide) rfl))
theorem ref04_Days_s {q r : Nat} {room day : Int} {l : List Msg} (hd : 1 ≤ day) (hl : l.length ≤ 1000) (hval : ∀ m ∈ l, validT m.key.T = true) (hS : Sat e w (IsPR r room l :: dB q r day :: R))
    (hk : ∀ v w', Sat e w' (ownS 3 1 i1 v (cntOf day l) :: IsPR r room l :: dB q r day :: R) → K v w') : Cl prog 16 #[.pointer (some ⟨q, 0, none⟩)] w K := by
  refine pacelineref04_Queue_Days_calls ?_
  unfold pacelineref04_Queue_Days
  refine mkS_own te_26 (n := 8) (by decide) hS i1 (fun _ => rfl) 0 (by rw [zero_3]) fun v w1 h1 => ?_
  refine lpi1 (fun z t4 w => ∃ j : Nat, t4 = .int .i64 (j : Int) ∧ z = l.length - j ∧ j ≤ l.length ∧ Sat e w (ownS 3 1 i1 v (cntOf day (l.take j)) :: IsPR r room l :: dB q r day :: R)) l.length
    ⟨0, rfl, rfl, Nat.zero_le _, h1⟩ ?_
  rintro z _ w g ⟨j, rfl, rfl, hj, h2⟩ hg
  obtain ⟨vl, h4⟩ := pr_of h2.swap
  replace h4 : Sat e w (blk r 69 [.int .i64 room, vl] :: ownS 32 6 Msg.cs vl l :: ownS 3 1 i1 v (cntOf day (l.take j)) :: dB q r day :: R) := h4
  refine ncP_p (fld_at (ld1_at h4 3 rfl (v := .pointer (some ⟨r, 0, none⟩)) rfl ?_))
  refine ncP_p (fld_at (ld1_at h4 0 rfl (v := vl) rfl ?_))
  refine lnS_rd h4 1 rfl (fun g hg => own_rd hg) ?_
  refine lt_c (fun c1 => iff_t ?_) (fun c1 => iff_f ?_)
  · obtain ⟨x, hx⟩ := get_of_lt (l := l) (j := j) (by omega)
    have hv := valid_nonneg (hval x (List.mem_of_getElem? hx))
    refine dr_s h4 fun w5 h5 => ?_
    refine ncP_p (fld_at (ld1_at h5 3 rfl (v := .pointer (some ⟨r, 0, none⟩)) rfl ?_))
    refine ncP_p (fld_at (ld1_at h5 0 rfl (v := vl) rfl ?_))
    refine ixS_rd h5 1 rfl (fun g hg => own_rd hg) (fun _ => rfl) hx fun p hp => ?_
    refine fld_of hp fun p1 hp1 => fld_of hp1 fun p2 hp2 => ?_
    refine ld1_of h5 1 rfl hp2 rfl ?_
    refine ncP_p (fld_at (ld1_at h5 3 rfl (v := .int .i64 day) rfl ?_))
    have e1 : x.key.T.tdiv day = x.key.T / day := Int.tdiv_eq_ediv_of_nonneg hv.1
    have h0 : 0 ≤ x.key.T / day := Int.ediv_nonneg hv.1 (by omega)
    have h6 : x.key.T / day ≤ x.key.T := Int.ediv_le_self _ hv.1
    refine quoI_s (by omega) (by omega) (by omega) ?_
    refine rem_s (by decide) ?_
    rw [e1, Int.tmod_eq_emod_of_nonneg h0]
    have e2 : (x.key.T / day) % 8 = (pageN day x.key.T : Int) := by
      unfold pageN
      have := Int.emod_nonneg (x.key.T / day) (show (8 : Int) ≠ 0 by decide)
      omega
    rw [e2]
    have hp8 := pageN_lt (day := day) (t := x.key.T)
    refine ixS_rd h5 2 rfl (fun g hg => own_rd hg) (fun _ => rfl) (cntOf_get hp8) fun p hp => ?_
    refine ld1_of h5 2 rfl hp rfl ?_
    have hcn : cntN day (l.take j) (pageN day x.key.T) ≤ 1000 := by
      have := List.countP_le_length (p := fun m : Msg => decide (pageN day m.key.T = pageN day x.key.T)) (l := l.take j)
      rw [List.length_take] at this
      unfold cntN
      omega
    refine add_s (by omega) (by omega) ?_
    refine st_own h5 2 rfl (fun _ => rfl) (x := (cntN day (l.take j) (pageN day x.key.T) : Int) + 1) (by rw [cntOf_length]; exact hp8) rfl (fun v hv => by rw [List.mem_singleton.1 hv]; rfl) fun w6 h7 => ?_
    refine inc_s (by omega) (hg _ _ _ (by omega) ⟨j + 1, rfl, rfl, by omega, ?_⟩)
    rw [take_snoc hx, cntOf_snoc]
    exact Sat.swap (pr_mk h7)
  · obtain rfl : j = l.length := by omega
    rw [List.take_length] at h2
    exact hk _ _ h2

theorem same04_s {u v : Value} {a b : List Msg} {S T : HP} (hS : Sat e w (S :: T :: R)) (hr : ∀ g, S g → rdS 6 Msg.cs u a g) (hr' : ∀ g, T g → rdS 6 Msg.cs v b g) (hl : a.length ≤ 1000000)
    (hk : ∀ w', Sat e w' (S :: T :: R) → K (.bool (decide (a = b))) w') : Cl prog 17 #[u, v] w K := by
  refine pacelinelaw04_same_calls ?_
  unfold pacelinelaw04_same
  refine lnS_rd hS 0 rfl hr ?_
  refine lnS_rd hS 1 rfl hr' ?_
  refine ne_c (fun c => ?_) (fun c => ?_)
  · refine iff_t ?_
    have := hk _ hS
    rw [decide_eq_false (fun e => c (by rw [e]))] at this
    exact this
  · refine iff_f ?_
    have c' : a.length = b.length := by omega
    refine lpi1 (fun m t5 w => ∃ j : Nat, j ≤ a.length ∧ t5 = .int .i64 j ∧ m = a.length - j ∧ a.take j = b.take j ∧ Sat e w (S :: T :: R)) a.length ⟨0, Nat.zero_le _, rfl, rfl, rfl, hS⟩ ?_
    rintro m _ w g ⟨j, hj, rfl, rfl, he, h1⟩ hg
    refine lnS_rd h1 0 rfl hr ?_
    refine lt_c (fun c => ?_) (fun c => ?_)
    · refine iff_t ?_
      obtain ⟨x, hx⟩ := get_of_lt (l := a) (j := j) (by omega)
      obtain ⟨y, hy⟩ := get_of_lt (l := b) (j := j) (by omega)
      refine dr_s h1 fun w2 h2 => ?_
      refine ixS_rd h2 0 rfl hr (fun _ => rfl) hx fun p hp => ?_
      refine ldN_of h2 0 rfl hp rfl ?_
      refine ixS_rd h2 1 rfl hr' (fun _ => rfl) hy fun q hq => ?_
      refine ldN_of h2 1 rfl hq rfl ?_
      refine bO_ne (ns := x.ns) (ms := y.ns) eqT_32 agg_32 egt_32 (by decide) rfl ?_
      rw [Msg.eq_ns]
      by_cases hxy : x = y
      · rw [decide_eq_true hxy]
        refine iff_f (inc_s (by omega) ?_)
        exact hg _ _ _ (by omega) ⟨j + 1, by omega, rfl, rfl, by rw [take_snoc hx, take_snoc hy, he, hxy], h2⟩
      · rw [decide_eq_false hxy]
        refine iff_t ?_
        have := hk _ h2
        rw [decide_eq_false (fun e => hxy (by rw [e, hy] at hx; cases hx; rfl))] at this
        exact this
    · refine iff_f ?_
      obtain rfl : j = a.length := by omega
      have := hk _ h1
      rw [List.take_length, c', List.take_length] at he
      rw [decide_eq_true he] at this
      exact this
end Go.Proofs.Ytlmakkjbcmhaeaa
