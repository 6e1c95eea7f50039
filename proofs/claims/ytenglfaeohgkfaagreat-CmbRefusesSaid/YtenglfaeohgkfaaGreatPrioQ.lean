/- The document's queues: find, Insert, New, Push. Conditions: at most a thousand messages. The document's queues: First, Pop, Remove, Without, Len, List, Below. Conditions: at most a thousand messages. -/
import Derived.Test.YtenglfaeohgkfaaGreatTimeB
import Derived.Test.YtenglfaeohgkfaaGreatPfTy
import Derived.Test.YtenglfaeohgkfaaGreatEngR
import Derived.Test.YtenglfaeohgkfaaGreatPf0
import Derived.Test.YtenglfaeohgkfaaGreatPf1
import Derived.Test.YtenglfaeohgkfaaGreatPf2
import Derived.Test.YtenglfaeohgkfaaGreatPf3
namespace Go.Proofs.YtenglfaeohgkfaaGreat
open Go Go.E
set_option maxRecDepth 100000
variable {e w : World} {R : List HP} {K : KV}

def IsPR (q : Nat) (room : Int) (l : List Msg) : HP := hex fun v : Value => sepL [blk q 119 [.int .i64 room, v], ownS 26 6 Msg.cs v l]
theorem pr_of {q : Nat} {room : Int} {l : List Msg} (h : Sat e w (IsPR q room l :: R)) : ∃ v, Sat e w (blk q 119 [.int .i64 room, v] :: ownS 26 6 Msg.cs v l :: R) := by
  obtain ⟨v, h0⟩ := h.ex
  exact ⟨v, h0.split⟩
theorem pr_mk {q : Nat} {room : Int} {l : List Msg} {v : Value} (h : Sat e w (blk q 119 [.int .i64 room, v] :: ownS 26 6 Msg.cs v l :: R)) : Sat e w (IsPR q room l :: R) :=
  .mk_ex v (.join (l' := [_, _]) h)
theorem ref03_New_s {n : Int} (hS : Sat e w R) (hk : ∀ q w', Sat e w' (IsPR q (max 0 (min n 64)) [] :: R) → K (.pointer (some ⟨q, 0, none⟩)) w') : Cl prog 34 #[.int .i64 n] w K := by
  refine pacelineref03_New_calls ?_
  unfold pacelineref03_New
  refine min_s (max_s ?_)
  rw [zero_119]
  refine bld_s [.int .i64 (max 0 (min n 64)), .slice none 0 0] (by kernel_rfl) ?_
  refine al_s (cs := [.int .i64 (max 0 (min n 64)), .slice none 0 0]) hS rfl fun q w2 h2 => ?_
  exact hk _ _ (pr_mk (v := .slice none 0 0) (h2.own_nil 26 6 Msg.cs).swap)
theorem ref03_find_s {q : Nat} {room : Int} {l : List Msg} {k : Key} (hl : l.length ≤ 1000000) (hS : Sat e w (IsPR q room l :: R))
    (hno : (∀ x ∈ l, x.key ≠ k) → ∀ w', Sat e w' (IsPR q room l :: R) → K (.int .i64 (-1)) w')
    (hyes : ∀ (i : Nat) (x : Msg), l[i]? = some x → x.key = k → (∀ j y, j < i → l[j]? = some y → y.key ≠ k) → ∀ w', Sat e w' (IsPR q room l :: R) → K (.int .i64 (i : Int)) w') :
    Cl prog 71 #[.pointer (some ⟨q, 0, none⟩), .agg k.cs.toArray] w K := by
  refine pacelineref03_Queue_find_calls ?_
  unfold pacelineref03_Queue_find
  obtain ⟨v, h1⟩ := pr_of hS
  refine al_s (cs := k.cs) h1 rfl fun b w2 h2 => ?_
  refine lpi1 (fun z t5 w => ∃ j : Nat, j ≤ l.length ∧ t5 = .int .i64 j ∧ z = l.length - j ∧ (∀ i y, i < j → l[i]? = some y → y.key ≠ k) ∧ Sat e w (blk b 24 k.cs :: blk q 119 [.int .i64 room, v] :: ownS 26 6 Msg.cs v l :: R)) l.length
    ⟨0, Nat.zero_le _, rfl, rfl, (fun _ _ h => by omega), h2⟩ ?_
  rintro z _ w g ⟨j, hj, rfl, rfl, hne, h3⟩ hg
  refine ncP_p (fld_at (ld1_at h3 1 rfl (v := v) rfl ?_))
  refine lnS_rd h3 2 rfl (fun g hg => own_rd hg) ?_
  refine lt_c (fun c => iff_t ?_) (fun c => iff_f ?_)
  · obtain ⟨x, hx⟩ := get_of_lt (l := l) (j := j) (by omega)
    refine dr_s h3 fun w4 h4 => ?_
    refine ncP_p (fld_at (ld1_at h4 1 rfl (v := v) rfl ?_))
    refine ixS_rd h4 2 rfl (fun g hg => own_rd hg) (fun _ => rfl) hx fun p hp => ?_
    refine fld_of hp fun p1 hp1 => ?_
    refine ldN_sub (us := x.key.cs) h4 2 rfl hp1 (by rfl) rfl ?_
    refine ldN_at h4 0 (vs := k.cs) rfl (by rfl) rfl ?_
    refine bO_eq (ns := x.key.ns) (ms := k.ns) eqT_24 agg_24 egt_24 (by decide) rfl ?_
    rw [Key.eq_ns]
    by_cases hxk : x.key = k
    · rw [decide_eq_true hxk]
      exact iff_t (hyes j x hx hxk hne _ (pr_mk h4.drop))
    · rw [decide_eq_false hxk]
      refine iff_f (inc_s (by omega) ?_)
      refine hg _ _ _ (by omega) ⟨j + 1, by omega, rfl, rfl, fun i y hi hy => ?_, h4⟩
      by_cases hij : i = j
      · subst hij; rw [hx] at hy; injection hy with hy; subst hy; exact hxk
      · exact hne i y (by omega) hy
  · refine hno (fun x hx => ?_) _ (pr_mk h3.drop)
    obtain ⟨i, hi⟩ := List.mem_iff_getElem?.1 hx
    exact hne i x (by have := (List.getElem?_eq_some_iff.1 hi).1; omega) hi

/-- m's place among l: behind all that are not behind it. -/
structure Place (l : List Msg) (m : Msg) (p : Nat) : Prop where
  le : p ≤ l.length
  low : ∀ z ∈ l.take p, ¬ KeyLt m.key z.key
  high : p = l.length ∨ ∃ y, l[p]? = some y ∧ KeyLt m.key y.key
def insAt (l : List Msg) (m : Msg) (p : Nat) : List Msg := l.take p ++ m :: l.drop p
theorem insAt_perm (l : List Msg) (m : Msg) (p : Nat) : (insAt l m p).Perm (l ++ [m]) := by
  unfold insAt
  refine List.perm_middle.trans ?_
  rw [List.take_append_drop]
  exact (List.perm_append_comm (l₁ := [m]) (l₂ := l))
def Up (l : List Msg) : Prop := l.Pairwise fun a b => KeyLt a.key b.key
theorem Place.up {l : List Msg} {m : Msg} {p : Nat} (h : Place l m p) (hu : Up l) (hne : ∀ y ∈ l, y.key ≠ m.key) : Up (insAt l m p) := by
  unfold Up insAt at *
  have hs : (l.take p ++ l.drop p).Pairwise fun a b => KeyLt a.key b.key := by rw [List.take_append_drop]; exact hu
  obtain ⟨h1, h2, h3⟩ := List.pairwise_append.1 hs
  have hm : ∀ y ∈ l.drop p, KeyLt m.key y.key := by
    intro y hy
    rcases h.high with hp | ⟨z, hz, hmz⟩
    · rw [List.drop_of_length_le (by omega)] at hy; cases hy
    · rw [drop_cons hz] at hy h2
      rcases List.mem_cons.1 hy with rfl | hy
      · exact hmz
      · exact hmz.trans ((List.pairwise_cons.1 h2).1 y hy)
  refine List.pairwise_append.2 ⟨h1, List.pairwise_cons.2 ⟨hm, h2⟩, fun z hz y hy => ?_⟩
  rcases List.mem_cons.1 hy with rfl | hy
  · rcases KeyLt.tri z.key y.key with h4 | h4 | h4
    · exact h4
    · exact absurd h4 (hne z (List.mem_of_mem_take hz))
    · exact absurd h4 (h.low z hz)
  · exact h3 z hz y hy

structure InsM (l : List Msg) (m : Msg) (i : Nat) (d : Bool) (c : List Msg) : Prop where
  no : d = false → c = l.take i ∧ ∀ z ∈ l.take i, ¬ KeyLt m.key z.key
  yes : d = true → ∃ p y, p < i ∧ l[p]? = some y ∧ KeyLt m.key y.key ∧ (∀ z ∈ l.take p, ¬ KeyLt m.key z.key) ∧ c = l.take p ++ m :: (l.take i).drop p
theorem InsM.len {l : List Msg} {m : Msg} {i : Nat} {d : Bool} {c : List Msg} (h : InsM l m i d c) (_hi : i ≤ l.length) : c.length ≤ i + 1 := by
  cases d with
  | false => rw [(h.no rfl).1, List.length_take]; omega
  | true =>
    obtain ⟨p, y, hp, _, _, _, rfl⟩ := h.yes rfl
    simp only [List.length_append, List.length_cons, List.length_take, List.length_drop]
    omega

theorem ref03_Insert_s {v : Value} {l : List Msg} {m : Msg} {S : HP} (hl : l.length ≤ 1000000) (hS : Sat e w (S :: R)) (hr : ∀ g, S g → rdS 6 Msg.cs v l g)
    (hk : ∀ v' p w', Place l m p → Sat e w' (ownS 26 6 Msg.cs v' (insAt l m p) :: S :: R) → K v' w') : Cl prog 72 #[v, .agg m.cs.toArray] w K := by
  refine pacelineref03_Insert_calls ?_
  unfold pacelineref03_Insert
  rw [zero_26]
  refine al_s (cs := m.cs) hS rfl fun b w2 h2 => ?_
  refine bsl0 h2 Msg.cs fun v1 w3 h3 => ?_
  refine lpi3 (fun z t5 t6 t7 w => ∃ (i : Nat) (d : Bool) (c : List Msg), i ≤ l.length ∧ t6 = .bool d ∧ t7 = .int .i64 i ∧ z = l.length - i ∧ InsM l m i d c ∧ Sat e w (ownS 26 6 Msg.cs t5 c :: blk b 26 m.cs :: S :: R)) l.length
    ⟨0, false, [], Nat.zero_le _, rfl, rfl, rfl, ⟨fun _ => ⟨rfl, fun _ h => by cases h⟩, fun h => by cases h⟩, h3⟩ ?_
  rintro z t5 _ _ w g1 ⟨i, d, c, hi, rfl, rfl, rfl, hins, h4⟩ hg
  have hcl := hins.len hi
  refine lnS_rd h4 2 rfl hr ?_
  refine lt_c (fun c3 => iff_t ?_) (fun c3 => iff_f ?_)
  · obtain ⟨y, hy⟩ := get_of_lt (l := l) (j := i) (by omega)
    have hlast : ∀ t5 c' d' w, c'.length ≤ i + 1 → InsM l m (i + 1) d' (c' ++ [y]) → Sat e w (ownS 26 6 Msg.cs t5 c' :: blk b 26 m.cs :: S :: R) →
        ixS 6 v (.int .i64 (i : Int)) w fun t35 w => ldN 6 t35 w fun t36 w => bsl 26 6 1 (ints [0, 0, 0, 0, 0, 0]).toArray [(0, t36)] w fun t37 w => apS prog #[47, 47] 47 t5 t37 w fun t38 w =>
          bi .add .i64 (.int .i64 (i : Int)) (Value.int IntKind.i64 1) w fun t14 w => g1 [t38, .bool d', t14] w := by
      intro t5 c' d' w hc' hins' h5
      refine ixS_rd h5 2 rfl hr (fun _ => rfl) hy fun p hp => ?_
      refine ldN_of h5 2 rfl hp rfl ?_
      refine push1 te_47 (f := Msg.cs) (fun _ => rfl) (fun _ => ints_flat _) h5 (x := y) rfl (by omega) fun v' w6 h6 => ?_
      refine inc_s (by omega) ?_
      exact hg _ _ _ _ _ (by omega) ⟨i + 1, d', c' ++ [y], by omega, rfl, rfl, rfl, hins', h6⟩
    refine dr_s h4 fun w5 h5 => ?_
    cases d with
    | true =>
      refine not_t (gd_ft (gd_ft (gd_ft (gd_ft (gd_ft (gd_ft (gd_ft (gd_ft (gd_ft (pk_f (iff_f ?_)))))))))))
      refine hlast _ c true _ hcl ⟨(fun h => by cases h), fun _ => ?_⟩ h5
      obtain ⟨p, y', hp, hy', hxy, hlo, rfl⟩ := hins.yes rfl
      refine ⟨p, y', by omega, hy', hxy, hlo, ?_⟩
      rw [take_snoc hy, List.drop_append_of_le_length (by rw [List.length_take]; omega)]
      simp
    | false =>
      obtain ⟨rfl, hlo⟩ := hins.no rfl
      refine not_f (gd_tt (fld_at (gd_tt (ldN_at h5 1 (vs := m.key.cs) rfl (by rfl) rfl (gd_tt (gd_tt (gd_tt ?_)))))))
      refine ixS_rd h5 2 rfl hr (fun _ => rfl) hy fun p hp => ?_
      refine gd_tt (fld_of hp fun p1 hp1 => ?_)
      refine gd_tt (ldN_sub (us := y.key.cs) h5 2 rfl hp1 (by rfl) rfl ?_)
      refine gd_tt (ref01_Cmp_s h5 fun w8 h11 => ?_)
      refine gd_tt (lt_c (fun c4 => pk_t (iff_t ?_)) (fun c4 => pk_t (iff_f ?_)))
      · refine ldN_at h11 1 (vs := m.cs) rfl (by rfl) rfl ?_
        refine push1 te_47 (f := Msg.cs) (fun _ => rfl) (fun _ => ints_flat _) h11 (x := m) rfl (by omega) fun v' w9 h12 => ?_
        refine hlast _ (l.take i ++ [m]) true _ (by rw [List.length_append, List.length_take]; simp; omega) ⟨(fun h => by cases h), fun _ => ⟨i, y, by omega, hy, cmpK_lt.1 c4, hlo, ?_⟩⟩ h12
        rw [take_snoc hy, List.drop_append_of_le_length (by rw [List.length_take]; omega), List.drop_of_length_le (by rw [List.length_take]; omega)]
        simp
      · refine hlast _ (l.take i) false _ hcl ⟨fun _ => ⟨(take_snoc hy).symm, fun z hz => ?_⟩, fun h => by cases h⟩ h11
        rw [take_snoc hy] at hz
        rcases List.mem_append.1 hz with h | h
        · exact hlo z h
        · rw [List.mem_singleton.1 h]; exact fun h => c4 (cmpK_lt.2 h)
  · obtain rfl : i = l.length := by omega
    cases d with
    | true =>
      obtain ⟨p, y, hp, hy, hxy, hlo, rfl⟩ := hins.yes rfl
      rw [List.take_length] at h4
      refine not_t (iff_f (hk _ p _ ⟨by omega, hlo, .inr ⟨y, hy, hxy⟩⟩ ?_))
      exact h4.selR [_, _, _] [_, _] [0, 2] (by decide) rfl
    | false =>
      obtain ⟨rfl, hlo⟩ := hins.no rfl
      refine not_f (iff_t ?_)
      refine ldN_at h4 1 (vs := m.cs) rfl (by rfl) rfl ?_
      refine push1 te_47 (f := Msg.cs) (fun _ => rfl) (fun _ => ints_flat _) h4 (x := m) rfl (by omega) fun v' w9 h12 => ?_
      refine hk _ l.length _ ⟨Nat.le_refl _, hlo, .inl rfl⟩ ?_
      have e1 : insAt l m l.length = l.take l.length ++ [m] := by unfold insAt; rw [List.drop_length]
      rw [e1]
      exact h12.selR [_, _, _] [_, _] [0, 2] (by decide) rfl

theorem ref03_Push_s {q : Nat} {room : Int} {l : List Msg} {x : Msg} (hl : l.length ≤ 1000) (hS : Sat e w (IsPR q room l :: R))
    (h3 : (∃ y ∈ l, y.key = x.key) → ∀ w', Sat e w' (IsPR q room l :: R) → K (.int .i64 3) w')
    (h2 : (∀ y ∈ l, y.key ≠ x.key) → room ≤ l.length → ∀ w', Sat e w' (IsPR q room l :: R) → K (.int .i64 2) w')
    (h0 : (∀ y ∈ l, y.key ≠ x.key) → l.length < room → ∀ p w', Place l x p → Sat e w' (IsPR q room (insAt l x p) :: R) → K (.int .i64 0) w') :
    Cl prog 40 #[.pointer (some ⟨q, 0, none⟩), .agg x.cs.toArray] w K := by
  refine pacelineref03_Queue_Push_calls ?_
  unfold pacelineref03_Queue_Push
  refine al_s (cs := x.cs) hS rfl fun b w2 k2 => ?_
  refine fld_at (ldN_at k2 0 (vs := x.key.cs) rfl (by rfl) rfl ?_)
  refine ref03_find_s (by omega) k2.swap (fun hne w3 k3 => ?_) (fun i y hy hyk _ w3 k3 => ?_)
  · refine ge_f (by decide) (iff_f ?_)
    refine dr_s k3 fun w4 k4 => ?_
    obtain ⟨v, k5⟩ := pr_of k4
    refine ncP_p (fld_at (ld1_at k5 0 rfl (v := v) rfl ?_))
    refine lnS_rd k5 1 rfl (fun g hg => own_rd hg) ?_
    refine ncP_p (fld_at (ld1_at k5 0 rfl (v := .int .i64 room) rfl ?_))
    refine ge_c (fun c => iff_t (h2 hne c _ (k4.swap.drop))) (fun c => iff_f ?_)
    refine dr_s k5 fun w6 k6 => ?_
    refine ncP_p (fld_at (ld1_at k6 0 rfl (v := v) rfl ?_))
    refine ldN_at k6 2 (vs := x.cs) rfl (by rfl) rfl ?_
    refine ref03_Insert_s (by omega) (k6.pick 1 rfl) (fun g hg => own_rd hg) fun v' p w7 hp k7 => ?_
    refine ncP_p (fld_at ?_)
    refine st1_at k7 2 rfl (k7.own_cells 0 rfl) (Nat.le_of_ble_eq_true rfl) rfl fun w8 k8 => ?_
    exact h0 hne (by omega) p _ hp (pr_mk (k8.selR [_, _, _, _] [_, _] [2, 0] (by decide) rfl))
  · refine ge_t (by omega) (iff_t (h3 ⟨y, List.mem_of_getElem? hy, hyk⟩ _ (k3.swap.drop)))
end Go.Proofs.YtenglfaeohgkfaaGreat
namespace Go.Proofs.YtenglfaeohgkfaaGreat
open Go Go.E
set_option maxRecDepth 100000
variable {e w : World} {R : List HP} {K : KV}

def without (l : List Msg) (k : Key) : List Msg := l.filter fun x => !decide (x.key = k)
theorem filterM_snoc {p : Msg → Bool} {l : List Msg} {j : Nat} {x : Msg} (hx : l[j]? = some x) : (l.take (j + 1)).filter p = (l.take j).filter p ++ if p x then [x] else [] := by
  rw [take_snoc hx, List.filter_append]
  cases hpx : p x <;> simp [hpx]
theorem ref03_Without_s {v : Value} {l : List Msg} {k : Key} {S : HP} (hl : l.length ≤ 1000000) (hS : Sat e w (S :: R)) (hr : ∀ g, S g → rdS 6 Msg.cs v l g)
    (hk : ∀ v' w', Sat e w' (ownS 26 6 Msg.cs v' (without l k) :: S :: R) → K v' w') : Cl prog 77 #[v, .agg k.cs.toArray] w K := by
  refine pacelineref03_Without_calls ?_
  unfold pacelineref03_Without
  rw [zero_26]
  refine al_s (cs := k.cs) hS rfl fun b w2 h2 => ?_
  refine bsl0 h2 Msg.cs fun v1 w3 h3 => ?_
  refine lpi2 (fun z t5 t6 w => ∃ j : Nat, j ≤ l.length ∧ t6 = .int .i64 j ∧ z = l.length - j ∧ Sat e w (ownS 26 6 Msg.cs t5 ((l.take j).filter fun x => !decide (x.key = k)) :: blk b 24 k.cs :: S :: R)) l.length
    ⟨0, Nat.zero_le _, rfl, rfl, h3⟩ ?_
  rintro z t5 _ w g ⟨j, hj, rfl, rfl, h4⟩ hg
  refine lnS_rd h4 2 rfl hr ?_
  refine lt_c (fun c => iff_t ?_) (fun c => iff_f ?_)
  · obtain ⟨x, hx⟩ := get_of_lt (l := l) (j := j) (by omega)
    have hn2 := List.length_filter_le (fun x : Msg => !decide (x.key = k)) (l.take j)
    have hn3 : (l.take j).length ≤ 1000000 := by simp; omega
    refine J1.cut (fun t5 w => Sat e w (ownS 26 6 Msg.cs t5 ((l.take (j + 1)).filter fun x => !decide (x.key = k)) :: blk b 24 k.cs :: S :: R)) (fun k2 hcut => ?_) (fun t5 w h5 => ?_)
    · rw [filterM_snoc hx] at hcut
      refine dr_s h4 fun w5 h5 => ?_
      refine ixS_rd h5 2 rfl hr (fun _ => rfl) hx fun p hp => ?_
      refine fld_of hp fun p1 hp1 => ?_
      refine ldN_sub (us := x.key.cs) h5 2 rfl hp1 (by rfl) rfl ?_
      refine ldN_at h5 1 (vs := k.cs) rfl (by rfl) rfl ?_
      refine bO_ne (ns := x.key.ns) (ms := k.ns) eqT_24 agg_24 egt_24 (by decide) rfl ?_
      rw [Key.eq_ns]
      by_cases hxk : x.key = k
      · rw [decide_eq_true hxk] at hcut ⊢
        refine iff_f (hcut _ _ ?_)
        simpa using h5
      · rw [decide_eq_false hxk] at hcut ⊢
        refine iff_t ?_
        refine ixS_rd h5 2 rfl hr (fun _ => rfl) hx fun p hp => ?_
        refine ldN_of h5 2 rfl hp rfl ?_
        refine push1 te_47 (f := Msg.cs) (fun _ => rfl) (fun _ => ints_flat _) h5 (x := x) rfl (by omega) fun v' w6 h6 => ?_
        exact hcut _ _ h6
    · refine inc_s (by omega) ?_
      exact hg _ _ _ _ (by omega) ⟨j + 1, by omega, rfl, rfl, h5⟩
  · obtain rfl : j = l.length := by omega
    rw [List.take_length] at h4
    exact hk _ _ (h4.selR [_, _, _] [_, _] [0, 2] (by decide) rfl)
theorem ref03_Len_s {q : Nat} {room : Int} {l : List Msg} (hS : Sat e w (IsPR q room l :: R)) (hk : K (.int .i64 (l.length : Int)) w) : Cl prog 161 #[.pointer (some ⟨q, 0, none⟩)] w K := by
  obtain ⟨v, h1⟩ := pr_of hS
  refine pacelineref03_Queue_Len_calls ?_
  unfold pacelineref03_Queue_Len
  refine ncP_p (fld_at (ld1_at h1 0 rfl (v := v) rfl ?_))
  exact lnS_rd h1 1 rfl (fun g hg => own_rd hg) hk
theorem ref03_First_none {q : Nat} {room : Int} (hS : Sat e w (IsPR q room [] :: R)) (hk : ∀ w', Sat e w' (IsPR q room [] :: R) → K (.tuple #[.agg Msg.zero.cs.toArray, .bool false]) w') : Cl prog 52 #[.pointer (some ⟨q, 0, none⟩)] w K := by
  refine pacelineref03_Queue_First_calls ?_
  unfold pacelineref03_Queue_First
  rw [zero_26]
  obtain ⟨v, h1⟩ := pr_of hS
  refine al_s (cs := ints [0, 0, 0, 0, 0, 0]) h1 rfl fun d w3 h3 => ?_
  refine ncP_p (fld_at (ld1_at h3 1 rfl (v := v) rfl ?_))
  refine lnS_rd h3 2 rfl (fun g hg => own_rd hg) ?_
  refine eq_t rfl (iff_t ?_)
  refine bld_s Msg.zero.cs (by kernel_rfl) ?_
  refine stN_at h3 0 rfl (vs := Msg.zero.cs) rfl rfl (Nat.le_of_ble_eq_true rfl) (ints_flat _) (cs' := Msg.zero.cs) (by kernel_rfl) fun w4 h4 => ?_
  refine ldN_at h4 0 (vs := Msg.zero.cs) rfl (by rfl) rfl ?_
  exact hk _ (pr_mk h4.drop)
theorem ref03_First_s {q : Nat} {room : Int} {l : List Msg} {x : Msg} (hx : l[0]? = some x) (hS : Sat e w (IsPR q room l :: R))
    (hk : ∀ w', Sat e w' (IsPR q room l :: R) → K (.tuple #[.agg x.cs.toArray, .bool true]) w') : Cl prog 52 #[.pointer (some ⟨q, 0, none⟩)] w K := by
  refine pacelineref03_Queue_First_calls ?_
  unfold pacelineref03_Queue_First
  rw [zero_26]
  obtain ⟨v, h1⟩ := pr_of hS
  have h0 := (List.getElem?_eq_some_iff.1 hx).1
  refine al_s (cs := ints [0, 0, 0, 0, 0, 0]) h1 rfl fun d w3 h3 => ?_
  refine ncP_p (fld_at (ld1_at h3 1 rfl (v := v) rfl ?_))
  refine lnS_rd h3 2 rfl (fun g hg => own_rd hg) ?_
  refine eq_f (by omega) (iff_f ?_)
  refine ncP_p (fld_at (ld1_at h3 1 rfl (v := v) rfl ?_))
  refine ixS_rd (j := 0) h3 2 rfl (fun g hg => own_rd hg) (fun _ => rfl) hx fun p hp => ?_
  refine ldN_of h3 2 rfl hp rfl ?_
  refine stN_at h3 0 rfl (vs := x.cs) rfl rfl (Nat.le_of_ble_eq_true rfl) (ints_flat _) (cs' := x.cs) (by kernel_rfl) fun w4 h4 => ?_
  refine ldN_at h4 0 (vs := x.cs) rfl (by rfl) rfl ?_
  exact hk _ (pr_mk h4.drop)
theorem ref03_Pop_none {q : Nat} {room : Int} (hS : Sat e w (IsPR q room [] :: R)) (hk : ∀ w', Sat e w' (IsPR q room [] :: R) → K (.tuple #[.agg Msg.zero.cs.toArray, .bool false]) w') : Cl prog 44 #[.pointer (some ⟨q, 0, none⟩)] w K := by
  refine pacelineref03_Queue_Pop_calls ?_
  unfold pacelineref03_Queue_Pop
  rw [zero_26]
  refine al_s (cs := ints [0, 0, 0, 0, 0, 0]) hS rfl fun d w3 h3 => ?_
  refine ref03_First_none h3.swap fun w4 h4 => ?_
  refine xt_02 (xt_12 ?_)
  refine al_s (cs := ints [0, 0, 0, 0, 0, 0]) h4 rfl fun d2 w5 h5 => ?_
  refine stN_at h5 0 rfl (vs := Msg.zero.cs) rfl rfl (Nat.le_of_ble_eq_true rfl) (ints_flat _) (cs' := Msg.zero.cs) (by kernel_rfl) fun w6 h6 => ?_
  refine iff_f ?_
  refine ldN_at h6 0 (vs := Msg.zero.cs) rfl (by rfl) rfl ?_
  refine stN_at h6 2 rfl (vs := Msg.zero.cs) rfl rfl (Nat.le_of_ble_eq_true rfl) (ints_flat _) (cs' := Msg.zero.cs) (by kernel_rfl) fun w7 h7 => ?_
  refine ldN_at h7 2 (vs := Msg.zero.cs) rfl (by rfl) rfl ?_
  exact hk _ (h7.selR [_, _, _] [_] [1] (by decide) rfl)
theorem ref03_Pop_s {q : Nat} {room : Int} {l : List Msg} {x : Msg} (hl : l.length ≤ 1000) (hx : l[0]? = some x) (hS : Sat e w (IsPR q room l :: R))
    (hk : ∀ w', Sat e w' (IsPR q room (without l x.key) :: R) → K (.tuple #[.agg x.cs.toArray, .bool true]) w') : Cl prog 44 #[.pointer (some ⟨q, 0, none⟩)] w K := by
  refine pacelineref03_Queue_Pop_calls ?_
  unfold pacelineref03_Queue_Pop
  rw [zero_26]
  refine al_s (cs := ints [0, 0, 0, 0, 0, 0]) hS rfl fun d w3 h3 => ?_
  refine ref03_First_s hx h3.swap fun w4 h4 => ?_
  refine xt_02 (xt_12 ?_)
  refine al_s (cs := ints [0, 0, 0, 0, 0, 0]) h4 rfl fun d2 w5 h5 => ?_
  refine stN_at h5 0 rfl (vs := x.cs) rfl rfl (Nat.le_of_ble_eq_true rfl) (ints_flat _) (cs' := x.cs) (by kernel_rfl) fun w6 h6 => ?_
  refine iff_t ?_
  refine dr_s h6 fun w7 h7 => ?_
  obtain ⟨v, h8⟩ := pr_of (h7.selR [_, _, _] [_, _, _] [1, 0, 2] (by decide) rfl)
  refine ncP_p (fld_at (ld1_at h8 0 rfl (v := v) rfl ?_))
  refine fld_at (ldN_at h8 2 (vs := x.key.cs) rfl (by rfl) rfl ?_)
  refine ref03_Without_s (by omega) (h8.pick 1 rfl) (fun g hg => own_rd hg) fun v' w8 h9 => ?_
  refine ncP_p (fld_at ?_)
  refine st1_at h9 2 rfl (h9.own_cells 0 rfl) (Nat.le_of_ble_eq_true rfl) rfl fun w9 h10 => ?_
  refine ldN_at h10 3 (vs := x.cs) rfl (by rfl) rfl ?_
  refine stN_at h10 4 rfl (vs := x.cs) rfl rfl (Nat.le_of_ble_eq_true rfl) (ints_flat _) (cs' := x.cs) (by kernel_rfl) fun w10 h11 => ?_
  refine ldN_at h11 4 (vs := x.cs) rfl (by rfl) rfl ?_
  exact hk _ (pr_mk (h11.selR [_, _, _, _, _] [_, _] [2, 0] (by decide) rfl))
theorem ref03_List_s {q : Nat} {room : Int} {l : List Msg} (hl : l.length ≤ 1000) (hS : Sat e w (IsPR q room l :: R))
    (hk : ∀ v w', Sat e w' (ownS 26 6 Msg.cs v l :: IsPR q room l :: R) → K v w') : Cl prog 55 #[.pointer (some ⟨q, 0, none⟩)] w K := by
  refine pacelineref03_Queue_List_calls ?_
  unfold pacelineref03_Queue_List
  refine bsl0 hS Msg.cs fun v1 w2 h2 => ?_
  obtain ⟨v, h3⟩ := pr_of h2.swap
  refine ncP_p (fld_at (ld1_at h3 0 rfl (v := v) rfl ?_))
  refine apS_own te_47 und_47 (f := Msg.cs) (fun _ => rfl) (fun _ => ints_flat _) (h3.selR [_, _, _] [_, _, _] [2, 1, 0] (by decide) rfl) (fun g hg => own_rd hg) (by simp; omega) fun v2 w3 h4 => ?_
  rw [List.nil_append] at h4
  exact hk _ _ (Sat.swap (pr_mk (h4.selR [_, _, _] [_, _, _] [2, 1, 0] (by decide) rfl)))
end Go.Proofs.YtenglfaeohgkfaaGreat
