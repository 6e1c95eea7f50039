/- Queues: what the heap's face of a queue does, Push, and the heap's up. Conditions: at most a thousand messages. -/
import Derived.Test.YtmgaooeeddmbmaaGreatDoorTimeB
import Derived.Test.YtmgaooeeddmbmaaGreatDoorPfTy
import Derived.Test.YtmgaooeeddmbmaaGreatDoorEngR
import Derived.Test.YtmgaooeeddmbmaaGreatDoorEngS
import Derived.Test.YtmgaooeeddmbmaaGreatDoorPf0
import Derived.Test.YtmgaooeeddmbmaaGreatDoorPf1
import Derived.Test.YtmgaooeeddmbmaaGreatDoorPf2
import Derived.Test.YtmgaooeeddmbmaaGreatDoorPf3
import Derived.Test.YtmgaooeeddmbmaaGreatDoorPf4
namespace Go.Proofs.YtmgaooeeddmbmaaGreatDoor
open Go Go.E
set_option maxRecDepth 100000
variable {e w : World} {R : List HP} {K : KV}

def kfK (k : Key) : Value := .agg k.cs.toArray
def vfN (n : Nat) : Value := .int .i64 (n : Int)
theorem keyT_Key : KeyT prog 40 kfK :=
  keyT_chk (κ := Key) (ns := Key.ns) (n := 6) Tryz.underlying40 eqT_40 agg_40 (by decide) (fun _ => rfl) Key.eq_ns (fun b k w => by cases b <;> kernel_rfl)

/-- Where each key stands. -/
structure AtOk (m : List (Key × Nat)) (l : List Msg) : Prop where
  u : Uniq m
  ok : ∀ (k : Key) (i : Nat), lkA m k = some i ↔ ∃ x, l[i]? = some x ∧ x.key = k
theorem AtOk.nil : AtOk [] [] := ⟨List.nodup_nil, fun k i => by simp [lkA]⟩
theorem AtOk.inj {m : List (Key × Nat)} {l : List Msg} (h : AtOk m l) {i j : Nat} {x y : Msg} (hx : l[i]? = some x) (hy : l[j]? = some y) (hk : x.key = y.key) : i = j := by
  have h1 := (h.ok x.key i).2 ⟨x, hx, rfl⟩
  have h2 := (h.ok x.key j).2 ⟨y, hy, hk.symm⟩
  rw [h1] at h2
  injection h2
theorem AtOk.has {m : List (Key × Nat)} {l : List Msg} (h : AtOk m l) (k : Key) : (lkA m k).isSome = true ↔ ∃ x ∈ l, x.key = k := by
  constructor
  · intro hs
    obtain ⟨i, hi⟩ := Option.isSome_iff_exists.1 hs
    obtain ⟨x, hx, hk⟩ := (h.ok k i).1 hi
    exact ⟨x, List.mem_of_getElem? hx, hk⟩
  · rintro ⟨x, hx, hk⟩
    obtain ⟨i, hi⟩ := List.mem_iff_getElem?.1 hx
    rw [(h.ok k i).2 ⟨x, hi, hk⟩]
    rfl
theorem AtOk.push {m : List (Key × Nat)} {l : List Msg} (h : AtOk m l) {x : Msg} (hx : ∀ y ∈ l, y.key ≠ x.key) : AtOk (upA m x.key l.length) (l ++ [x]) := by
  refine ⟨h.u.up _ _, fun k i => ?_⟩
  rw [lkA_up h.u]
  by_cases hk : k = x.key
  · rw [if_pos hk]
    constructor
    · intro hi
      injection hi with hi
      subst hi
      exact ⟨x, by simp, hk.symm⟩
    · rintro ⟨y, hy, hyk⟩
      by_cases hil : i < l.length
      · rw [List.getElem?_append_left hil] at hy
        exact absurd (hyk.trans hk) (hx y (List.mem_of_getElem? hy))
      · have hle := (List.getElem?_eq_some_iff.1 hy).1
        rw [List.length_append] at hle
        simp only [List.length_cons, List.length_nil] at hle
        rw [show i = l.length by omega]
  · rw [if_neg hk, h.ok k i]
    constructor
    · rintro ⟨y, hy, hyk⟩
      exact ⟨y, by rw [List.getElem?_append_left (List.getElem?_eq_some_iff.1 hy).1]; exact hy, hyk⟩
    · rintro ⟨y, hy, hyk⟩
      by_cases hil : i < l.length
      · rw [List.getElem?_append_left hil] at hy
        exact ⟨y, hy, hyk⟩
      · have hle := (List.getElem?_eq_some_iff.1 hy).1
        rw [List.length_append] at hle
        simp only [List.length_cons, List.length_nil] at hle
        rw [show i = l.length by omega] at hy
        have : y = x := by simpa using hy.symm
        rw [this] at hyk
        exact absurd hyk.symm hk
/-- The exchange of two. -/
def swapM (l : List Msg) (i k : Nat) (x y : Msg) : List Msg := (l.set i y).set k x
theorem swapM_len (l : List Msg) (i k : Nat) (x y : Msg) : (swapM l i k x y).length = l.length := by simp [swapM]
theorem swapM_get {l : List Msg} {i k : Nat} {x y : Msg} (hx : l[i]? = some x) (hy : l[k]? = some y) (n : Nat) : (swapM l i k x y)[n]? = if n = k then some x else if n = i then some y else l[n]? := by
  have hi := (List.getElem?_eq_some_iff.1 hx).1
  have hk := (List.getElem?_eq_some_iff.1 hy).1
  unfold swapM
  rw [List.getElem?_set]
  by_cases h : k = n
  · subst h; simp [hk]
  · have h' : ¬ n = k := fun e => h e.symm
    rw [if_neg h, if_neg h', List.getElem?_set]
    by_cases h2 : i = n
    · subst h2; simp [hi]
    · have h2' : ¬ n = i := fun e => h2 e.symm
      rw [if_neg h2, if_neg h2']
theorem AtOk.swap {m : List (Key × Nat)} {l : List Msg} (h : AtOk m l) {i k : Nat} {x y : Msg} (hx : l[i]? = some x) (hy : l[k]? = some y) : AtOk (upA (upA m y.key i) x.key k) (swapM l i k x y) := by
  have u1 := h.u.up y.key i
  refine ⟨u1.up _ _, fun q n => ?_⟩
  rw [lkA_up u1, lkA_up h.u, swapM_get hx hy]
  by_cases h1 : q = x.key
  · rw [if_pos h1]
    constructor
    · intro hn
      injection hn with hn
      subst hn
      exact ⟨x, by rw [if_pos rfl], h1.symm⟩
    · rintro ⟨z, hz, hzk⟩
      split at hz
      · rename_i e; rw [e]
      · split at hz
        · rename_i e1 e2
          injection hz with hz
          subst hz
          have := h.inj hx hy (by rw [hzk, h1])
          omega
        · rename_i e1 e2
          have := h.inj hz hx (by rw [hzk, h1])
          omega
  · rw [if_neg h1]
    by_cases h2 : q = y.key
    · rw [if_pos h2]
      constructor
      · intro hn
        injection hn with hn
        subst hn
        refine ⟨y, ?_, h2.symm⟩
        by_cases hik : i = k
        · subst hik
          rw [hx] at hy
          injection hy with hy
          subst hy
          exact absurd h2 h1
        · rw [if_neg hik, if_pos rfl]
      · rintro ⟨z, hz, hzk⟩
        split at hz
        · injection hz with hz
          subst hz
          exact absurd hzk.symm h1
        · split at hz
          · rename_i e1 e2; rw [e2]
          · rename_i e1 e2
            have := h.inj hz hy (by rw [hzk, h2])
            omega
    · rw [if_neg h2, h.ok q n]
      constructor
      · rintro ⟨z, hz, hzk⟩
        refine ⟨z, ?_, hzk⟩
        have n1 : n ≠ k := fun e => by subst e; rw [hy] at hz; injection hz with hz; subst hz; exact h2 hzk.symm
        have n2 : n ≠ i := fun e => by subst e; rw [hx] at hz; injection hz with hz; subst hz; exact h1 hzk.symm
        rw [if_neg n1, if_neg n2]
        exact hz
      · rintro ⟨z, hz, hzk⟩
        split at hz
        · injection hz with hz; subst hz; exact absurd hzk.symm h1
        · split at hz
          · injection hz with hz; subst hz; exact absurd hzk.symm h2
          · exact ⟨z, hz, hzk⟩
theorem swapM_perm {l : List Msg} {i k : Nat} {x y : Msg} (hx : l[i]? = some x) (hy : l[k]? = some y) : (swapM l i k x y).Perm l := by
  have hi := (List.getElem?_eq_some_iff.1 hx)
  have hk := (List.getElem?_eq_some_iff.1 hy)
  by_cases hik : i = k
  · subst hik
    rw [hx] at hy
    injection hy with hy
    subst hy
    have : swapM l i i x x = l := by
      apply List.ext_getElem?
      intro n
      rw [swapM_get hx hx]
      split
      · rename_i e; subst e; exact hx.symm
      · rfl
    rw [this]
  · unfold swapM
    have h1 := List.set_set_perm hi.1 hk.1
    rw [hi.2, hk.2] at h1
    exact h1

structure PX where
  (v : Value) (b : Nat) (m : List (Key × Nat))
def IsPrio (q : Nat) (room : Int) (l : List Msg) : HP := hex fun x : PX => sepL [pur (AtOk x.m l), blk q 86 [.int .i64 room, x.v, .map (some x.b)], ownS 42 6 Msg.cs x.v l, isMap kfK vfN x.b x.m]
theorem prio_of {q : Nat} {room : Int} {l : List Msg} (h : Sat e w (IsPrio q room l :: R)) : ∃ v b m, AtOk m l ∧ Sat e w (blk q 86 [.int .i64 room, v, .map (some b)] :: ownS 42 6 Msg.cs v l :: isMap kfK vfN b m :: R) := by
  obtain ⟨x, h0⟩ := h.ex
  exact ⟨x.v, x.b, x.m, Sat.pure h0.split⟩
theorem prio_mk {q : Nat} {room : Int} {l : List Msg} {v : Value} {b : Nat} {m : List (Key × Nat)} (ha : AtOk m l) (h : Sat e w (blk q 86 [.int .i64 room, v, .map (some b)] :: ownS 42 6 Msg.cs v l :: isMap kfK vfN b m :: R)) : Sat e w (IsPrio q room l :: R) :=
  .mk_ex ⟨v, b, m⟩ (.join (l' := [_, _, _, _]) (.mk_pure ha h))

theorem prio_New_s {n : Int} (hS : Sat e w R) (hk : ∀ q w', Sat e w' (IsPrio q (max 0 (min n 64)) [] :: R) → K (.pointer (some ⟨q, 0, none⟩)) w') : Cl prog 16 #[.int .i64 n] w K := by
  refine prio_New_calls ?_
  unfold prio_New
  refine min_s (max_s ?_)
  refine mkMap_s kfK vfN hS fun b w1 h1 => ?_
  rw [zero_86]
  refine bld_s [.int .i64 (max 0 (min n 64)), .slice none 0 0, .map (some b)] (by kernel_rfl) ?_
  refine al_s (cs := [.int .i64 (max 0 (min n 64)), .slice none 0 0, .map (some b)]) h1 rfl fun q w2 h2 => ?_
  refine hk _ _ (prio_mk (v := .slice none 0 0) AtOk.nil ((h2.own_nil 42 6 Msg.cs).selR [_, _, _] [_, _, _] [1, 0, 2] (by decide) rfl))
theorem prio_Len_s {q : Nat} {room : Int} {l : List Msg} (hS : Sat e w (IsPrio q room l :: R)) (hk : K (.int .i64 (l.length : Int)) w) : Cl prog 25 #[.pointer (some ⟨q, 0, none⟩)] w K := by
  obtain ⟨v, b, m, ha, h1⟩ := prio_of hS
  refine prio_Queue_Len_calls ?_
  unfold prio_Queue_Len
  refine ncP_p (fld_at (ld1_at h1 0 rfl (v := v) rfl ?_))
  exact lnS_rd h1 1 rfl (fun g hg => own_rd hg) hk

/-! ### As the heap sees it -/
abbrev rcv (q : Nat) : Value := .agg #[.pointer (some ⟨q, 0, none⟩)]
theorem faced_Len_s {q : Nat} {room : Int} {l : List Msg} (hS : Sat e w (IsPrio q room l :: R)) (hk : ∀ w', Sat e w' (IsPrio q room l :: R) → K (.int .i64 (l.length : Int)) w') : clI prog (.iface 106 (rcv q)) "Len" #[] w K := by
  refine clI_s (f := 112) (rcv := rcv q) (by kernel_rfl) ?_
  refine prio_faced_Len_calls (t0 := rcv q) ?_
  unfold prio_faced_Len
  obtain ⟨v, b, m, ha, h1⟩ := prio_of hS
  refine al_s (cs := [.pointer (some ⟨q, 0, none⟩)]) h1 rfl fun c w2 h2 => ?_
  refine fld_at (ld1_at h2 0 rfl (v := .pointer (some ⟨q, 0, none⟩)) rfl ?_)
  refine ncP_p (fld_at (ld1_at h2 1 rfl (v := v) rfl ?_))
  exact lnS_rd h2 2 rfl (fun g hg => own_rd hg) (hk _ (prio_mk ha h2.drop))
theorem faced_Less_s {q i k : Nat} {room : Int} {l : List Msg} {x y : Msg} (hx : l[i]? = some x) (hy : l[k]? = some y) (hS : Sat e w (IsPrio q room l :: R)) (hk : ∀ w', Sat e w' (IsPrio q room l :: R) → K (.bool (decide (cmpK x.key y.key < 0))) w') :
    clI prog (.iface 106 (rcv q)) "Less" #[.int .i64 (i : Int), .int .i64 (k : Int)] w K := by
  refine clI_s (f := 113) (rcv := rcv q) (by kernel_rfl) ?_
  refine prio_faced_Less_calls (t0 := rcv q) (t1 := .int .i64 (i : Int)) (t2 := .int .i64 (k : Int)) ?_
  unfold prio_faced_Less
  obtain ⟨v, b, m, ha, h1⟩ := prio_of hS
  refine al_s (cs := [.pointer (some ⟨q, 0, none⟩)]) h1 rfl fun c w2 h2 => ?_
  refine dr_s h2 fun w3 h3 => ?_
  refine fld_at (ld1_at h3 0 rfl (v := .pointer (some ⟨q, 0, none⟩)) rfl ?_)
  refine ncP_p (fld_at (ld1_at h3 1 rfl (v := v) rfl ?_))
  refine ixS_rd h3 2 rfl (fun g hg => own_rd hg) (fun _ => rfl) hx fun p hp => ?_
  refine fld_of hp fun p1 hp1 => ?_
  refine ldN_sub (us := x.key.cs) h3 2 rfl hp1 (by rfl) rfl ?_
  refine fld_at (ld1_at h3 0 rfl (v := .pointer (some ⟨q, 0, none⟩)) rfl ?_)
  refine ncP_p (fld_at (ld1_at h3 1 rfl (v := v) rfl ?_))
  refine ixS_rd h3 2 rfl (fun g hg => own_rd hg) (fun _ => rfl) hy fun p hp => ?_
  refine fld_of hp fun p1 hp1 => ?_
  refine ldN_sub (us := y.key.cs) h3 2 rfl hp1 (by rfl) rfl ?_
  refine vtime_Cmp_s h3 fun w4 h4 => ?_
  exact lt_d (hk _ (prio_mk ha h4.drop))
theorem faced_Swap_s {q i k : Nat} {room : Int} {l : List Msg} {x y : Msg} (hx : l[i]? = some x) (hy : l[k]? = some y) (hS : Sat e w (IsPrio q room l :: R)) (hk : ∀ w', Sat e w' (IsPrio q room (swapM l i k x y) :: R) → K (.tuple #[]) w') :
    clI prog (.iface 106 (rcv q)) "Swap" #[.int .i64 (i : Int), .int .i64 (k : Int)] w K := by
  refine clI_s (f := 116) (rcv := rcv q) (by kernel_rfl) ?_
  refine prio_faced_Swap_calls (t0 := rcv q) (t1 := .int .i64 (i : Int)) (t2 := .int .i64 (k : Int)) ?_
  unfold prio_faced_Swap
  obtain ⟨v, b, m, ha, h1⟩ := prio_of hS
  have hi := (List.getElem?_eq_some_iff.1 hx).1
  have hkl := (List.getElem?_eq_some_iff.1 hy).1
  refine al_s (cs := [.pointer (some ⟨q, 0, none⟩)]) h1 rfl fun c w2 h2 => ?_
  refine dr_s h2 fun w3 h3 => ?_
  refine fld_at (ld1_at h3 0 rfl (v := .pointer (some ⟨q, 0, none⟩)) rfl ?_)
  refine ncP_p (fld_at (ld1_at h3 1 rfl (v := v) rfl ?_))
  refine fld_at (ld1_at h3 0 rfl (v := .pointer (some ⟨q, 0, none⟩)) rfl ?_)
  refine ncP_p (fld_at (ld1_at h3 1 rfl (v := v) rfl ?_))
  refine fld_at (ld1_at h3 0 rfl (v := .pointer (some ⟨q, 0, none⟩)) rfl ?_)
  refine ncP_p (fld_at (ld1_at h3 1 rfl (v := v) rfl ?_))
  refine ixS_rd h3 2 rfl (fun g hg => own_rd hg) (fun _ => rfl) hy fun p hp => ?_
  refine ldN_of h3 2 rfl hp rfl ?_
  refine fld_at (ld1_at h3 0 rfl (v := .pointer (some ⟨q, 0, none⟩)) rfl ?_)
  refine ncP_p (fld_at (ld1_at h3 1 rfl (v := v) rfl ?_))
  refine ixS_rd h3 2 rfl (fun g hg => own_rd hg) (fun _ => rfl) hx fun p hp => ?_
  refine ldN_of h3 2 rfl hp rfl ?_
  refine st_own' h3 2 rfl (fun _ => rfl) hi (x := y) rfl (ints_flat _) fun w4 h4 => ?_
  refine st_own' h4 2 rfl (fun _ => rfl) (by rw [List.length_set]; exact hkl) (x := x) rfl (ints_flat _) fun w5 h5 => ?_
  replace h5 : Sat e w5 (blk c 106 [.pointer (some ⟨q, 0, none⟩)] :: blk q 86 [.int .i64 room, v, .map (some b)] :: ownS 42 6 Msg.cs v (swapM l i k x y) :: isMap kfK vfN b m :: R) := h5
  have hgi : (swapM l i k x y)[i]? = some y := by
    rw [swapM_get hx hy]
    by_cases hik : i = k
    · subst hik; rw [if_pos rfl]; rw [hx] at hy; exact hy
    · rw [if_neg hik, if_pos rfl]
  have hgk : (swapM l i k x y)[k]? = some x := by rw [swapM_get hx hy, if_pos rfl]
  refine dr_s h5 fun w6 h6 => ?_
  refine fld_at (ld1_at h6 0 rfl (v := .pointer (some ⟨q, 0, none⟩)) rfl ?_)
  refine ncP_p (fld_at (ld1_at h6 1 rfl (v := .map (some b)) rfl ?_))
  refine fld_at (ld1_at h6 0 rfl (v := .pointer (some ⟨q, 0, none⟩)) rfl ?_)
  refine ncP_p (fld_at (ld1_at h6 1 rfl (v := v) rfl ?_))
  refine ixS_rd h6 2 rfl (fun g hg => own_rd hg) (fun _ => rfl) hgi fun p hp => ?_
  refine fld_of hp fun p1 hp1 => ?_
  refine ldN_sub (us := y.key.cs) h6 2 rfl hp1 (by rfl) rfl ?_
  refine fld_at (ld1_at h6 0 rfl (v := .pointer (some ⟨q, 0, none⟩)) rfl ?_)
  refine ncP_p (fld_at (ld1_at h6 1 rfl (v := .map (some b)) rfl ?_))
  refine fld_at (ld1_at h6 0 rfl (v := .pointer (some ⟨q, 0, none⟩)) rfl ?_)
  refine ncP_p (fld_at (ld1_at h6 1 rfl (v := v) rfl ?_))
  refine ixS_rd h6 2 rfl (fun g hg => own_rd hg) (fun _ => rfl) hgk fun p hp => ?_
  refine fld_of hp fun p1 hp1 => ?_
  refine ldN_sub (us := x.key.cs) h6 2 rfl hp1 (by rfl) rfl ?_
  have hy1 : (lkA m y.key).isSome = true := (ha.has y.key).2 ⟨y, List.mem_of_getElem? hy, rfl⟩
  have hx1 : (lkA (upA m y.key i) x.key).isSome = true := by
    rw [lkA_up ha.u]
    split
    · rfl
    · exact (ha.has x.key).2 ⟨x, List.mem_of_getElem? hx, rfl⟩
  refine mes_s keyT_Key mapT_84 ha.u (h6.pick 3 rfl) y.key i rfl hy1 fun w7 h7 => ?_
  refine mes_s keyT_Key mapT_84 (ha.u.up _ _) h7 x.key k rfl hx1 fun w8 h8 => ?_
  exact hk _ (prio_mk (ha.swap hx hy) (h8.selR [_, _, _, _] [_, _, _] [2, 3, 0] (by decide) rfl))
theorem faced_Push_s {q : Nat} {room : Int} {l : List Msg} {x : Msg} (hx : ∀ y ∈ l, y.key ≠ x.key) (hl : l.length ≤ 1000) (hS : Sat e w (IsPrio q room l :: R)) (hk : ∀ w', Sat e w' (IsPrio q room (l ++ [x]) :: R) → K (.tuple #[]) w') :
    clI prog (.iface 106 (rcv q)) "Push" #[.iface 42 (.agg x.cs.toArray)] w K := by
  refine clI_s (f := 115) (rcv := rcv q) (by kernel_rfl) ?_
  refine prio_faced_Push_calls (t0 := rcv q) (t1 := .iface 42 (.agg x.cs.toArray)) ?_
  unfold prio_faced_Push
  obtain ⟨v, b, m, ha, h1⟩ := prio_of hS
  refine al_s (cs := [.pointer (some ⟨q, 0, none⟩)]) h1 rfl fun c w2 h2 => ?_
  refine tyA_ok (by kernel_rfl) ?_
  rw [zero_42]
  refine al_s (cs := ints [0, 0, 0, 0, 0, 0]) h2 rfl fun d w3 h3 => ?_
  refine stN_at h3 0 rfl (vs := x.cs) rfl rfl (Nat.le_of_ble_eq_true rfl) (ints_flat _) (cs' := x.cs) (by kernel_rfl) fun w4 h4 => ?_
  refine dr_s h4 fun w5 h5 => ?_
  refine fld_at (ld1_at h5 1 rfl (v := .pointer (some ⟨q, 0, none⟩)) rfl ?_)
  refine ncP_p (fld_at (ld1_at h5 2 rfl (v := .map (some b)) rfl ?_))
  refine fld_at (ldN_at h5 0 (vs := x.key.cs) rfl (by rfl) rfl ?_)
  refine fld_at (ld1_at h5 1 rfl (v := .pointer (some ⟨q, 0, none⟩)) rfl ?_)
  refine ncP_p (fld_at (ld1_at h5 2 rfl (v := v) rfl ?_))
  refine lnS_rd h5 3 rfl (fun g hg => own_rd hg) ?_
  refine upM_s keyT_Key mapT_84 ha.u (h5.pick 4 rfl) x.key l.length rfl fun w6 h6 => ?_
  replace h6 : Sat e w6 (ownS 42 6 Msg.cs v l :: blk d 42 x.cs :: blk c 106 [.pointer (some ⟨q, 0, none⟩)] :: blk q 86 [.int .i64 room, v, .map (some b)] :: isMap kfK vfN b (upA m x.key l.length) :: R) :=
    h6.selR [_, _, _, _, _] [_, _, _, _, _] [4, 1, 2, 3, 0] (by decide) rfl
  refine dr_s h6 fun w7 h7 => ?_
  refine fld_at (ld1_at h7 2 rfl (v := .pointer (some ⟨q, 0, none⟩)) rfl ?_)
  refine fld_at (ld1_at h7 2 rfl (v := .pointer (some ⟨q, 0, none⟩)) rfl ?_)
  refine ncP_p (fld_at (ld1_at h7 3 rfl (v := v) rfl ?_))
  refine ldN_at h7 1 (vs := x.cs) rfl (by rfl) rfl ?_
  refine bsl1 (vs := x.cs) rfl rfl h7 fun b30 w8 h8 => ?_
  refine ⟨ld1_at h8 4 rfl rfl ⟨rfl, rfl⟩, ld1_at h8 3 rfl rfl ⟨rfl, rfl⟩, ld1_at h8 3 rfl rfl ⟨rfl, rfl⟩, ?_⟩
  refine apS_own te_34 und_34 (f := Msg.cs) (fun _ => rfl) (fun _ => ints_flat _) h8.swap (m := [x]) (blk_rd1 (f := Msg.cs) (x := x) (Nat.le_refl _)) (by simp; omega) fun v' w9 h9 => ?_
  refine ⟨ld1_at h9 3 rfl rfl ⟨rfl, rfl⟩, ?_⟩
  refine ncP_p (fld_at ?_)
  refine st1_at h9 4 rfl (h9.own_cells 0 rfl) (Nat.le_of_ble_eq_true rfl) rfl fun w10 h10 => ?_
  exact hk _ (prio_mk (ha.push hx) (h10.selR [_, _, _, _, _, _] [_, _, _] [4, 0, 5] (by decide) rfl))
end Go.Proofs.YtmgaooeeddmbmaaGreatDoor
