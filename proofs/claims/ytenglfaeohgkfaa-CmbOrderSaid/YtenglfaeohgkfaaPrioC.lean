/- Queues: the heap's Pop, Pop. Conditions: at most a thousand messages. -/
import Derived.Test.YtenglfaeohgkfaaPrioB
namespace Go.Proofs.Ytenglfaeohgkfaa
open Go Go.E
set_option maxRecDepth 100000
variable {e w : World} {R : List HP} {K : KV}

theorem AtOk.pop {m : List (Key × Nat)} {l : List Msg} {x : Msg} (h : AtOk m (l ++ [x])) : AtOk (dlA m x.key) l := by
  have hxl : (l ++ [x])[l.length]? = some x := by simp
  refine ⟨h.u.dl _, fun k i => ?_⟩
  rw [lkA_dl h.u]
  by_cases hk : k = x.key
  · rw [if_pos hk]
    constructor
    · intro hn; cases hn
    · rintro ⟨y, hy, hyk⟩
      have hil := (List.getElem?_eq_some_iff.1 hy).1
      have := h.inj (i := i) (j := l.length) (by rw [List.getElem?_append_left hil]; exact hy) hxl (by rw [hyk, hk])
      omega
  · rw [if_neg hk, h.ok k i]
    constructor
    · rintro ⟨y, hy, hyk⟩
      by_cases hil : i < l.length
      · rw [List.getElem?_append_left hil] at hy
        exact ⟨y, hy, hyk⟩
      · have hle := (List.getElem?_eq_some_iff.1 hy).1
        rw [List.length_append] at hle
        simp only [List.length_cons, List.length_nil] at hle
        rw [show i = l.length by omega, hxl] at hy
        injection hy with hy
        subst hy
        exact absurd hyk.symm hk
    · rintro ⟨y, hy, hyk⟩
      exact ⟨y, by rw [List.getElem?_append_left (List.getElem?_eq_some_iff.1 hy).1]; exact hy, hyk⟩

theorem faced_Pop_s {q : Nat} {room : Int} {l : List Msg} {x : Msg} (hl : l.length ≤ 1000) (hS : Sat e w (IsPrio q room (l ++ [x]) :: R)) (hk : ∀ w', Sat e w' (IsPrio q room l :: R) → K (.iface 36 (.agg x.cs.toArray)) w') :
    clI prog (.iface 109 (rcv q)) "Pop" #[] w K := by
  refine clI_s (f := 121) (rcv := rcv q) (by kernel_rfl) ?_
  refine prio_faced_Pop_calls (t0 := rcv q) ?_
  unfold prio_faced_Pop
  obtain ⟨v, b, m, ha, h1⟩ := prio_of hS
  have hlen : (l ++ [x]).length = l.length + 1 := by simp
  have hxl : (l ++ [x])[l.length]? = some x := by simp
  refine al_s (cs := [.pointer (some ⟨q, 0, none⟩)]) h1 rfl fun c w2 h2 => ?_
  refine fld_at (ld1_at h2 0 rfl (v := .pointer (some ⟨q, 0, none⟩)) rfl ?_)
  refine ncP_p (fld_at (ld1_at h2 1 rfl (v := v) rfl ?_))
  refine lnS_rd h2 2 rfl (fun g hg => own_rd hg) ?_
  rw [hlen]
  refine dec_s (by omega) (by omega) ?_
  rw [Nat.add_sub_cancel]
  refine fld_at (ld1_at h2 0 rfl (v := .pointer (some ⟨q, 0, none⟩)) rfl ?_)
  refine ncP_p (fld_at (ld1_at h2 1 rfl (v := v) rfl ?_))
  refine ixS_rd h2 2 rfl (fun g hg => own_rd hg) (fun _ => rfl) hxl fun p hp => ?_
  refine ldN_of h2 2 rfl hp rfl ?_
  rw [zero_36]
  refine al_s (cs := ints [0, 0, 0, 0, 0, 0]) h2 rfl fun d w3 h3 => ?_
  refine stN_at h3 0 rfl (vs := x.cs) rfl rfl (Nat.le_of_ble_eq_true rfl) (ints_flat _) (cs' := x.cs) (by kernel_rfl) fun w4 h4 => ?_
  refine dr_s h4 fun w5 h5 => ?_
  refine fld_at (ld1_at h5 1 rfl (v := .pointer (some ⟨q, 0, none⟩)) rfl ?_)
  refine fld_at (ld1_at h5 1 rfl (v := .pointer (some ⟨q, 0, none⟩)) rfl ?_)
  refine ncP_p (fld_at (ld1_at h5 2 rfl (v := v) rfl ?_))
  refine slc_own h5 3 rfl (fun _ => rfl) (hi := l.length) (by omega) fun v' h6 => ?_
  rw [List.take_left' rfl] at h6
  refine ncP_p (fld_at ?_)
  refine st1_at h6 2 rfl (h6.own_cells 3 rfl) (Nat.le_of_ble_eq_true rfl) (cs' := [.int .i64 room, v', .map (some b)]) rfl fun w7 h7 => ?_
  replace h7 : Sat e w7 (blk d 36 x.cs :: blk c 109 [.pointer (some ⟨q, 0, none⟩)] :: blk q 100 [.int .i64 room, v', .map (some b)] :: ownS 36 6 Msg.cs v' l :: isMap kfK vfN b m :: R) := h7
  refine dr_s h7 fun w8 h8 => ?_
  refine fld_at (ld1_at h8 1 rfl (v := .pointer (some ⟨q, 0, none⟩)) rfl ?_)
  refine ncP_p (fld_at (ld1_at h8 2 rfl (v := .map (some b)) rfl ?_))
  refine fld_at (ldN_at h8 0 (vs := x.key.cs) rfl (by rfl) rfl ?_)
  refine dlM_s keyT_Key mapT_98 (h8.pick 4 rfl) x.key fun w9 h9 => ?_
  refine ldN_at h9 1 (vs := x.cs) rfl (by rfl) rfl ?_
  exact hk _ (prio_mk ha.pop (h9.selR [_, _, _, _, _] [_, _, _] [3, 4, 0] (by decide) rfl))

theorem heapPop_s {q : Nat} {room : Int} {l : List Msg} {x : Msg} (hx : l[0]? = some x) (hl : l.length ≤ 1001) (hS : Sat e w (IsPrio q room l :: R))
    (hk : ∀ l' w', (l' ++ [x]).Perm l → (Heapy l l.length → Heapy l' l'.length) → Sat e w' (IsPrio q room l' :: R) → K (.iface 36 (.agg x.cs.toArray)) w') :
    Cl prog 45 #[.iface 109 (rcv q)] w K := by
  refine heap_Pop_calls ?_
  unfold heap_Pop
  have h0 := (List.getElem?_eq_some_iff.1 hx).1
  obtain ⟨n, hn⟩ : ∃ n, l.length = n + 1 := ⟨l.length - 1, by omega⟩
  obtain ⟨y, hy⟩ := get_of_lt (l := l) (j := n) (by omega)
  refine faced_Len_s hS fun w2 h2 => ?_
  rw [hn]
  refine dec_s (by omega) (by omega) ?_
  rw [Nat.add_sub_cancel]
  refine faced_Swap_s (i := 0) (k := n) hx hy h2 fun w3 h3 => ?_
  have hp1 := swapM_perm hx hy
  refine down_s (i0 := 0) (n := n) (by rw [swapM_len]; omega) (by omega) (by rw [swapM_len]; omega) h3 fun l2 bb w4 hp2 htail hd h4 => ?_
  have hl2 : l2.length = n + 1 := by rw [hp2.length_eq, swapM_len, hn]
  have hln : l2[n]? = some x := by rw [htail n (Nat.le_refl _), swapM_get hx hy, if_pos rfl]
  have hsp : l2 = l2.take n ++ [x] := by
    have := take_snoc hln
    rw [List.take_of_length_le (by omega)] at this
    exact this
  have hpf : (l2.take n ++ [x]).Perm l := by rw [← hsp]; exact hp2.trans hp1
  rw [hsp] at h4
  refine faced_Pop_s (by rw [List.length_take]; omega) h4 fun w5 h5 => hk _ _ hpf (fun hh => ?_) h5
  have hh2 := hd ⟨fun i a b hi hin hpar ha hb => ?_, fun i a b hi hin hj => by omega⟩
  · intro i a b hi hin ha hb
    rw [List.length_take] at hin
    rw [List.getElem?_take, if_pos (by omega)] at ha hb
    exact hh2 i a b hi (by omega) ha hb
  · rw [swapM_get hx hy, if_neg (by omega), if_neg (by omega)] at ha hb
    exact hh i a b hi (by omega) ha hb

theorem prio_Pop_none {q : Nat} {room : Int} (hS : Sat e w (IsPrio q room [] :: R)) (hk : ∀ w', Sat e w' (IsPrio q room [] :: R) → K (.tuple #[.agg Msg.zero.cs.toArray, .bool false]) w') : Cl prog 26 #[.pointer (some ⟨q, 0, none⟩)] w K := by
  refine prio_Queue_Pop_calls ?_
  unfold prio_Queue_Pop
  rw [zero_36]
  obtain ⟨v, b, m, ha, h1⟩ := prio_of hS
  refine al_s (cs := ints [0, 0, 0, 0, 0, 0]) h1 rfl fun d w3 h3 => ?_
  refine ncP_p (fld_at (ld1_at h3 1 rfl (v := v) rfl ?_))
  refine lnS_rd h3 2 rfl (fun g hg => own_rd hg) ?_
  refine eq_t rfl (iff_t ?_)
  refine bld_s Msg.zero.cs (by kernel_rfl) ?_
  refine stN_at h3 0 rfl (vs := Msg.zero.cs) rfl rfl (Nat.le_of_ble_eq_true rfl) (ints_flat _) (cs' := Msg.zero.cs) (by kernel_rfl) fun w4 h4 => ?_
  refine ldN_at h4 0 (vs := Msg.zero.cs) rfl (by rfl) rfl ?_
  exact hk _ (prio_mk ha h4.drop)
theorem prio_Pop_s {q : Nat} {room : Int} {l : List Msg} {x : Msg} (hx : l[0]? = some x) (hl : l.length ≤ 1001) (hS : Sat e w (IsPrio q room l :: R))
    (hk : ∀ l' w', (l' ++ [x]).Perm l → (Heapy l l.length → Heapy l' l'.length) → Sat e w' (IsPrio q room l' :: R) → K (.tuple #[.agg x.cs.toArray, .bool true]) w') : Cl prog 26 #[.pointer (some ⟨q, 0, none⟩)] w K := by
  refine prio_Queue_Pop_calls ?_
  unfold prio_Queue_Pop
  rw [zero_36, zero_109]
  obtain ⟨v, b, m, ha, h1⟩ := prio_of hS
  have h0 := (List.getElem?_eq_some_iff.1 hx).1
  refine al_s (cs := ints [0, 0, 0, 0, 0, 0]) h1 rfl fun d w3 h3 => ?_
  refine ncP_p (fld_at (ld1_at h3 1 rfl (v := v) rfl ?_))
  refine lnS_rd h3 2 rfl (fun g hg => own_rd hg) ?_
  refine eq_f (by omega) (iff_f ?_)
  refine bld_s [.pointer (some ⟨q, 0, none⟩)] (by kernel_rfl) ?_
  refine heapPop_s hx hl (prio_mk ha (h3.selR [_, _, _, _] [_, _, _, _] [1, 2, 3, 0] (by decide) rfl)) fun l' w4 hp hh h4 => ?_
  refine tyA_ok (by kernel_rfl) ?_
  refine stN_at h4 1 rfl (vs := x.cs) rfl rfl (Nat.le_of_ble_eq_true rfl) (ints_flat _) (cs' := x.cs) (by kernel_rfl) fun w5 h5 => ?_
  refine ldN_at h5 1 (vs := x.cs) rfl (by rfl) rfl ?_
  exact hk _ _ hp hh (h5.selR [_, _] [_] [0] (by decide) rfl)
end Go.Proofs.Ytenglfaeohgkfaa
