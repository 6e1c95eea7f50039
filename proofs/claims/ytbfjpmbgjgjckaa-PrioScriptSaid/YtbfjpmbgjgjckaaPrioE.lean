/- Queues: DeleteFunc, Below. Conditions: at most a thousand messages. -/
import Derived.Test.YtbfjpmbgjgjckaaPrioL
import Derived.Test.YtbfjpmbgjgjckaaEngU
namespace Go.Proofs.Ytbfjpmbgjgjckaa
open Go Go.E
set_option maxRecDepth 100000
variable {e w : World} {R : List HP} {K : KV}

def PredOk (e : World) (C : HP) (fv : Value) (p : Msg → Bool) : Prop :=
  ∀ (w : World) (R : List HP) (K : KV) (x : Msg), Sat e w (C :: R) → (∀ w', Sat e w' (C :: R) → K (.bool (p x)) w') → clV prog fv #[.agg x.cs.toArray] w K
theorem indexFunc_s {v fv : Value} {l : List Msg} {C : HP} {p : Msg → Bool} (hl : l.length ≤ 1000000) (hp : PredOk e C fv p) (hS : Sat e w (ownS 30 6 Msg.cs v l :: C :: R))
    (hno : (∀ x ∈ l, p x = false) → ∀ w', Sat e w' (ownS 30 6 Msg.cs v l :: C :: R) → K (.int .i64 (-1)) w')
    (hyes : ∀ (i : Nat) (x : Msg), l[i]? = some x → p x = true → (∀ y ∈ l.take i, p y = false) → ∀ w', Sat e w' (ownS 30 6 Msg.cs v l :: C :: R) → K (.int .i64 (i : Int)) w') :
    Cl prog 43 #[v, fv] w K := by
  refine slices_IndexFunc_api_Msg_api_Msg_calls ?_
  unfold slices_IndexFunc_api_Msg_api_Msg
  refine lnS_rd hS 0 rfl (fun g hg => own_rd hg) ?_
  refine lpi1 (fun z t8 w => ∃ i : Nat, i ≤ l.length ∧ t8 = .int .i64 i ∧ z = l.length - i ∧ (∀ y ∈ l.take i, p y = false) ∧ Sat e w (ownS 30 6 Msg.cs v l :: C :: R)) l.length
    ⟨0, Nat.zero_le _, rfl, rfl, (fun _ h => by cases h), hS⟩ ?_
  rintro z _ w g ⟨i, hi, rfl, rfl, hlo, h1⟩ hg
  refine lt_c (fun c => iff_t ?_) (fun c => iff_f ?_)
  · obtain ⟨x, hx⟩ := get_of_lt (l := l) (j := i) (by omega)
    refine ixS_rd h1 0 rfl (fun g hg => own_rd hg) (fun _ => rfl) hx fun a ha => ?_
    refine ldN_of h1 0 rfl ha rfl ?_
    refine hp _ _ _ x h1.swap fun w2 h2 => ?_
    cases hpx : p x with
    | true => exact iff_t (hyes i x hx hpx hlo _ h2.swap)
    | false =>
      refine iff_f (inc_s (by omega) ?_)
      refine hg _ _ _ (by omega) ⟨i + 1, by omega, rfl, rfl, fun y hy => ?_, h2.swap⟩
      rw [take_snoc hx] at hy
      rcases List.mem_append.1 hy with h | h
      · exact hlo y h
      · rw [List.mem_singleton.1 h]; exact hpx
  · have : i = l.length := by omega
    rw [this, List.take_length] at hlo
    exact hno hlo _ h1

theorem deleteFunc_s {v fv : Value} {l : List Msg} {C : HP} {p : Msg → Bool} (hl : l.length ≤ 1000000) (hp : PredOk e C fv p) (hS : Sat e w (ownS 30 6 Msg.cs v l :: C :: R))
    (hk : ∀ v' w', Sat e w' (ownS 30 6 Msg.cs v' (l.filter fun x => !p x) :: C :: R) → K v' w') :
    Cl prog 33 #[v, fv] w K := by
  refine slices_DeleteFunc_api_Msg_api_Msg_calls ?_
  unfold slices_DeleteFunc_api_Msg_api_Msg
  rw [zero_30]
  refine indexFunc_s hl hp hS (fun hno w2 h2 => ?_) (fun i x hx hpx hlo w2 h2 => ?_)
  · refine eq_t rfl (iff_t (hk _ _ ?_))
    rw [List.filter_eq_self.2 (fun y hy => by rw [hno y hy]; rfl)]
    exact h2
  have hil := (List.getElem?_eq_some_iff.1 hx).1
  refine eq_f (by omega) (iff_f (inc_s (by omega) ?_))
  have hf0 : l.take i = (l.take (i + 1)).filter fun x => !p x := by
    rw [take_snoc hx, List.filter_append, List.filter_eq_self.2 (fun y hy => by rw [hlo y hy]; rfl)]
    simp [hpx]
  refine lpi2 (fun z t5 t6 w => ∃ (m j : Nat) (l' : List Msg), t5 = .int .i64 m ∧ t6 = .int .i64 j ∧ z = l.length - j ∧ m < j ∧ j ≤ l.length ∧ l'.length = l.length ∧ l'.take m = (l.take j).filter (fun x => !p x) ∧ l'.drop j = l.drop j ∧
      Sat e w (ownS 30 6 Msg.cs v l' :: C :: R)) (l.length - (i + 1))
    ⟨i, i + 1, l, rfl, rfl, rfl, by omega, by omega, rfl, hf0, rfl, h2⟩ ?_
  clear hf0 h2
  rintro z _ _ w g ⟨m, j, l', rfl, rfl, rfl, hmj, hjl, hll, htk, hdr, h3⟩ hg
  refine lnS_rd h3 0 rfl (fun g hg => own_rd hg) ?_
  refine lt_c (fun c => iff_t ?_) (fun c => iff_f ?_)
  · obtain ⟨y, hy⟩ := get_of_lt (l := l) (j := j) (by omega)
    have hy' : l'[j]? = some y := by
      have := congrArg (fun l => l[0]?) hdr
      simpa [List.getElem?_drop, hy] using this
    have hdr1 : l'.drop (j + 1) = l.drop (j + 1) := by
      have e1 := drop_cons hy
      have e2 := drop_cons hy'
      rw [hdr, e1] at e2
      injection e2 with _ e3
      exact e3.symm
    refine J1.cut (fun t5 w => ∃ (m : Nat) (l' : List Msg), t5 = .int .i64 m ∧ m < j + 1 ∧ l'.length = l.length ∧ l'.take m = (l.take (j + 1)).filter (fun x => !p x) ∧ l'.drop (j + 1) = l.drop (j + 1) ∧
      Sat e w (ownS 30 6 Msg.cs v l' :: C :: R)) (fun k2 hcut => ?_) ?_
    · refine ixS_rd h3 0 rfl (fun g hg => own_rd hg) (fun _ => rfl) hy' fun a ha => ?_
      refine ldN_of h3 0 rfl ha rfl ?_
      refine al_s (cs := ints [0, 0, 0, 0, 0, 0]) h3 rfl fun d w4 h4 => ?_
      refine stN_at h4 0 rfl (vs := y.cs) rfl rfl (Nat.le_of_ble_eq_true rfl) (ints_flat _) (cs' := y.cs) (by kernel_rfl) fun w5 h5 => ?_
      refine ldN_at h5 0 (vs := y.cs) rfl (by rfl) rfl ?_
      refine hp _ _ _ y (h5.pick 2 rfl) fun w6 h6 => ?_
      have h7 : Sat e w6 (ownS 30 6 Msg.cs v l' :: C :: blk d 30 y.cs :: R) := h6.selR [_, _, _] [_, _, _] [2, 0, 1] (by decide) rfl
      have hfs : (l.take (j + 1)).filter (fun x => !p x) = (l.take j).filter (fun x => !p x) ++ if p y then [] else [y] := by
        rw [take_snoc hy, List.filter_append]
        cases hpy : p y <;> simp [hpy]
      rw [hfs] at hcut
      cases hpy : p y with
      | true =>
        rw [hpy] at hcut
        simp only [if_true, List.append_nil] at hcut
        exact not_t (iff_f (hcut _ _ ⟨m, l', rfl, by omega, hll, htk, hdr1, h7.selR [_, _, _] [_, _] [0, 1] (by decide) rfl⟩))
      | false =>
        rw [hpy] at hcut
        simp only [Bool.false_eq_true, if_false] at hcut
        refine not_f (iff_t ?_)
        refine ldN_at h7 2 (vs := y.cs) rfl (by rfl) rfl ?_
        refine st_own h7 0 rfl (fun _ => rfl) (by omega) (x := y) rfl (ints_flat _) fun w8 h8 => ?_
        refine inc_s (by omega) ?_
        refine hcut _ _ ⟨m + 1, l'.set m y, rfl, by omega, by rw [List.length_set]; exact hll, ?_, ?_, h8.selR [_, _, _] [_, _] [0, 1] (by decide) rfl⟩
        · rw [take_snoc (x := y) (by rw [List.getElem?_set_self (by omega)]), List.take_set_of_le (Nat.le_refl _), htk]
        · rw [List.drop_set_of_lt (by omega)]
          exact hdr1
    · rintro _ w ⟨m', l2, rfl, hm', hl2, ht2, hd2, h4⟩
      refine inc_s (by omega) ?_
      exact hg _ _ _ _ (by omega) ⟨m', j + 1, l2, rfl, rfl, rfl, hm', by omega, hl2, ht2, hd2, h4⟩
  · have hj : j = l.length := by omega
    rw [hj, List.take_length] at htk
    refine clr_s te_22 (fun _ => rfl) (fun _ => ints_flat _) Msg.zero (by rw [zero_30]; rfl) h3 0 rfl (lo := m) (by omega) fun w5 h5 => ?_
    refine slc_own h5 0 rfl (fun _ => rfl) (hi := m) (by rw [List.length_append, List.length_take]; omega) fun v' h6 => ?_
    refine hk _ _ ?_
    rw [← htk]
    have e1 : (l'.take m ++ List.replicate (l'.length - m) Msg.zero).take m = l'.take m := List.take_left' (by rw [List.length_take]; omega)
    rw [e1] at h6
    exact h6

theorem below1_s {b : Nat} {t : Int} : PredOk e (blk b 3 [.int .i64 t]) (.func (.func 34) #[] #[.pointer (some ⟨b, 0, none⟩)]) (fun x => decide (t ≤ x.key.T)) := by
  intro w R K x hS hk
  refine ⟨_, _, _, rfl, ?_⟩
  refine prio_Queue_Below_1_calls (t0 := .agg x.cs.toArray) (t1 := .pointer (some ⟨b, 0, none⟩)) ?_
  unfold prio_Queue_Below_1
  refine al_s (cs := x.cs) hS rfl fun b2 w1 h1 => ?_
  refine fld_at (fld_at (ld1_at h1 0 rfl (v := .int .i64 x.key.T) rfl ?_))
  refine ld1_at h1 1 rfl (v := .int .i64 t) rfl ?_
  exact ge_d (hk _ h1.drop)
theorem prio_Below_s {q : Nat} {room t : Int} {l : List Msg} (hl : l.length ≤ 1000000) (hS : Sat e w (IsPrio q room l :: R))
    (hk : ∀ v l' w', l'.Perm l → Upk l' → Sat e w' (ownS 30 6 Msg.cs v (l'.filter fun x => decide (x.key.T < t)) :: IsPrio q room l :: R) → K v w') : Cl prog 13 #[.pointer (some ⟨q, 0, none⟩), .int .i64 t] w K := by
  refine prio_Queue_Below_calls ?_
  unfold prio_Queue_Below
  refine al_s (cs := [.int .i64 t]) hS rfl fun b w2 h2 => ?_
  refine prio_List_s hl h2.swap fun v l' w3 hp hu h3 => ?_
  refine deleteFunc_s (by rw [hp.length_eq]; exact hl) below1_s (h3.selR [_, _, _] [_, _, _] [0, 2, 1] (by decide) rfl) fun v' w4 h4 => ?_
  refine hk _ l' _ hp hu ?_
  have e1 : (l'.filter fun x => !decide (t ≤ x.key.T)) = l'.filter fun x => decide (x.key.T < t) := by
    refine List.filter_congr fun x _ => ?_
    by_cases h : t ≤ x.key.T
    · rw [decide_eq_true h, decide_eq_false (by omega)]; rfl
    · rw [decide_eq_false h, decide_eq_true (by omega)]; rfl
  rw [e1] at h4
  exact h4.selR [_, _, _] [_, _] [0, 2] (by decide) rfl
end Go.Proofs.Ytbfjpmbgjgjckaa
