/- slices.Delete and slices.BinarySearchFunc at messages. Conditions: at most a million messages. -/
import Derived.Test.YtlmakkjbcmhaeaaCalA
namespace Go.Proofs.Ytlmakkjbcmhaeaa
open Go Go.E
set_option maxRecDepth 100000
variable {e w : World} {R : List HP} {K : KV}

theorem delete_s {v : Value} {l : List Msg} {i : Nat} (hi : i < l.length) (hl : l.length ≤ 1000000) (hS : Sat e w (ownS 32 6 Msg.cs v l :: R))
    (hk : ∀ v' w', Sat e w' (ownS 32 6 Msg.cs v' (l.take i ++ l.drop (i + 1)) :: R) → K v' w') : Cl prog 40 #[v, .int .i64 (i : Int), .int .i64 ((i + 1 : Nat) : Int)] w K := by
  refine slices_Delete_api_Msg_api_Msg_calls ?_
  unfold slices_Delete_api_Msg_api_Msg
  have hf6 : ∀ x : Msg, (Msg.cs x).length = 6 := fun _ => rfl
  obtain ⟨b, c, cs, rfl, hc, hlc, htk, h1⟩ := hS.own_open 0 rfl (by omega)
  replace h1 : Sat e w (blk b 32 cs :: R) := h1
  have hA := row_take hf6 htk (i := i) (by omega)
  have hB := row_drop hf6 htk (i := i + 1) (by omega)
  have hAl : ((l.take i).flatMap Msg.cs).length = i * 6 := by rw [flatMap_length hf6, List.length_take, Nat.min_eq_left (by omega)]
  have hBl : ((l.drop (i + 1)).flatMap Msg.cs).length = (l.length - (i + 1)) * 6 := by rw [flatMap_length hf6, List.length_drop]
  have hBf : ∀ v ∈ (l.drop (i + 1)).flatMap Msg.cs, flat v = true := flat_ok (fun _ => ints_flat _) _
  have hcsl : l.length * 6 ≤ cs.length := by rw [hc]; exact Nat.mul_le_mul_right _ hlc
  refine ⟨_, _, _, rfl, ?_⟩
  refine slX_s te_36 (by omega) (by omega) (by omega) fun _ => ?_
  refine eq_f (by omega) (iff_f ?_)
  refine ⟨_, _, _, rfl, ?_⟩
  refine dr_s h1 fun w2 h2 => ?_
  refine sl_to0 (by omega) ?_
  refine ⟨_, _, _, i + 1, l.length, rfl, bnd_i (i + 1), bnd_n _, by omega, by omega, ?_⟩
  have hrd := h2.blk_at (k := (i + 1) * 6) (n := (l.length - (i + 1)) * 6) 0 rfl
  rw [hB] at hrd
  refine ap_in te_36 und_36 h2 0 rfl (by omega) hc hBl (fun h0 => ⟨_, by rw [if_neg (by omega), Option.map_some, add_at, Nat.zero_add], hrd⟩) hBf fun w3 h3 => ?_
  replace h3 : Sat e w3 (blk b 32 (wrL cs (i * 6) ((l.drop (i + 1)).flatMap Msg.cs)) :: R) := h3
  have hw1 : (wrL cs (i * 6) ((l.drop (i + 1)).flatMap Msg.cs)).length = cs.length := wrL_length (by rw [hBl]; omega)
  refine ⟨_, _, _, rfl, ?_⟩
  have e0 : i + (l.length - (i + 1)) = l.length - 1 := by omega
  rw [e0]
  refine sl_at (k := 0) (bnd_i (l.length - 1)) (bnd_i l.length) (by omega) (by omega) (by omega) ?_
  rw [Nat.zero_add]
  refine cl_at te_36 (z0 := Msg.zero.cs) (by rw [zero_32]; rfl) (ints_flat _) h3 0 rfl (by rw [hw1]; omega) fun zs w4 hz h4 => ?_
  replace h4 : Sat e w4 (blk b 32 (wrL (wrL cs (i * 6) ((l.drop (i + 1)).flatMap Msg.cs)) ((l.length - 1) * 6) zs) :: R) := h4
  refine hk _ _ (h4.imp fun g hg => ?_)
  have hdl : (l.take i ++ l.drop (i + 1)).length = l.length - 1 := by
    rw [List.length_append, List.length_take, List.length_drop]; omega
  refine .inr ⟨b, c, _, by rw [hdl], hg, ?_, by rw [hdl]; omega, ?_⟩
  · rw [wrL_length (by rw [hw1, hz]; omega), hw1, hc]
  · rw [hdl, wrL_take (Nat.le_refl _) (by rw [hw1]; omega)]
    unfold wrL
    rw [hA, List.flatMap_append, List.take_append_of_le_length (by rw [List.length_append, hAl, hBl]; omega), List.take_of_length_le (by rw [List.length_append, hAl, hBl]; omega)]

theorem place1_s {x : Msg} {k : Key} (hS : Sat e w R) (hk : ∀ w', Sat e w' R → K (.int .i64 (cmpK x.key k)) w') : clV prog (.func (.func 53) #[] #[]) #[.agg x.cs.toArray, .agg k.cs.toArray] w K := by
  refine ⟨_, _, _, rfl, ?_⟩
  refine calendar_place_1_calls (t0 := .agg x.cs.toArray) (t1 := .agg k.cs.toArray) ?_
  unfold calendar_place_1
  refine al_s (cs := x.cs) hS rfl fun b2 w1 h1 => ?_
  refine al_s (cs := k.cs) h1 rfl fun b3 w2 h2 => ?_
  refine fld_at (ldN_at h2 1 (vs := x.key.cs) rfl (by rfl) rfl ?_)
  refine ldN_at h2 0 (vs := k.cs) rfl (by rfl) rfl ?_
  exact vtime_Cmp_s h2 fun w3 h3 => hk _ h3.drop.drop

def fnd (l : List Msg) (i : Nat) (k : Key) : Bool := match l[i]? with | some y => decide (y.key = k) | none => false
structure PlaceAt (l : List Msg) (k : Key) (i : Nat) : Prop where
  le : i ≤ l.length
  lo : ∀ (p : Nat) (y : Msg), p < i → l[p]? = some y → KeyLt y.key k
  hi : ∀ (p : Nat) (y : Msg), i ≤ p → l[p]? = some y → ¬ KeyLt y.key k
theorem bsearch_s {v : Value} {l : List Msg} {k : Key} {S : HP} (hl : l.length ≤ 1000000) (hu : Upk l) (hS : Sat e w (S :: R)) (hr : ∀ g, S g → rdS 6 Msg.cs v l g)
    (hk : ∀ i w', PlaceAt l k i → Sat e w' (S :: R) → K (.tuple #[.int .i64 ((i : Nat) : Int), .bool (fnd l i k)]) w') :
    Cl prog 52 #[v, .agg k.cs.toArray, .func (.func 53) #[] #[]] w K := by
  refine slices_BinarySearchFunc_api_Msg_api_Msg_api_Key_calls ?_
  unfold slices_BinarySearchFunc_api_Msg_api_Msg_api_Key
  refine al_s (cs := k.cs) hS rfl fun b w1 h1 => ?_
  refine lnS_rd h1 1 rfl hr ?_
  refine lpi2 (fun z t9 t10 w => ∃ i j : Nat, t9 = .int .i64 (i : Int) ∧ t10 = .int .i64 (j : Int) ∧ z = j - i ∧ i ≤ j ∧ j ≤ l.length ∧ (∀ (p : Nat) (y : Msg), p < i → l[p]? = some y → KeyLt y.key k) ∧ (∀ (p : Nat) (y : Msg), j ≤ p → l[p]? = some y → ¬ KeyLt y.key k) ∧ Sat e w (blk b 30 k.cs :: S :: R)) l.length
    ⟨0, l.length, rfl, rfl, rfl, Nat.zero_le _, Nat.le_refl _, (fun p y h => by omega), (fun p y h hy => by have := (List.getElem?_eq_some_iff.1 hy).1; omega), h1⟩ ?_
  rintro z _ _ w g ⟨i, j, rfl, rfl, rfl, hij, hjl, hlo, hhi, h2⟩ hg
  refine lt_c (fun c1 => iff_t ?_) (fun c1 => iff_f ?_)
  · refine addn_s (by omega) ?_
    refine half_s (xo := fun _ => _) (yo := fun _ => _) (by omega) ?_
    obtain ⟨m, hm⟩ : ∃ m, m = (i + j) / 2 := ⟨_, rfl⟩
    rw [← hm]
    refine dr_s h2 fun w3 h3 => ?_
    obtain ⟨x, hx⟩ := get_of_lt (l := l) (j := m) (by omega)
    refine ixS_rd h3 1 rfl hr (fun _ => rfl) hx fun p hp => ?_
    refine ldN_of h3 1 rfl hp rfl ?_
    refine ldN_at h3 0 (vs := k.cs) rfl (by rfl) rfl ?_
    refine place1_s h3 fun w4 h4 => ?_
    refine lt_c (fun c2 => iff_t ?_) (fun c2 => iff_f ?_)
    · refine inc_s (by omega) ?_
      refine hg _ _ _ _ (by omega) ⟨m + 1, j, rfl, rfl, rfl, by omega, hjl, fun p y hp hy => ?_, hhi, h4⟩
      have hxk := cmpK_lt.1 c2
      by_cases hpm : p = m
      · subst hpm
        rw [hx] at hy
        injection hy with hy
        exact hy ▸ hxk
      · have h5 := List.pairwise_iff_getElem.1 hu p m (by omega) (by omega) (by omega)
        have e1 := (List.getElem?_eq_some_iff.1 hy).2
        have e2 := (List.getElem?_eq_some_iff.1 hx).2
        rw [e1, e2] at h5
        exact h5.trans hxk
    · refine hg _ _ _ _ (by omega) ⟨i, m, rfl, rfl, rfl, by omega, by omega, hlo, fun p y hp hy => ?_, h4⟩
      have hxk : ¬ KeyLt x.key k := fun h => c2 (cmpK_lt.2 h)
      by_cases hpm : p = m
      · subst hpm
        rw [hx] at hy
        injection hy with hy
        exact hy ▸ hxk
      · have hpl := (List.getElem?_eq_some_iff.1 hy).1
        have h5 := List.pairwise_iff_getElem.1 hu m p (by omega) hpl (by omega)
        have e1 := (List.getElem?_eq_some_iff.1 hy).2
        have e2 := (List.getElem?_eq_some_iff.1 hx).2
        rw [e1, e2] at h5
        exact fun h => hxk (h5.trans h)
  · have hji : j = i := by omega
    subst hji
    have hpl : PlaceAt l k j := ⟨by omega, hlo, hhi⟩
    refine dr_s h2 fun w3 h3 => ?_
    refine lt_c (fun c2 => ?_) (fun c2 => ?_)
    · obtain ⟨x, hx⟩ := get_of_lt (l := l) (j := j) (by omega)
      refine gd_tt (gd_tt (gd_tt (gd_tt ?_)))
      refine ixS_rd h3 1 rfl hr (fun _ => rfl) hx fun p hp => ?_
      refine gd_tt (ldN_of h3 1 rfl hp rfl ?_)
      refine gd_tt (ldN_at h3 0 (vs := k.cs) rfl (by rfl) rfl ?_)
      refine gd_tt (place1_s h3 fun w4 h4 => ?_)
      refine gd_tt (eq_d (pk_t ?_))
      have := hk _ _ hpl h4.drop
      have e1 : fnd l j k = decide (cmpK x.key k = 0) := by
        unfold fnd
        rw [hx]
        exact decide_eq_decide.2 cmpK_eq.symm
      rw [e1] at this
      exact this
    · refine gd_ft (gd_ft (gd_ft (gd_ft (gd_ft (gd_ft (gd_ft (gd_ft (pk_f ?_))))))))
      have := hk _ _ hpl h3.drop
      have e1 : fnd l j k = false := by
        unfold fnd
        rw [List.getElem?_eq_none (by omega)]
      rw [e1] at this
      exact this

theorem place_s {v : Value} {l : List Msg} {k : Key} {S : HP} (hl : l.length ≤ 1000000) (hu : Upk l) (hS : Sat e w (S :: R)) (hr : ∀ g, S g → rdS 6 Msg.cs v l g)
    (hk : ∀ i w', PlaceAt l k i → Sat e w' (S :: R) → K (.tuple #[.int .i64 ((i : Nat) : Int), .bool (fnd l i k)]) w') : Cl prog 35 #[v, .agg k.cs.toArray] w K := by
  refine calendar_place_calls ?_
  unfold calendar_place
  refine al_s (cs := k.cs) hS rfl fun b w1 h1 => ?_
  refine ldN_at h1 0 (vs := k.cs) rfl (by rfl) rfl ?_
  refine bsearch_s hl hu h1.swap hr fun i w2 hp h2 => ?_
  refine xt_02 (xt_12 ?_)
  exact hk _ _ hp (h2.selR [_, _] [_] [0] (by decide) rfl)
end Go.Proofs.Ytlmakkjbcmhaeaa
