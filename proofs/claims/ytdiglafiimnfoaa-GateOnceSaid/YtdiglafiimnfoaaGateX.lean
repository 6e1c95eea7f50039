/- The laws GateScript and GateOnce. Conditions: none. -/
import Derived.Test.YtdiglafiimnfoaaGateW
namespace Go.Proofs.Ytdiglafiimnfoaa
open Go Go.E
set_option maxRecDepth 100000
variable {e w : World} {R : List HP} {K : KV}

theorem holdL_le' {fl : Int} {l : List Kept} {c : Key} {m : Msg} (h : l.length ≤ 256) : (holdL fl l c m).length ≤ 256 := by
  unfold holdL
  split
  · exact h
  · split
    · exact h
    · rw [List.length_append]; simp; omega
theorem openL_le (l : List Kept) (t : Int) : (openL l t).length ≤ l.length := List.length_filter_le _ _
theorem retL_le (l : List Kept) (k : Key) : (retL l k).length ≤ l.length := List.length_filter_le _ _

theorem gateScript_s {v : Value} {st : List GateStep} {S : HP} (hS : Sat e w (S :: R)) (hr : ∀ g, S g → rdS 10 GateStep.cs v st g)
    (hk : ∀ w', Sat e w' (S :: R) → K (.bool true) w') : Cl prog 14 #[v] w K := by
  refine pacelinelaw14_GateScript_calls ?_
  unfold pacelinelaw14_GateScript
  refine lnS_rd hS 0 rfl hr ?_
  refine gt_c (fun c1 => iff_t (hk _ hS)) (fun c1 => iff_f ?_)
  refine gate_New_s hS fun g w1 h1 => ?_
  refine ref14_New_s h1 fun r w2 h2 => ?_
  refine bnp_s _ (iff_f ?_)
  refine lpi1 (fun z t5 w => ∃ (j : Nat) (fl : Int) (l : List Kept), j ≤ st.length ∧ t5 = .int .i64 j ∧ z = st.length - j ∧ 0 ≤ fl ∧ l.length ≤ 256 ∧ Sat e w (IsGate g fl l :: IsGateR r fl l :: S :: R)) st.length
    ⟨0, 0, [], Nat.zero_le _, rfl, rfl, Int.le_refl _, Nat.zero_le _, h2.swap⟩ ?_
  rintro z _ w g1 ⟨j, fl, l, hj, rfl, rfl, hfl, hl, h3⟩ hg
  refine lnS_rd h3 2 rfl hr ?_
  refine lt_c (fun c2 => iff_t ?_) (fun c2 => iff_f ?_)
  · obtain ⟨s, hs⟩ := get_of_lt (l := st) (j := j) (by omega)
    refine ixS_rd h3 2 rfl hr (fun _ => rfl) hs fun p hp => ?_
    refine ldN_of h3 2 rfl hp rfl ?_
    rw [zero_104]
    refine al_s (cs := ints [0, 0, 0, 0, 0, 0, 0, 0, 0, 0]) h3 rfl fun b w4 h4 => ?_
    refine stN_at h4 0 rfl (vs := s.cs) rfl rfl (Nat.le_of_ble_eq_true rfl) (ints_flat _) (cs' := s.cs) (by kernel_rfl) fun w5 h5 => ?_
    replace h5 : Sat e w5 (IsGate g fl l :: IsGateR r fl l :: blk b 104 s.cs :: S :: R) := h5.selR [_, _, _] [_, _, _] [1, 2, 0] (by decide) rfl
    refine fld_at (ld1_at h5 2 rfl (v := .int .i64 s.Kind) rfl ?_)
    refine J0.cut (fun w => ∃ (fl : Int) (l : List Kept), 0 ≤ fl ∧ l.length ≤ 256 ∧ Sat e w (IsGate g fl l :: IsGateR r fl l :: blk b 104 s.cs :: S :: R)) (fun k2 hcut => ?_) ?_
    · refine eq_c (fun c3 => iff_t ?_) (fun c3 => iff_f ?_)
      · refine dr_s h5 fun w6 h6 => ?_
        refine fld_at (ldN_at h6 2 (vs := s.K.cs) rfl (by rfl) rfl ?_)
        refine fld_at (ldN_at h6 2 (vs := s.M.cs) rfl (by rfl) rfl ?_)
        refine fld_at (ldN_at h6 2 (vs := s.K.cs) rfl (by rfl) rfl ?_)
        refine fld_at (ldN_at h6 2 (vs := s.M.cs) rfl (by rfl) rfl ?_)
        refine gate_Hold_s s.K s.M h6 hl fun w7 h7 => ?_
        refine ⟨ldN_at h7 2 (vs := s.M.cs) rfl (by rfl) rfl ⟨rfl, rfl⟩, ldN_at h7 2 (vs := s.K.cs) rfl (by rfl) rfl ⟨rfl, rfl⟩, ?_⟩
        refine ref14_Hold_s s.K s.M h7.swap hl fun w8 h8 => ?_
        exact ne_f rfl (iff_f (hcut _ ⟨fl, _, hfl, holdL_le' hl, h8.swap⟩))
      refine eq_c (fun c4 => iff_t ?_) (fun c4 => iff_f ?_)
      · refine dr_s h5 fun w6 h6 => ?_
        refine fld_at (ldN_at h6 2 (vs := s.K.cs) rfl (by rfl) rfl ?_)
        refine fld_at (ldN_at h6 2 (vs := s.K.cs) rfl (by rfl) rfl ?_)
        refine gate_Drop_s s.K h6 (by omega) fun v1 w7 h7 => ?_
        refine ⟨ldN_at h7 3 (vs := s.K.cs) rfl (by rfl) rfl ⟨rfl, rfl⟩, ?_⟩
        refine ref14_Drop_s s.K (h7.selR [_, _, _] [_, _, _] [2, 0, 1] (by decide) rfl) (by omega) fun v2 w8 h8 => ?_
        have hle := List.length_filter_le (dropP s.K) l
        refine same_s (h8.selR [_, _, _, _] [_, _, _, _] [2, 0, 1, 3] (by decide) rfl) (fun g hg => own_rd hg) (fun g hg => own_rd hg) (by rw [List.length_map]; omega) fun w9 h9 => ?_
        rw [decide_eq_true rfl]
        refine not_t (iff_f (hcut _ ⟨fl, _, hfl, Nat.le_trans (List.length_filter_le _ _) hl, h9.selR [_, _, _, _] [_, _] [3, 2] (by decide) rfl⟩))
      refine eq_c (fun c5 => iff_t ?_) (fun c5 => iff_f ?_)
      · refine dr_s h5 fun w6 h6 => ?_
        refine fld_at (fld_at (ld1_at h6 2 rfl (v := .int .i64 s.K.T) rfl ?_))
        refine fld_at (fld_at (ld1_at h6 2 rfl (v := .int .i64 s.K.T) rfl ?_))
        refine gate_Open_s s.K.T h6 (by omega) fun v1 w7 h7 => ?_
        refine ⟨ld1_at h7 3 rfl (v := .int .i64 s.K.T) rfl ⟨rfl, rfl⟩, ?_⟩
        refine ref14_Open_s s.K.T (h7.selR [_, _, _] [_, _, _] [2, 0, 1] (by decide) rfl) (by omega) fun v2 w8 h8 => ?_
        have hle := List.length_filter_le (openP s.K.T) l
        refine same_s (h8.selR [_, _, _, _] [_, _, _, _] [2, 0, 1, 3] (by decide) rfl) (fun g hg => own_rd hg) (fun g hg => own_rd hg) (by rw [List.length_map]; unfold openR; rw [stab_length]; omega) fun w9 h9 => ?_
        rw [decide_eq_true rfl]
        refine not_t (iff_f (hcut _ ⟨_, _, by omega, Nat.le_trans (openL_le _ _) hl, h9.selR [_, _, _, _] [_, _] [3, 2] (by decide) rfl⟩))
      refine eq_c (fun c6 => iff_t ?_) (fun c6 => iff_f ?_)
      · refine fld_at (fld_at (ldN_at h5 2 (vs := s.M.key.cs) rfl (by rfl) rfl ?_))
        refine gate_Retract_s s.M.key h5 (by omega) fun w7 h7 => ?_
        refine xt_02 (xt_12 ?_)
        refine fld_at (fld_at (ldN_at h7 2 (vs := s.M.key.cs) rfl (by rfl) rfl ?_))
        refine ref14_Retract_s s.M.key h7.swap (by omega) fun w8 h8 => ?_
        refine xt_02 (xt_12 (ne_f rfl (gd_ff (gd_ff (gd_ff (ne_f rfl (pk_f (iff_f ?_))))))))
        exact hcut _ ⟨fl, _, hfl, Nat.le_trans (retL_le _ _) hl, h8.swap⟩
      · exact hcut _ ⟨fl, l, hfl, hl, h5⟩
    · rintro w ⟨fl', l', hfl', hl', h6⟩
      refine dr_s h6 fun w7 h7 => ?_
      obtain ⟨v0, h8⟩ := gateR_open h7.swap
      refine ncP_p (fld_at (ld1_at h8 0 rfl (v := .int .i64 fl') rfl ?_))
      refine gate_Floor_s h7 ⟨ld1_at h8 0 rfl (v := .int .i64 fl') rfl ⟨rfl, rfl⟩, ?_⟩
      refine ne_f rfl (gd_ff (gd_ff (gd_ff ?_)))
      refine gate_Held_s h7 (by omega) fun v1 w8 h9 => ?_
      refine gd_ff (ref14_Held_s (h9.selR [_, _, _] [_, _, _] [2, 0, 1] (by decide) rfl) (by omega) fun v2 w9 h10 => ?_)
      refine gd_ff (same_s (h10.selR [_, _, _, _] [_, _, _, _] [2, 0, 1, 3] (by decide) rfl) (fun g hg => own_rd hg) (fun g hg => own_rd hg) (by rw [List.length_map]; omega) fun w10 h11 => ?_)
      rw [decide_eq_true rfl]
      refine gd_ff (not_t (pk_f (iff_f (inc_s (by omega) ?_))))
      exact hg _ _ _ (by omega) ⟨j + 1, fl', l', by omega, rfl, rfl, hfl', hl', h11.selR [_, _, _, _, _] [_, _] [3, 2] (by decide) rfl⟩
  · rw [zero_61, zero_63]
    refine bld_s (Key.cs ⟨-9, 0, 0⟩) (by kernel_rfl) ?_
    refine bld_s (Msg.cs ⟨⟨0, 0, 0⟩, 0, 0, 0⟩) (by kernel_rfl) ?_
    refine gate_Hold_s ⟨-9, 0, 0⟩ ⟨⟨0, 0, 0⟩, 0, 0, 0⟩ h3 hl fun w7 h7 => ?_
    rw [show holdE fl l ⟨-9, 0, 0⟩ = 110 from if_pos (show (-9 : Int) < fl by omega)]
    exact eq_t rfl (hk _ h7.drop.drop)

/-- What is held behind j steps: bodies rise. -/
structure OnceAt (l : List Kept) (j n : Nat) : Prop where
  len : l.length = n
  le : n ≤ j
  up : (l.map Kept.m).Pairwise fun a b => a.Body < b.Body
  low : ∀ x ∈ l, x.m.Body < j
theorem OnceAt.next {l : List Kept} {j n : Nat} (h : OnceAt l j n) : OnceAt l (j + 1) n := ⟨h.len, by have := h.le; omega, h.up, fun x hx => by have := h.low x hx; omega⟩
theorem OnceAt.filter {l : List Kept} {j n : Nat} (h : OnceAt l j n) (p : Kept → Bool) : OnceAt (l.filter p) (j + 1) (l.filter p).length := by
  refine ⟨rfl, ?_, ?_, fun x hx => ?_⟩
  · have := List.length_filter_le p l
    have h1 := h.len
    have h2 := h.le
    omega
  · exact h.up.sublist ((List.filter_sublist).map _)
  · have := h.low x (List.mem_filter.1 hx).1
    omega
theorem filter_both {α : Type} (p : α → Bool) (l : List α) : (l.filter p).length + (l.filter fun x => !p x).length = l.length := by
  induction l with
  | nil => rfl
  | cons x l ih => cases h : p x <;> simp [h] <;> omega

theorem gateOnce_s {v : Value} {st : List GateStep} {S : HP} (hS : Sat e w (S :: R)) (hr : ∀ g, S g → rdS 10 GateStep.cs v st g)
    (hk : ∀ w', Sat e w' (S :: R) → K (.bool true) w') : Cl prog 13 #[v] w K := by
  refine pacelinelaw14_GateOnce_calls ?_
  unfold pacelinelaw14_GateOnce
  refine lnS_rd hS 0 rfl hr ?_
  refine gt_c (fun c1 => iff_t (hk _ hS)) (fun c1 => iff_f ?_)
  refine gate_New_s hS fun g w1 h1 => ?_
  refine lpi3 (fun z t4 t5 t6 w => ∃ (j a b : Nat) (fl : Int) (l : List Kept), j ≤ st.length ∧ t4 = .int .i64 a ∧ t5 = .int .i64 b ∧ t6 = .int .i64 j ∧ z = st.length - j ∧ 0 ≤ fl ∧ a ≤ j ∧ b ≤ a ∧ OnceAt l j (a - b) ∧ Sat e w (IsGate g fl l :: S :: R)) st.length
    ⟨0, 0, 0, 0, [], Nat.zero_le _, rfl, rfl, rfl, rfl, Int.le_refl _, Nat.le_refl _, Nat.le_refl _, ⟨rfl, Nat.le_refl _, List.Pairwise.nil, fun _ h => by cases h⟩, h1⟩ ?_
  rintro z _ _ _ w g1 ⟨j, a, b, fl, l, hj, rfl, rfl, rfl, rfl, hfl, haj, hba, hO, h3⟩ hg
  have hll := hO.len
  refine lnS_rd h3 1 rfl hr ?_
  refine lt_c (fun c2 => iff_t ?_) (fun c2 => iff_f ?_)
  · obtain ⟨s0, hs⟩ := get_of_lt (l := st) (j := j) (by omega)
    refine ixS_rd h3 1 rfl hr (fun _ => rfl) hs fun p hp => ?_
    refine ldN_of h3 1 rfl hp rfl ?_
    rw [zero_104]
    refine al_s (cs := ints [0, 0, 0, 0, 0, 0, 0, 0, 0, 0]) h3 rfl fun bb w4 h4 => ?_
    refine stN_at h4 0 rfl (vs := s0.cs) rfl rfl (Nat.le_of_ble_eq_true rfl) (ints_flat _) (cs' := s0.cs) (by kernel_rfl) fun w5 h5 => ?_
    refine fld_at (fld_at ?_)
    refine stN_at h5 0 rfl (vs := [.int .i64 j]) rfl rfl (Nat.le_of_ble_eq_true rfl) (by simp [flat]) (cs' := GateStep.cs { s0 with M := { s0.M with Body := j } }) rfl fun w6 h6 => ?_
    obtain ⟨s, hse⟩ : ∃ s : GateStep, s = { s0 with M := { s0.M with Body := j } } := ⟨_, rfl⟩
    have hsb : s.M.Body = j := by rw [hse]
    rw [← hse] at h6
    replace h6 : Sat e w6 (IsGate g fl l :: blk bb 104 s.cs :: S :: R) := h6.selR [_, _] [_, _] [1, 0] (by decide) rfl
    refine fld_at (ld1_at h6 1 rfl (v := .int .i64 s.Kind) rfl ?_)
    refine J2.cut (fun t4 t5 w => ∃ (a b : Nat) (fl : Int) (l : List Kept), t4 = .int .i64 a ∧ t5 = .int .i64 b ∧ 0 ≤ fl ∧ a ≤ j + 1 ∧ b ≤ a ∧ OnceAt l (j + 1) (a - b) ∧ Sat e w (IsGate g fl l :: blk bb 104 s.cs :: S :: R)) (fun k2 hcut => ?_) ?_
    · refine eq_c (fun c3 => iff_t ?_) (fun c3 => iff_f ?_)
      · refine fld_at (ldN_at h6 1 (vs := s.K.cs) rfl (by rfl) rfl ?_)
        refine fld_at (ldN_at h6 1 (vs := s.M.cs) rfl (by rfl) rfl ?_)
        refine gate_Hold_s s.K s.M h6 (by omega) fun w7 h7 => ?_
        by_cases hT : s.K.T < fl
        · rw [show holdL fl l s.K s.M = l from if_pos hT] at h7
          rw [show holdE fl l s.K = 110 from if_pos hT]
          exact eq_f (by decide) (iff_f (hcut _ _ _ ⟨a, b, fl, l, rfl, rfl, hfl, by omega, hba, hO.next, h7⟩))
        · have hlt : ¬ 256 ≤ l.length := by omega
          rw [show holdL fl l s.K s.M = l ++ [⟨s.K, s.M⟩] from by unfold holdL; rw [if_neg hT, if_neg hlt]] at h7
          rw [show holdE fl l s.K = 0 from by unfold holdE; rw [if_neg hT, if_neg hlt]]
          refine eq_t rfl (iff_t (inc_s (by omega) ?_))
          refine hcut _ _ _ ⟨a + 1, b, fl, _, rfl, rfl, hfl, by omega, by omega, ⟨?_, by omega, ?_, fun x hx => ?_⟩, h7⟩
          · rw [List.length_append]; simp; omega
          · rw [List.map_append, List.pairwise_append]
            refine ⟨hO.up, List.pairwise_singleton _ _, fun x hx y hy => ?_⟩
            obtain ⟨z, hz, rfl⟩ := List.mem_map.1 hx
            have : y = s.M := by simpa using hy
            rw [this, hsb]
            exact hO.low z hz
          · rcases List.mem_append.1 hx with h | h
            · have := hO.low x h; omega
            · rw [List.mem_singleton.1 h]; show s.M.Body < _; rw [hsb]; omega
      have hboth : ∀ p : Kept → Bool, (l.filter p).length + (l.filter fun x => !p x).length = l.length := fun p => filter_both p l
      refine eq_c (fun c4 => iff_t ?_) (fun c4 => iff_f ?_)
      · refine fld_at (ldN_at h6 1 (vs := s.K.cs) rfl (by rfl) rfl ?_)
        refine gate_Drop_s s.K h6 (by omega) fun v1 w7 h7 => ?_
        refine lnS_rd h7 0 rfl (fun g hg => own_rd hg) ?_
        rw [List.length_map]
        have hb := hboth (dropP s.K)
        refine addn_s (by omega) ?_
        have hO' := hO.filter fun x => !dropP s.K x
        refine hcut _ _ _ ⟨a, b + (l.filter (dropP s.K)).length, fl, _, rfl, rfl, hfl, by omega, by omega, ?_, h7.selR [_, _, _] [_, _] [1, 2] (by decide) rfl⟩
        rw [show a - (b + (l.filter (dropP s.K)).length) = (l.filter fun x => !dropP s.K x).length by omega]
        exact hO'
      refine eq_c (fun c5 => iff_t ?_) (fun c5 => iff_f ?_)
      · refine fld_at (fld_at (ld1_at h6 1 rfl (v := .int .i64 s.K.T) rfl ?_))
        refine gate_Open_s s.K.T h6 (by omega) fun v1 w7 h7 => ?_
        refine lnS_rd h7 0 rfl (fun g hg => own_rd hg) ?_
        rw [List.length_map, show (openR l s.K.T).length = (l.filter (openP s.K.T)).length from stab_length _]
        have hb := hboth (openP s.K.T)
        refine addn_s (by omega) ?_
        have hO' := hO.filter fun x => !openP s.K.T x
        refine hcut _ _ _ ⟨a, b + (l.filter (openP s.K.T)).length, _, _, rfl, rfl, by omega, by omega, by omega, ?_, h7.selR [_, _, _] [_, _] [1, 2] (by decide) rfl⟩
        rw [show a - (b + (l.filter (openP s.K.T)).length) = (l.filter fun x => !openP s.K.T x).length by omega]
        exact hO'
      refine eq_c (fun c6 => iff_t ?_) (fun c6 => iff_f ?_)
      · refine fld_at (fld_at (ldN_at h6 1 (vs := s.M.key.cs) rfl (by rfl) rfl ?_))
        refine gate_Retract_s s.M.key h6 (by omega) fun w7 h7 => ?_
        refine xt_02 (xt_12 ?_)
        have hb := hboth (fun x => decide (x.m.key = s.M.key))
        have e1 : retN l s.M.key = (l.filter fun x => decide (x.m.key = s.M.key)).length := rfl
        refine addn_s (by omega) ?_
        have hO' := hO.filter fun x => !decide (x.m.key = s.M.key)
        refine hcut _ _ _ ⟨a, b + retN l s.M.key, fl, _, rfl, rfl, hfl, by omega, by omega, ?_, h7⟩
        rw [show a - (b + retN l s.M.key) = (l.filter fun x => !decide (x.m.key = s.M.key)).length by omega]
        exact hO'
      · exact hcut _ _ _ ⟨a, b, fl, l, rfl, rfl, hfl, by omega, hba, hO.next, h6⟩
    · rintro _ _ w ⟨a', b', fl', l', rfl, rfl, hfl', haj', hba', hO', h7⟩
      have hll' := hO'.len
      refine gate_Held_s h7 (by omega) fun v1 w8 h8 => ?_
      refine lnS_rd h8 0 rfl (fun g hg => own_rd hg) ?_
      rw [List.length_map]
      refine subn_s (by omega) (by omega) (ne_f (by omega) (iff_f ?_))
      refine lpi1 (fun z t11 w => ∃ i : Nat, 1 ≤ i ∧ t11 = .int .i64 i ∧ z = l'.length - i ∧ Sat e w (ownS 63 6 Msg.cs v1 (l'.map Kept.m) :: IsGate g fl' l' :: blk bb 104 s.cs :: S :: R)) (l'.length - 1)
        ⟨1, Nat.le_refl _, rfl, rfl, h8⟩ ?_
      rintro z _ w g3 ⟨i, hi, rfl, rfl, h9⟩ hg3
      refine lnS_rd h9 0 rfl (fun g hg => own_rd hg) ?_
      rw [List.length_map]
      refine lt_c (fun c3 => iff_t ?_) (fun c3 => iff_f ?_)
      · obtain ⟨x, hx⟩ := get_of_lt (l := l'.map Kept.m) (j := i - 1) (by rw [List.length_map]; omega)
        obtain ⟨y, hy⟩ := get_of_lt (l := l'.map Kept.m) (j := i) (by rw [List.length_map]; omega)
        have hlt : x.Body < y.Body := by
          obtain ⟨h1, e1⟩ := List.getElem?_eq_some_iff.1 hx
          obtain ⟨h2, e2⟩ := List.getElem?_eq_some_iff.1 hy
          have := List.pairwise_iff_getElem.1 hO'.up (i - 1) i h1 h2 (by omega)
          rw [e1, e2] at this
          exact this
        refine dr_s h9 fun w10 h10 => ?_
        refine dec_s (by omega) (by omega) ?_
        refine ixS_rd h10 0 rfl (fun g hg => own_rd hg) (fun _ => rfl) hx fun p hp => ?_
        refine fld_of hp fun p1 hp1 => ?_
        refine ld1_of (v := .int .i64 x.Body) h10 0 rfl hp1 rfl ?_
        refine ixS_rd h10 0 rfl (fun g hg => own_rd hg) (fun _ => rfl) hy fun p hp => ?_
        refine fld_of hp fun p1 hp1 => ?_
        refine ld1_of (v := .int .i64 y.Body) h10 0 rfl hp1 rfl ?_
        refine ge_f (by omega) (iff_f (inc_s (by omega) ?_))
        exact hg3 _ _ _ (by omega) ⟨i + 1, by omega, rfl, rfl, h10⟩
      · refine inc_s (by omega) ?_
        exact hg _ _ _ _ _ (by omega) ⟨j + 1, a', b', fl', l', by omega, rfl, rfl, rfl, rfl, hfl', haj', hba', hO', h9.selR [_, _, _] [_] [1] (by decide) rfl⟩
  · rw [zero_61, zero_63]
    refine bld_s (Key.cs ⟨-9, 0, 0⟩) (by kernel_rfl) ?_
    refine bld_s (Msg.cs ⟨⟨0, 0, 0⟩, 0, 0, 0⟩) (by kernel_rfl) ?_
    refine gate_Hold_s ⟨-9, 0, 0⟩ ⟨⟨0, 0, 0⟩, 0, 0, 0⟩ h3 (by have := hO.le; omega) fun w7 h7 => ?_
    rw [show holdE fl l ⟨-9, 0, 0⟩ = 110 from if_pos (show (-9 : Int) < fl by omega)]
    exact eq_t rfl (hk _ h7.drop)
end Go.Proofs.Ytdiglafiimnfoaa
