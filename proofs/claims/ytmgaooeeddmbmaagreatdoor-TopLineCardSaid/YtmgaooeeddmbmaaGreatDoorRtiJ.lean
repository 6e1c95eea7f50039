/- The law TopLine: the walk. Conditions: the list of lookaheads is no longer than memory. -/
import Derived.Test.YtmgaooeeddmbmaaGreatDoorRtiI
import Derived.Test.YtmgaooeeddmbmaaGreatDoorPf0
import Derived.Test.YtmgaooeeddmbmaaGreatDoorPf1
import Derived.Test.YtmgaooeeddmbmaaGreatDoorPf2
import Derived.Test.YtmgaooeeddmbmaaGreatDoorPf3
import Derived.Test.YtmgaooeeddmbmaaGreatDoorPf4
namespace Go.Proofs.YtmgaooeeddmbmaaGreatDoor
open Go Go.E
set_option maxRecDepth 100000
variable {e w : World} {R : List HP} {K : KV}
variable {C : RC} {s : RS} {f : Nat}
variable {l : List Int} {n i : Nat}

theorem setM_ne {m : Mb} {k : Nat} (h : k ≠ f) : (s.setM f m).m k = s.m k := upM_ne h
theorem stA_step (h : St n (mbA l i) (fun _ => []) s) {s' : RS} (h1 : ∀ k, k ≠ i → s'.m k = s.m k) (h2 : s'.m i = ⟨true, false, 0, dk l i, 0, 0, 0, (s.m i).q, subsOf (i + 1) i⟩) (h3 : s'.l = s.l) : St n (mbA l (i + 1)) (fun _ => []) s' := by
  refine ⟨fun j hj => ?_, fun j hj => by rw [h3]; exact h.l j hj⟩
  by_cases hji : j = i
  · subst hji
    rw [h2]
    unfold mbA
    rw [if_pos (by omega)]
  · rw [h1 j hji]
    have := h.m j hj
    rw [this]
    unfold mbA
    by_cases hlt : j < i
    · rw [if_pos hlt, if_pos (by omega)]
      have e1 : subsOf (i + 1) j = subsOf i j := by
        unfold subsOf
        by_cases h1 : 1 ≤ j
        · rw [if_pos ⟨h1, by omega⟩, if_pos ⟨h1, by omega⟩]
        · rw [if_neg (by omega), if_neg (by omega)]
      rw [e1]
    · rw [if_neg hlt, if_neg (by omega)]
      rfl
theorem mbA_B (j q : Nat) : mbA l n j q = mbB l n 1 j q := by
  unfold mbA mbB
  by_cases h : j < n
  · rw [if_pos h, if_pos h, decide_eq_false (by omega)]
  · rw [if_neg h, if_neg h]
theorem mbC_D (j q : Nat) : mbC l n n j q = mbD l n 1 j q := by
  unfold mbC mbD
  by_cases h : j < n
  · rw [if_pos h, if_pos h, if_pos h, if_pos h, if_neg (by omega : ¬ (1 ≤ j ∧ j < 1))]
    by_cases h0 : j = 0
    · rw [if_pos h0, if_pos h0, if_pos (by omega : j < 1)]
    · rw [if_neg h0, if_neg h0, if_neg (by omega : ¬ j < 1)]
  · rw [if_neg h, if_neg h]
theorem St.of {n : Nat} {F F' : Nat → Nat → Mb} {L L' : Nat → List Msg} (h : St n F L s) (h1 : ∀ j q, F j q = F' j q) (h2 : ∀ j, j < 8 → L j = L' j) : St n F' L' s :=
  ⟨fun j hj => by rw [← h1]; exact h.m j hj, fun j hj => by rw [← h2 j hj]; exact h.l j hj⟩

set_option maxHeartbeats 1600000 in
theorem topLine_s {v : Value} {S : HP} (hS : Sat e w (S :: R)) (hr : ∀ g, S g → rdS 1 (intsK .u8) v l g) (hwf : ∀ m ∈ l, (Lit.int .u8 m).wf = true) (hl : l.length ≤ 140737488355328) (hk : ∀ w', Sat e w' (S :: R) → K (.bool true) w') :
    Cl prog 3 #[v] w K := by
  have hw : ∀ m ∈ l, 0 ≤ m ∧ m ≤ 255 := fun m hm => wfU8 (hwf m hm)
  refine pacelinetop_TopLine_calls ?_
  unfold pacelinetop_TopLine
  refine lnS_rd hS 0 rfl hr (add_s (by omega) (by omega) (min_s ?_))
  obtain ⟨n, hn, hn2, hn8⟩ : ∃ n : Nat, min ((l.length : Int) + 2) 8 = (n : Int) ∧ 2 ≤ n ∧ n ≤ 8 := ⟨min (l.length + 2) 8, by omega, by omega, by omega⟩
  rw [hn]
  refine bsl0 hS (intsK .i64) fun v4 w1 h1 => ?_
  refine lp2 (fun t4 t5 w => ∃ j : Nat, j ≤ n ∧ t5 = .int .i64 j ∧ Sat e w (II t4 (List.replicate j (-1)) :: S :: R)) (fun _ t5 _ => n - nOf t5) ⟨0, Nat.zero_le _, rfl, h1⟩ ?_
  rintro t4 _ w2 g ⟨j, hj, rfl, h2⟩ hg
  refine lt_c (fun c => iff_t ?_) (fun c => iff_f ?_)
  · refine push1 te_23 (f := intsK .i64) (fun _ => rfl) (fun _ => intsK_flat _) h2 (x := -1) rfl (by simp; omega) fun v' w3 h3 => ?_
    refine inc_s (by omega) (hg _ _ _ ⟨j + 1, by omega, rfl, ?_⟩ (by simp [nOf]; omega))
    rw [List.replicate_succ']
    exact h3
  obtain rfl : j = n := by omega
  refine rti_New_s (by omega) hn8 h2 (fun g hg => own_rd hg) fun C q w3 hCn h3 => ?_
  refine xt_02 (xt_12 (ne_f rfl (gd_ff (gd_ff (bnp_s _ (pk_f (iff_f ?_)))))))
  refine bsl0 h3 (intsK .i64) fun v8 w4 h4 => ?_
  refine lp2 (fun t8 t9 w => ∃ (i : Nat) (s : RS), i ≤ j ∧ t9 = .int .i64 i ∧ St j (mbA l i) (fun _ => []) s ∧ Tab j i s ∧ Sat e w (RP C s ++ II t8 ((List.range i).map (dk l)) :: S :: R)) (fun _ t9 _ => j - nOf t9)
    ⟨0, rs0 q, Nat.zero_le _, rfl, ⟨fun _ _ => rfl, fun _ _ => rfl⟩, ⟨fun _ _ => rfl, fun _ _ => rfl⟩, h4.selR [_, _, _, _, _, _, _] [_, _, _, _, _, _] [1, 2, 3, 4, 0, 6] (by decide) rfl⟩ ?_
  rintro t8 _ w5 g ⟨i, s, hi, rfl, hst, htb, h5⟩ hg2
  refine lt_c (fun c => iff_t ?_) (fun c => iff_f ?_)
  · have hi8 : i < 8 := by omega
    have hd := dk_ok hw i
    refine lnS_rd h5 5 rfl hr (lt_d ?_)
    refine J1.cut (fun t w' => t = .int .i64 (dk l i) ∧ w' = w5) (fun k hkk => iff_d (fun c2 => ?_) (fun c2 => ?_)) ?_
    · obtain ⟨x, hx⟩ := get_of_lt (l := l) (j := i) (by omega)
      have hxb := hw x (List.mem_of_getElem? hx)
      refine ixS_rd h5 5 rfl hr (fun _ => rfl) hx fun a ha => ?_
      refine ld1_of h5 5 rfl ha (by rfl) (cv_s ?_)
      rw [wrap_i64 (by omega) (by omega)]
      refine add_s (by omega) (by omega) (hkk _ _ ⟨?_, rfl⟩)
      unfold dk
      rw [hx]
    · refine hkk _ _ ⟨?_, rfl⟩
      unfold dk
      rw [List.getElem?_eq_none (by omega)]
    rintro _ _ ⟨rfl, rfl⟩
    refine push1 te_23 (f := intsK .i64) (fun _ => rfl) (fun _ => intsK_flat _) (h5.pick 4 rfl) (x := dk l i) rfl (by simp; omega) fun v' w6 h6 => ?_
    have h7 : Sat e w6 (RP C s ++ II v' ((List.range (i + 1)).map (dk l)) :: S :: R) := by
      rw [List.range_succ, List.map_append]
      exact h6.selR [_, _, _, _, _, _] [_, _, _, _, _, _] [1, 2, 3, 4, 0, 5] (by decide) rfl
    have hmi := hst.m i hi8
    have hmi0 : mbA l i i (s.m i).q = mb0 (s.m i).q := by unfold mbA; rw [if_neg (by omega)]
    rw [hmi0] at hmi
    refine rti_Join_s hi8 (by rw [hmi]; rfl) h7 fun w7 h8 => ?_
    refine ne_f rfl (gd_ff (gd_ff (gd_ff (gd_ff ?_))))
    refine rti_Publish_s (f := i) (by omega) (by omega) (by rw [setM_m]) (by show s.pu i = 0; rw [htb.p i hi8, if_neg (by omega)]) h8 fun w8 h9 => ?_
    refine gd_ff (ne_f rfl (pk_f (gd_ff (gd_ff ?_))))
    have hcon : ∀ k, k < 8 → (s.m k).con = false := fun k hk => by
      rw [hst.m k hk]
      unfold mbA
      split <;> rfl
    by_cases hi0 : i = 0
    · refine gt_f (by omega) (gd_ff ?_)
      iterate 6 refine gd_ft ?_
      refine gd_ff (pk_f (pk_f (gd_ff (gd_ff (gd_ff (gd_ff ?_))))))
      refine rti_Regulate_s (t := dk l i) hi8 (by show ((s.setM i _).m i).is = true; rw [setM_m]) (by show ((s.setM i _).m i).look = 0; rw [setM_m, hmi]; rfl) (by show ((s.setM i _).m i).kind = 0; rw [setM_m, hmi]; rfl) (by omega) (fun k hk => ?_) h9 fun w9 h10 => ?_
      · show ((s.setM i _).m k).con = false
        by_cases hki : k = i
        · subst hki; rw [setM_m]; exact hcon k hk
        · rw [setM_ne hki]; exact hcon k hk
      refine gd_ff (ne_f rfl (pk_f (iff_f (inc_s (by omega) (hg2 _ _ _ ⟨i + 1, _, by omega, rfl, ?_, ?_, h10⟩ (by simp [nOf]; omega))))))
      · refine stA_step hst (fun k hki => ?_) ?_ rfl
        · rw [setM_ne hki]
          exact setM_ne hki
        · rw [setM_m]
          show { (s.setM i _).m i with look := dk l i } = _
          rw [setM_m, hmi]
          subst hi0
          rfl
      · refine ⟨fun k hk => ?_, fun k hk => ?_⟩
        · show upM s.pu i (bitV i) k = _
          by_cases hki : k = i
          · subst hki; rw [upM_at, if_pos (by omega)]
          · rw [upM_ne hki, htb.p k hk]
            by_cases hlt : k < i
            · rw [if_pos hlt, if_pos (by omega)]
            · rw [if_neg hlt, if_neg (by omega)]
        · show s.su k = _
          rw [htb.u k hk]
          subst hi0
          by_cases hk0 : k = 0
          · subst hk0; rfl
          · rw [if_neg (by omega), if_neg (by omega)]
    · refine gt_t (by omega) (gd_ff (gd_tt (gd_tt (gd_tt (gd_tt (dec_s (by omega) (by omega) (gd_tt ?_)))))))
      refine rti_Subscribe_s (f := i) (by omega) (by omega) (by omega) (by show ((s.setM i _).m i).is = true; rw [setM_m]) (by show s.su i = 0; rw [htb.u i hi8, if_neg (by omega)]) (by show ((s.setM i _).m i).subs = 0; rw [setM_m, hmi]; rfl) h9 fun w9 h10 => ?_
      refine gd_tt (ne_f rfl (gd_ff (pk_t (pk_f (gd_ff (gd_ff (gd_ff (gd_ff ?_))))))))
      refine rti_Regulate_s (t := dk l i) hi8 (by rw [setM_m]; show ((s.setM i _).m i).is = true; rw [setM_m]) (by rw [setM_m]; show ((s.setM i _).m i).look = 0; rw [setM_m, hmi]; rfl) (by rw [setM_m]; show ((s.setM i _).m i).kind = 0; rw [setM_m, hmi]; rfl) (by omega) (fun k hk => ?_) h10 fun w10 h11 => ?_
      · by_cases hki : k = i
        · subst hki; rw [setM_m]; show ((s.setM k _).m k).con = false; rw [setM_m]; exact hcon k hk
        · rw [setM_ne hki]; show ((s.setM i _).m k).con = false; rw [setM_ne hki]; exact hcon k hk
      refine gd_ff (ne_f rfl (pk_f (iff_f (inc_s (by omega) (hg2 _ _ _ ⟨i + 1, _, by omega, rfl, ?_, ?_, h11⟩ (by simp [nOf]; omega))))))
      · refine stA_step hst (fun k hki => ?_) ?_ rfl
        · rw [setM_ne hki, setM_ne hki]
          exact setM_ne hki
        · rw [setM_m, setM_m]
          show { (s.setM i _).m i with subs := bitV (i - 1), look := dk l i } = _
          rw [setM_m, hmi]
          unfold subsOf
          rw [if_pos ⟨by omega, by omega⟩]
          rfl
      · refine ⟨fun k hk => ?_, fun k hk => ?_⟩
        · show upM s.pu i (bitV i) k = _
          by_cases hki : k = i
          · subst hki; rw [upM_at, if_pos (by omega)]
          · rw [upM_ne hki, htb.p k hk]
            by_cases hlt : k < i
            · rw [if_pos hlt, if_pos (by omega)]
            · rw [if_neg hlt, if_neg (by omega)]
        · show upM s.su i (bitV (i - 1)) k = _
          by_cases hki : k = i
          · subst hki
            rw [upM_at, if_pos (by omega), ← subsOf_eq]
            unfold subsOf
            rw [if_pos ⟨by omega, by omega⟩]
          · rw [upM_ne hki, htb.u k hk]
            by_cases hlt : k < i
            · rw [if_pos hlt, if_pos (by omega)]
            · rw [if_neg hlt, if_neg (by omega)]
  obtain rfl : i = j := by omega
  obtain ⟨n, rfl⟩ : ∃ n, n = i := ⟨i, rfl⟩
  have hdk : ∀ k, k < n → ((List.range n).map (dk l))[k]? = some (dk l k) := fun k hk => range_get hk
  have hsu : ∀ {s : RS}, Tab n n s → ∀ g, g < 8 → s.su g = subW C.n g := fun htb g hg => by
    rw [htb.u g hg, hCn]
    by_cases hgn : g < n
    · rw [if_pos hgn]
    · rw [if_neg hgn]
      unfold subW bitW
      rw [decide_eq_false (by omega)]
      rfl
  have hpu : ∀ {s : RS}, Tab n n s → ∀ g, g < n → s.pu g = bitV g := fun htb g hg => by rw [htb.p g (by omega), if_pos hg]
  clear hg hg2 hj hi
  refine lp1 (fun t11 w => ∃ (i : Nat) (s : RS), 1 ≤ i ∧ i ≤ n ∧ t11 = .int .i64 i ∧ St n (mbB l n i) (fun _ => []) s ∧ Tab n n s ∧ Sat e w (RP C s ++ II t8 ((List.range n).map (dk l)) :: S :: R)) (fun t11 _ => n - nOf t11)
    ⟨1, s, by omega, by omega, rfl, hst.of mbA_B (fun _ _ => rfl), htb, h5⟩ ?_
  clear hst htb h5
  rintro _ w6 g1 ⟨i, s, hi1, hi, rfl, hst, htb, h6⟩ hg3
  refine lt_c (fun c => iff_t ?_) (fun c => iff_f ?_)
  · have hi8 : i < 8 := by omega
    have hmi := hst.m i hi8
    have e1 : mbB l n i i (s.m i).q = ⟨true, false, 0, dk l i, 0, 0, 0, (s.m i).q, subsOf n i⟩ := by
      unfold mbB
      rw [if_pos (by omega), decide_eq_false (by omega)]
    rw [e1] at hmi
    refine rti_Constrain_s hi8 (by rw [hmi]) (by rw [hmi]) (by rw [hmi]) (by rw [hmi]; show (0 : Int) < Inf; decide) (fun k hk hlk => ?_) h6 fun w7 h7 => ?_
    · have hd := dk_ok hw k
      have hmk := hst.m k hk
      have hti : (s.m i).time = 0 := by rw [hmi]
      rw [hti]
      unfold mbB at hmk
      by_cases hkn : k < n
      · rw [if_pos hkn] at hmk
        rw [lat_idle (by rw [hmk]) (by rw [hmk]; show (0 : Int) ≤ 0 ∧ (0 : Int) ≤ 100000; omega) (by rw [hmk]; exact hd)]
        rw [hmk]
        show 0 + 1 ≤ 0 + dk l k
        omega
      · rw [if_neg hkn] at hmk
        rw [hmk] at hlk
        simp [mb0] at hlk
    refine ne_f rfl (iff_f (inc_s (by omega) (hg3 _ _ ⟨i + 1, _, by omega, by omega, rfl, hst.setM (f := i) (m := { s.m i with con := true }) (F' := mbB l n (i + 1)) ?_ rfl ?_, ⟨htb.p, htb.u⟩, h7⟩ (by simp [nOf]; omega))))
    · rw [hmi]
      unfold mbB
      rw [if_pos (by omega), decide_eq_true (by omega)]
    · intro k q hk hki
      unfold mbB
      by_cases hkn : k < n
      · rw [if_pos hkn, if_pos hkn]
        have : (1 ≤ k ∧ k < i) ↔ (1 ≤ k ∧ k < i + 1) := by omega
        simp only [this]
      · rw [if_neg hkn, if_neg hkn]
  obtain ⟨hin, _⟩ : i = n ∧ True := ⟨by omega, trivial⟩
  rw [hin] at hst
  clear hg3 c
  have hd0 := dk_ok hw 0
  refine ixS_rd (j := 0) h6 4 rfl (fun g hg => own_rd hg) (fun _ => rfl) (hdk 0 (by omega)) fun a ha => ?_
  refine ld1_of h6 4 rfl ha (by rfl) ?_
  have hm0 := hst.m 0 (by omega)
  have e0 : mbB l n n 0 (s.m 0).q = ⟨true, false, 0, dk l 0, 0, 0, 0, (s.m 0).q, subsOf n 0⟩ := by
    unfold mbB
    rw [if_pos (by omega), decide_eq_false (by omega)]
  rw [e0] at hm0
  have hm1 := hst.m 1 (by omega)
  have e1 : mbB l n n 1 (s.m 1).q = ⟨true, true, 0, dk l 1, 0, 0, 0, (s.m 1).q, subsOf n 1⟩ := by
    unfold mbB
    rw [if_pos (by omega), decide_eq_true (by omega)]
  rw [e1] at hm1
  refine rti_Send_s (f := 0) (body := 1) (t := dk l 0) (by omega) (by omega) (by rw [hm0]) (hpu htb 0 (by omega)) (hsu htb) (by rw [hm0]; show 0 < dk l 0; omega) (by rw [hm1]) (hst.l 1 (by omega)) (by omega) (by omega)
    (by rw [lat_idle (by rw [hm0]) (by rw [hm0]; show (0 : Int) ≤ 0 ∧ (0 : Int) ≤ 100000; omega) (by rw [hm0]; exact hd0), hm0]; show 0 + dk l 0 ≤ dk l 0; omega) (by rw [hm0]; show (0 : Int) ≤ 0 ∧ (0 : Int) ≤ 1000; omega) h6 fun w7 h7 => ?_
  have hs0 : (s.m 0).sent = 0 := by rw [hm0]
  rw [hs0] at h7
  refine xt_02 (xt_12 (ne_f rfl (iff_f ?_)))
  have ht1 : tt l 1 = dk l 0 := by show 0 + dk l 0 = dk l 0; omega
  have hst2 : St n (mbC l n 0) (linesL l 1) ((s.setL 1 [⟨⟨dk l 0, ((0 : Nat) : Int), 0⟩, ((0 + 1 : Nat) : Int), ((0 : Nat) : Int), 1⟩]).setM 0 { s.m 0 with sent := 0 + 1 }) := by
    refine St.setM (F := mbB l n n) (St.setL hst ?_ fun k hk hk1 => ?_) ?_ rfl fun k q hk hk0 => ?_
    · show _ = linesL l 1 1
      unfold linesL msgAt
      rw [if_pos rfl, ht1]
      rfl
    · show [] = linesL l 1 k
      unfold linesL
      rw [if_neg hk1]
    · show { s.m 0 with sent := 0 + 1 } = mbC l n 0 0 (s.m 0).q
      rw [hm0]
      unfold mbC
      rw [if_pos (by omega), decide_eq_false (by omega)]
      rfl
    · unfold mbB mbC
      by_cases hkn : k < n
      · rw [if_pos hkn, if_pos hkn]
        have : (1 ≤ k ∧ k < n) ↔ 1 ≤ k := by omega
        simp only [this, if_neg hk0, if_neg (Nat.not_lt_zero k)]
      · rw [if_neg hkn, if_neg hkn]
  have htb2 : Tab n n ((s.setL 1 [⟨⟨dk l 0, ((0 : Nat) : Int), 0⟩, ((0 + 1 : Nat) : Int), ((0 : Nat) : Int), 1⟩]).setM 0 { s.m 0 with sent := 0 + 1 }) := ⟨htb.p, htb.u⟩
  refine lp1 (fun t15 w => ∃ (i : Nat) (s : RS), i ≤ n ∧ t15 = .int .i64 i ∧ St n (mbC l n i) (linesL l 1) s ∧ Tab n n s ∧ Sat e w (RP C s ++ II t8 ((List.range n).map (dk l)) :: S :: R)) (fun t15 _ => n - nOf t15)
    ⟨0, _, by omega, rfl, hst2, htb2, h7⟩ ?_
  clear hst2 htb2 h7 hst htb h6 hm0 hm1 e0 e1 hs0 hin hi hi1
  rintro _ w8 g5 ⟨i, s, hi, rfl, hst, htb, h8⟩ hg5
  refine lt_c (fun c => iff_t ?_) (fun c => iff_f ?_)
  · have hi8 : i < 8 := by omega
    have hmi := hst.m i hi8
    have e1 : mbC l n i i (s.m i).q = ⟨true, decide (1 ≤ i), 0, dk l i, 0, 0, if i = 0 then 1 else 0, (s.m i).q, subsOf n i⟩ := by
      unfold mbC
      rw [if_pos (by omega), if_neg (by omega), if_neg (by omega)]
    rw [e1] at hmi
    refine eq_d (J1.cut (fun t w' => t = .int .i64 (if i = 0 then 1 else 2) ∧ w' = w8) (fun k hkk => iff_d (fun c2 => hkk _ _ ⟨by rw [if_pos (by omega)], rfl⟩) (fun c2 => hkk _ _ ⟨by rw [if_neg (by omega)], rfl⟩)) ?_)
    rintro _ _ ⟨rfl, rfl⟩
    refine rti_Ask_s (k := if i = 0 then 1 else 2) (t := 100000) hi8 (by rw [hmi]) (by split <;> omega) (by rw [hmi]) (by omega) (by rw [hmi]; show (0 : Int) ≤ 100000; omega) h8 fun w9 h9 => ?_
    refine ne_f rfl (iff_f (inc_s (by omega) (hg5 _ _ ⟨i + 1, _, by omega, rfl, hst.setM (f := i) (m := { s.m i with kind := if i = 0 then 1 else 2, ask := 100000 }) (F' := mbC l n (i + 1)) ?_ rfl ?_, ⟨htb.p, htb.u⟩, h9⟩ (by simp [nOf]; omega))))
    · rw [hmi]
      unfold mbC
      rw [if_pos (show i < n by omega)]
      simp only [Nat.lt_add_one, if_true]
    · intro k q hk hki
      unfold mbC
      by_cases hkn : k < n
      · rw [if_pos hkn, if_pos hkn]
        have : k < i ↔ k < i + 1 := by omega
        simp only [this]
      · rw [if_neg hkn, if_neg hkn]
  obtain ⟨hin, _⟩ : i = n ∧ True := ⟨by omega, trivial⟩
  rw [hin] at hst
  clear hg5 c
  refine lp2 (fun t12 t17 w => ∃ (i : Nat) (s : RS), 1 ≤ i ∧ i ≤ n ∧ t17 = .int .i64 i ∧ (i < n ∧ t12 = .int .i64 (tt l i) ∧ St n (mbD l n i) (linesL l i) s ∨ i = n ∧ t12 = .int .i64 (tt l (n - 1)) ∧ (s.m (n - 1)).is = true ∧ (s.m (n - 1)).time = tt l (n - 1)) ∧ Tab n n s ∧ Sat e w (RP C s ++ II t8 ((List.range n).map (dk l)) :: S :: R)) (fun _ t17 _ => n - nOf t17)
    ⟨1, s, by omega, by omega, rfl, .inl ⟨by omega, by rw [ht1], hst.of mbC_D (fun _ _ => rfl)⟩, htb, h8⟩ ?_
  clear hst htb h8 hin hi
  rintro t12 _ w9 g7 ⟨i, s, hi1, hi, rfl, hor, htb, h9⟩ hg7
  refine lt_c (fun c => iff_t ?_) (fun c => iff_f ?_)
  · have hi8 : i < 8 := by omega
    rcases hor with ⟨_, rfl, hst⟩ | ⟨h, _⟩
    rotate_left
    · omega
    have htt := tt_ok hw i
    have hdi := dk_ok hw i
    have hmi := hst.m i hi8
    have e1 : mbD l n i i (s.m i).q = ⟨true, true, 0, dk l i, 2, 100000, 0, (s.m i).q, subsOf n i⟩ := by
      unfold mbD
      rw [if_pos (by omega), decide_eq_true hi1, if_neg (by omega), if_neg (by omega), if_neg (by omega)]
    rw [e1] at hmi
    have hli : s.l i = [msgAt l i] := by rw [hst.l i hi8]; unfold linesL; rw [if_pos rfl]
    refine J1.cut (fun t w' => ∃ s' : RS, (i + 1 < n ∧ t = .int .i64 (tt l (i + 1)) ∧ St n (mbD l n (i + 1)) (linesL l (i + 1)) s' ∨ i + 1 = n ∧ t = .int .i64 (tt l (n - 1)) ∧ (s'.m (n - 1)).is = true ∧ (s'.m (n - 1)).time = tt l (n - 1)) ∧ Tab n n s' ∧ Sat e w' (RP C s' ++ II t8 ((List.range n).map (dk l)) :: S :: R)) (fun k hkk => ?_) ?_
    rotate_left
    · rintro t w' ⟨s', hor', htb', h'⟩
      exact inc_s (by omega) (hg7 _ _ _ ⟨i + 1, s', by omega, by omega, rfl, hor', htb', h'⟩ (by simp [nOf]; omega))
    refine rti_Look_s (x := msgAt l i) hi8 (by rw [hmi]) (by rw [hmi]) (by rw [hmi]) hli (by rw [hmi]; show tt l i ≤ 100000; omega) (by rw [hmi]; show 0 ≤ tt l i; omega) (by show tt l i < Inf; unfold Inf; omega)
      (fun k hk hlk => by rw [hst.m k hk] at hlk ⊢; exact lat_D hw ⟨hi1, hi8⟩ hst.l k _ hk hlk) h9 fun vt w10 h10 => ?_
    have hvf := (h10.own_cells 0 rfl).2
    refine xt_02 (xt_12 ?_)
    rw [zero_36]
    refine al_s (cs := givC (.slice none 0 0) (.slice none 0 0) false 0) h10 rfl fun b18 w11 h11 => ?_
    refine stN_at h11 0 rfl (vs := givC (.slice none 0 0) vt true (tt l i)) rfl rfl (by simp [givC]) (by
      simp only [givC, List.mem_cons, List.not_mem_nil, or_false]
      rintro c (rfl | rfl | rfl | rfl) <;> first | rfl | exact hvf) (cs' := givC (.slice none 0 0) vt true (tt l i)) (by kernel_rfl) fun w12 h12 => ?_
    refine ne_f rfl (gd_ff (fld_at (gd_ff (ld1_at h12 0 rfl (v := .bool true) rfl (gd_ff (not_t (pk_f ?_)))))))
    refine gd_ff (fld_at (gd_ff (ld1_at h12 0 rfl (v := .int .i64 (tt l i)) rfl (gd_ff (gd_ff (ne_f rfl (pk_f ?_)))))))
    refine gd_ff (fld_at (gd_ff (ld1_at h12 0 rfl (v := vt) rfl (gd_ff (lnS_rd h12 1 rfl (fun g hg => own_rd hg) (gd_ff (ne_f rfl (pk_f ?_))))))))
    refine gd_ff (fld_at (gd_ff (ld1_at h12 0 rfl (v := vt) rfl (gd_ff ?_))))
    refine ixS_rd (j := 0) h12 1 rfl (fun g hg => own_rd hg) (fun _ => rfl) (x := msgAt l i) rfl fun a ha => ?_
    refine gd_ff (fld_of ha fun a2 ha2 => gd_ff (ld1_of h12 1 rfl ha2 (v := .int .i64 (i : Int)) (by rfl) (gd_ff (gd_ff (ne_f rfl (pk_f (iff_f ?_)))))))
    have h13 : Sat e w12 (RP C ((s.setL i []).setM i { s.m i with time := (msgAt l i).key.T, kind := 0, ask := 0 }) ++ II t8 ((List.range n).map (dk l)) :: S :: R) := h12.drop.drop
    refine add_s (by omega) (by omega) ?_
    rw [show (i : Int) + 1 = ((i + 1 : Nat) : Int) by omega]
    refine lt_c (fun c3 => iff_t ?_) (fun c3 => iff_f ?_)
    · have hi18 : i + 1 < 8 := by omega
      refine ixS_rd (j := i) h13 4 rfl (fun g hg => own_rd hg) (fun _ => rfl) (hdk i (by omega)) fun a3 ha3 => ?_
      refine ld1_of h13 4 rfl ha3 (by rfl) ?_
      have hmj := hst.m (i + 1) hi18
      have e2 : mbD l n i (i + 1) (s.m (i + 1)).q = ⟨true, true, 0, dk l (i + 1), 2, 100000, 0, (s.m (i + 1)).q, subsOf n (i + 1)⟩ := by
        unfold mbD
        rw [if_pos (by omega), decide_eq_true (by omega), if_neg (by omega), if_neg (by omega), if_neg (by omega)]
      rw [e2] at hmj
      have hlj : s.l (i + 1) = [] := by rw [hst.l (i + 1) hi18]; unfold linesL; rw [if_neg (by omega)]
      refine add_s (by omega) (by omega) (add_s (by omega) (by omega) ?_)
      rw [show (i : Int) + 1 = ((i + 1 : Nat) : Int) by omega]
      have hmi2 : ((s.setL i []).setM i { s.m i with time := (msgAt l i).key.T, kind := 0, ask := 0 }).m i = ⟨true, true, tt l i, dk l i, 0, 0, 0, (s.m i).q, subsOf n i⟩ := by
        rw [setM_m, hmi]
        rfl
      have htb3 : Tab n n ((s.setL i []).setM i { s.m i with time := (msgAt l i).key.T, kind := 0, ask := 0 }) := ⟨htb.p, htb.u⟩
      refine rti_Send_s (s := (s.setL i []).setM i { s.m i with time := (msgAt l i).key.T, kind := 0, ask := 0 }) (f := i) (body := ((i + 1 : Nat) : Int)) (t := tt l i + dk l i) (by omega) (by omega) (by rw [hmi2]) (hpu htb3 i (by omega)) (hsu htb3) (by rw [hmi2]; show 0 < dk l i; omega) (by rw [setM_ne (by omega)]; show (s.m (i + 1)).con = true; rw [hmj])
        (by show upM s.l i [] (i + 1) = []; rw [upM_ne (by omega), hlj]) (by omega) (by omega)
        (by rw [lat_idle (by rw [hmi2]) (by rw [hmi2]; exact ⟨by show 0 ≤ tt l i; omega, by show tt l i ≤ 100000; omega⟩) (by rw [hmi2]; exact hdi), hmi2]; exact Int.le_refl _) (by rw [hmi2]; show (0 : Int) ≤ 0 ∧ (0 : Int) ≤ 1000; omega) h13 fun w13 h14 => ?_
      rw [hmi2] at h14 ⊢
      refine xt_02 (xt_12 (ne_f rfl (gd_ff (gd_ff (gd_ff ?_)))))
      refine rti_Ask_s (k := 2) (t := 100000) hi8 (by rw [setM_m]) (by omega) (by rw [setM_m]) (by omega) (by rw [setM_m]; show tt l i ≤ 100000; omega) h14 fun w14 h15 => ?_
      refine gd_ff (ne_f rfl (pk_f (iff_f ?_)))
      refine hkk _ _ ⟨_, ?_, ?_, h15⟩
      rotate_left
      · exact ⟨htb.p, htb.u⟩
      refine .inl ⟨by omega, rfl, fun k hk => ?_, fun k hk => ?_⟩
      · by_cases hki : k = i
        · subst hki
          rw [setM_m, setM_m]
          unfold mbD
          rw [if_pos (by omega), if_pos (by omega), if_neg (by omega), if_pos (by omega), decide_eq_true hi1]
          rfl
        · rw [setM_ne hki, setM_ne hki]
          show ((s.setL i []).setM i _).m k = mbD l n (i + 1) k (((s.setL i []).setM i _).m k).q
          rw [setM_ne hki]
          show s.m k = mbD l n (i + 1) k (s.m k).q
          refine (hst.m k hk).trans ?_
          unfold mbD
          by_cases hkn : k < n
          · rw [if_pos hkn, if_pos hkn]
            have a2 : k < i ↔ k < i + 1 := by omega
            simp only [a2]
          · rw [if_neg hkn, if_neg hkn]
      · show upM (upM s.l i []) (i + 1) _ k = linesL l (i + 1) k
        unfold linesL
        by_cases hki : k = i + 1
        · subst hki
          rw [upM_at, if_pos rfl]
          rfl
        · rw [upM_ne hki, if_neg hki]
          by_cases hki2 : k = i
          · subst hki2; rw [upM_at]
          · rw [upM_ne hki2, hst.l k hk]
            unfold linesL
            rw [if_neg hki2]
    · have hin : i + 1 = n := by omega
      have hin2 : n - 1 = i := by omega
      refine hkk _ _ ⟨_, ?_, ?_, h13⟩
      rotate_left
      · exact ⟨htb.p, htb.u⟩
      refine .inr ⟨hin, by rw [hin2], ?_, ?_⟩
      · rw [hin2, setM_m, hmi]
      · rw [hin2, setM_m, hmi]
        rfl
  rcases hor with ⟨h, _⟩ | ⟨_, rfl, his, htm⟩
  · omega
  refine dec_s (by omega) (by omega) ?_
  refine rti_Time_s (by omega) his h9 ?_
  rw [htm]
  exact eq_t rfl (hk _ (h9.selR [_, _, _, _, _, _] [_] [5] (by decide) rfl))
end Go.Proofs.YtmgaooeeddmbmaaGreatDoor
