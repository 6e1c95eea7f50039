/- The laws GateOpens and GateParts. Conditions: none. -/
import Derived.Test.YtdiglafiimnfoaaGateW
namespace Go.Proofs.Ytdiglafiimnfoaa
open Go Go.E
set_option maxRecDepth 100000
variable {e w : World} {R : List HP} {K : KV}

/-- The i-th message of these laws. -/
def opK (l : List Int) (i : Nat) : Kept := ⟨⟨l.getD i 0, 0, 0⟩, ⟨⟨l.getD i 0, 0, i⟩, 0, 0, 0⟩⟩
def opL (l : List Int) (j : Nat) : List Kept := (List.range j).map (opK l)
theorem opL_len (l : List Int) (j : Nat) : (opL l j).length = j := by simp [opL]
theorem opL_succ (l : List Int) (j : Nat) : opL l (j + 1) = opL l j ++ [opK l j] := by simp [opL, List.range_succ]
theorem getD_of {l : List Int} {j : Nat} {x : Int} (h : l[j]? = some x) : l.getD j 0 = x := by rw [List.getD_eq_getElem?_getD, h]; rfl
theorem holdOp {l : List Int} {j : Nat} (hj : j ≤ 200) (h0 : 0 ≤ l.getD j 0) : holdE 0 (opL l j) (opK l j).cause = 0 ∧ holdL 0 (opL l j) (opK l j).cause (opK l j).m = opL l (j + 1) := by
  have h1 : ¬ (opK l j).cause.T < 0 := by show ¬ l.getD j 0 < 0; omega
  have h2 : ¬ 256 ≤ (opL l j).length := by rw [opL_len]; omega
  constructor
  · unfold holdE; rw [if_neg h1, if_neg h2]
  · unfold holdL; rw [if_neg h1, if_neg h2, opL_succ]
def opN (l : List Int) (t : Int) (j : Nat) : Nat := ((opL l j).filter (openP t)).length
theorem opN_succ (l : List Int) (t : Int) (j : Nat) : opN l t (j + 1) = opN l t j + if l.getD j 0 < t then 1 else 0 := by
  unfold opN
  rw [opL_succ, List.filter_append, List.length_append]
  congr 1
  by_cases h : l.getD j 0 < t
  · rw [if_pos h, List.filter_cons_of_pos (by simpa [openP, opK] using h)]; rfl
  · rw [if_neg h, List.filter_cons_of_neg (by simpa [openP, opK] using h)]; rfl
theorem opN_le (l : List Int) (t : Int) (j : Nat) : opN l t j ≤ j := by
  have := List.length_filter_le (openP t) (opL l j)
  rw [opL_len] at this
  exact this
/-- What goes out rises by its keys. -/
def Plain (x : Kept) : Prop := x.cause = ⟨x.m.key.T, 0, 0⟩ ∧ x.m.key.From = 0
theorem open_plain {l : List Int} {j : Nat} {t : Int} {x : Kept} (h : x ∈ openR (opL l j) t) : Plain x ∧ x.m.key.T < t := by
  have h1 := List.mem_filter.1 (stab_mem.1 h)
  obtain ⟨i, _, rfl⟩ := List.mem_map.1 h1.1
  exact ⟨⟨rfl, rfl⟩, of_decide_eq_true h1.2⟩
theorem open_up (l : List Int) (j : Nat) (t : Int) : ((openR (opL l j) t).map Kept.m).Pairwise fun a b => KeyLt a.key b.key := by
  rw [List.pairwise_map]
  have hp : (opL l j).Pairwise fun x y => x.m.key.Seq < y.m.key.Seq := by
    unfold opL
    rw [List.pairwise_map]
    refine (List.pairwise_lt_range (n := j)).imp fun {a b} h => ?_
    show (a : Int) < b
    omega
  have hp2 : ((opL l j).filter (openP t)).Pairwise fun x y => x.m.key.Seq < y.m.key.Seq := hp.sublist List.filter_sublist
  have hq := stab_pairs orderedK (fun x y : Kept => Plain x → Plain y → KeyLt x.m.key y.m.key) (fun x y h hx hy => by
    have := ltC_iff.1 h
    rw [hx.1, hy.1] at this
    unfold KeyLt at *
    have h1 : x.m.key.T < y.m.key.T ∨ x.m.key.T = y.m.key.T ∧ ((0 : Int) < 0 ∨ (0 : Int) = 0 ∧ (0 : Int) < 0) := this
    omega) ((opL l j).filter (openP t)) (by
    refine hp2.imp fun {x y} h => fun hk hx hy => ?_
    have := ltC_no.1 hk
    rw [hx.1, hy.1] at this
    have h1 := hx.2
    have h2 := hy.2
    unfold KeyLt at *
    have h3 : ¬ (y.m.key.T < x.m.key.T ∨ y.m.key.T = x.m.key.T ∧ ((0 : Int) < 0 ∨ (0 : Int) = 0 ∧ (0 : Int) < 0)) := this
    omega)
  exact hq.imp_of_mem fun {x y} hx hy h => h (open_plain hx).1 (open_plain hy).1

theorem gateOpens_s {v : Value} {l : List Int} {S : HP} (hS : Sat e w (S :: R)) (hr : ∀ g, S g → rdS 1 (intsK .u8) v l g) (hw : ∀ m ∈ l, (Lit.int .u8 m).wf = true) {t : Int} (htw : (Lit.int .u8 t).wf = true)
    (hk : ∀ w', Sat e w' (S :: R) → K (.bool true) w') : Cl prog 11 #[v, .int .u8 t] w K := by
  have ht := wfU8 htw
  refine pacelinelaw14_GateOpens_calls ?_
  unfold pacelinelaw14_GateOpens
  refine lnS_rd hS 0 rfl hr ?_
  refine gt_c (fun c1 => iff_t (hk _ hS)) (fun c1 => iff_f ?_)
  refine gate_New_s hS fun g w1 h1 => ?_
  refine lpi1 (fun m t6 w => ∃ j : Nat, j ≤ l.length ∧ t6 = .int .i64 j ∧ m = l.length - j ∧ Sat e w (IsGate g 0 (opL l j) :: S :: R)) l.length ⟨0, Nat.zero_le _, rfl, rfl, h1⟩ ?_
  rintro m _ w g1 ⟨j, hj, rfl, rfl, h2⟩ hg
  refine lnS_rd h2 1 rfl hr ?_
  refine lt_c (fun c2 => iff_t ?_) (fun c2 => iff_f ?_)
  · obtain ⟨x, hx⟩ := get_of_lt (l := l) (j := j) (by omega)
    have hxw := wfU8 (hw x (List.mem_of_getElem? hx))
    have hxd := getD_of hx
    obtain ⟨e1, e2⟩ := holdOp (l := l) (j := j) (by omega) (by omega)
    refine dr_s h2 fun w3 h3 => ?_
    refine ixS_rd h3 1 rfl hr (fun _ => rfl) hx fun p hp => ?_
    refine ld1_of h3 1 rfl hp rfl ?_
    refine cv_s ?_
    rw [wrap_i64 (by omega) (by omega)]
    refine ixS_rd h3 1 rfl hr (fun _ => rfl) hx fun q hq => ?_
    refine ld1_of h3 1 rfl hq rfl ?_
    refine cv_s ?_
    rw [wrap_i64 (by omega) (by omega)]
    rw [zero_61, zero_63]
    have rp : ∀ {y : Value}, y = .int .u8 x → ld1 (.pointer (some p)) w3 (fun v' w'' => v' = y ∧ w'' = w3) := fun e => ld1_of h3 1 rfl hp rfl ⟨e.symm, rfl⟩
    have rq : ∀ {y : Value}, y = .int .u8 x → ld1 (.pointer (some q)) w3 (fun v' w'' => v' = y ∧ w'' = w3) := fun e => ld1_of h3 1 rfl hq rfl ⟨e.symm, rfl⟩
    have tail : Cl prog 62 #[.pointer (some ⟨g, 0, none⟩), .agg (Key.cs ⟨x, 0, 0⟩).toArray, .agg (Msg.cs ⟨⟨x, 0, j⟩, 0, 0, 0⟩).toArray] w3 fun t36 w => bi .neq .i64 t36 (Value.int IntKind.i64 0) w fun t37 _ =>
        iff' t37 (K (Value.bool false) w) (bi .add .i64 (.int .i64 (j : Int)) (Value.int IntKind.i64 1) w fun t20 w => g1 [t20] w) := by
      have hop : opK l j = ⟨⟨x, 0, 0⟩, ⟨⟨x, 0, j⟩, 0, 0, 0⟩⟩ := by unfold opK; rw [hxd]
      rw [hop] at e1 e2
      refine gate_Hold_s ⟨x, 0, 0⟩ ⟨⟨x, 0, j⟩, 0, 0, 0⟩ h3 (by rw [opL_len]; omega) fun w4 h4 => ?_
      rw [e2] at h4
      rw [e1]
      refine ne_f rfl (iff_f (inc_s (by omega) ?_))
      exact hg _ _ _ (by omega) ⟨j + 1, by omega, rfl, rfl, h4⟩
    refine ⟨?_, ?_⟩
    · refine bld_s (Key.cs ⟨x, 0, 0⟩) (by kernel_rfl) ⟨rq rfl, ?_⟩
      refine bld_s (Key.cs ⟨x, 0, j⟩) (by kernel_rfl) ⟨rp rfl, ?_⟩
      refine bld_s (Msg.cs ⟨⟨x, 0, j⟩, 0, 0, 0⟩) (by kernel_rfl) ⟨rp rfl, tail⟩
    · refine bld_s (Key.cs ⟨x, 0, j⟩) (by kernel_rfl) ⟨rp rfl, ?_, ?_⟩
      · refine bld_s (Key.cs ⟨x, 0, 0⟩) (by kernel_rfl) ⟨rq rfl, ?_⟩
        refine bld_s (Msg.cs ⟨⟨x, 0, j⟩, 0, 0, 0⟩) (by kernel_rfl) ⟨rp rfl, tail⟩
      · refine bld_s (Msg.cs ⟨⟨x, 0, j⟩, 0, 0, 0⟩) (by kernel_rfl) ⟨rp rfl, ?_⟩
        refine bld_s (Key.cs ⟨x, 0, 0⟩) (by kernel_rfl) ⟨rq rfl, tail⟩
  obtain rfl : j = l.length := by omega
  refine cv_s ?_
  rw [wrap_i64 (by omega) (by omega)]
  have hL : (opL l l.length).length = l.length := opL_len _ _
  have hN := opN_le l t l.length
  have hRl : (openR (opL l l.length) t).length = opN l t l.length := stab_length _
  have hLl : opN l t l.length + (openL (opL l l.length) t).length = l.length := by
    have h3 : ∀ L : List Kept, (L.filter (openP t)).length + (L.filter fun x => !openP t x).length = L.length := fun L => by
      induction L with
      | nil => rfl
      | cons x L ih => cases h : openP t x <;> simp [h] <;> omega
    have := h3 (opL l l.length)
    rw [hL] at this
    exact this
  have hup := open_up l l.length t
  have hpl : ∀ x ∈ openR (opL l l.length) t, x.m.key.T < t := fun x hx => (open_plain hx).2
  refine gate_Open_s t h2 (by omega) fun v1 w3 h3 => ?_
  rw [show max (0 : Int) t = t by omega] at h3
  generalize openR (opL l l.length) t = O at *
  generalize openL (opL l l.length) t = Q at *
  refine lpi2 (fun m t8 t9 w' => ∃ i : Nat, i ≤ l.length ∧ t8 = .int .i64 (opN l t i) ∧ t9 = .int .i64 i ∧ m = l.length - i ∧ w' = w3) l.length ⟨0, Nat.zero_le _, rfl, rfl, rfl, rfl⟩ ?_
  rintro m _ _ w3 g2 ⟨i, hi, rfl, rfl, rfl, rfl⟩ hg2
  refine lnS_rd h3 2 rfl hr ?_
  refine lt_c (fun c3 => iff_t ?_) (fun c3 => iff_f ?_)
  · obtain ⟨x, hx⟩ := get_of_lt (l := l) (j := i) (by omega)
    have hxw := wfU8 (hw x (List.mem_of_getElem? hx))
    have hs := opN_succ l t i
    rw [getD_of hx] at hs
    have hNi := opN_le l t i
    refine J1.cut (fun y w => y = .int .i64 (opN l t (i + 1)) ∧ w = w3) (fun k3 hcut => ?_) ?_
    · refine ixS_rd h3 2 rfl hr (fun _ => rfl) hx fun p hp => ?_
      refine ld1_of h3 2 rfl hp rfl ?_
      refine cv_s ?_
      rw [wrap_i64 (by omega) (by omega)]
      refine cv_s ?_
      rw [wrap_i64 (by omega) (by omega)]
      refine lt_c (fun c4 => iff_t ?_) (fun c4 => iff_f ?_)
      · rw [if_pos c4] at hs
        exact inc_s (by omega) (hcut _ _ ⟨by rw [hs], rfl⟩)
      · rw [if_neg c4] at hs
        exact hcut _ _ ⟨by rw [hs]; rfl, rfl⟩
    · rintro _ _ ⟨rfl, rfl⟩
      refine inc_s (by omega) ?_
      exact hg2 _ _ _ _ (by omega) ⟨i + 1, by omega, rfl, rfl, rfl, rfl⟩
  obtain rfl : i = l.length := by omega
  refine lnS_rd h3 0 rfl (fun g hg => own_rd hg) ?_
  rw [List.length_map]
  refine ne_f (by omega) (gd_ff (gd_ff ?_))
  refine gate_Held_s h3.swap (by omega) fun v2 w4 h4 => ?_
  refine gd_ff (lnS_rd h4 0 rfl (fun g hg => own_rd hg) ?_)
  rw [List.length_map]
  refine gd_ff (gd_ff (lnS_rd h4 3 rfl hr (gd_ff (gd_ff (subn_s (by omega) (by omega) (gd_ff (ne_f (by omega) ?_)))))))
  refine pk_f (gd_ff (gd_ff (gate_Floor_s (h4.pick 1 rfl) ?_)))
  refine gd_ff (gd_ff (cv_s ?_))
  rw [wrap_i64 (by omega) (by omega)]
  refine gd_ff (ne_f rfl (pk_f (iff_f ?_)))
  replace h4 : Sat e w4 (ownS 63 6 Msg.cs v1 (O.map Kept.m) :: IsGate g t Q :: S :: R) := h4.selR [_, _, _] [_, _] [2, 1] (by decide) rfl
  refine lpi1 (fun m t10 w => ∃ i : Nat, i ≤ O.length ∧ t10 = .int .i64 i ∧ m = O.length - i ∧ Sat e w (ownS 63 6 Msg.cs v1 (O.map Kept.m) :: IsGate g t Q :: S :: R)) O.length ⟨0, Nat.zero_le _, rfl, rfl, h4⟩ ?_
  rintro m _ w g4 ⟨i, hi, rfl, rfl, h5⟩ hg4
  refine lnS_rd h5 0 rfl (fun g hg => own_rd hg) ?_
  rw [List.length_map]
  refine lt_c (fun c3 => iff_t ?_) (fun c3 => iff_f ?_)
  · obtain ⟨x, hx⟩ := get_of_lt (l := O) (j := i) (by omega)
    have hx' : (O.map Kept.m)[i]? = some x.m := by simp [hx]
    have hxt := hpl x (List.mem_of_getElem? hx)
    have hdone : ∀ w', Sat e w' (ownS 63 6 Msg.cs v1 (O.map Kept.m) :: IsGate g t Q :: S :: R) → iff' (.bool false) (K (Value.bool false) w') (bi .add .i64 (.int .i64 (i : Int)) (Value.int IntKind.i64 1) w' fun t84 w => g4 [t84] w) := fun w' h => by
      refine iff_f (inc_s (by omega) ?_)
      exact hg4 _ _ _ (by omega) ⟨i + 1, by omega, rfl, rfl, h⟩
    refine dr_s h5 fun w6 h6 => ?_
    refine ixS_rd h6 0 rfl (fun g hg => own_rd hg) (fun _ => rfl) hx' fun p hp => ?_
    refine fld_of hp fun p1 hp1 => fld_of hp1 fun p2 hp2 => ?_
    refine ld1_of (v := .int .i64 x.m.key.T) h6 0 rfl hp2 rfl ?_
    refine cv_s ?_
    rw [wrap_i64 (by omega) (by omega)]
    refine ge_f (by omega) (gd_ff (gd_ff ?_))
    by_cases hi0 : i = 0
    · subst hi0
      refine gt_f (by omega) (gd_ff ?_)
      exact gd_ft (gd_ft (gd_ft (gd_ft (gd_ft (gd_ft (gd_ft (gd_ft (gd_ft (gd_ft (gd_ft (gd_ft (gd_ft (gd_ff (pk_f (pk_f (hdone _ h6))))))))))))))))
    · obtain ⟨y, hy⟩ := get_of_lt (l := O) (j := i - 1) (by omega)
      have hy' : (O.map Kept.m)[i - 1]? = some y.m := by simp [hy]
      have hlt : KeyLt y.m.key x.m.key := by
        obtain ⟨h1, e1⟩ := List.getElem?_eq_some_iff.1 hy'
        obtain ⟨h2, e2⟩ := List.getElem?_eq_some_iff.1 hx'
        have := List.pairwise_iff_getElem.1 hup (i - 1) i h1 h2 (by omega)
        rw [e1, e2] at this
        exact this
      have hneg := cmpK_lt.2 hlt
      refine gt_t (by omega) (gd_ff (gd_tt (gd_tt (gd_tt (dec_s (by omega) (by omega) (gd_tt ?_))))))
      refine ixS_rd h6 0 rfl (fun g hg => own_rd hg) (fun _ => rfl) hy' fun p hp => ?_
      refine gd_tt (fld_of hp fun p1 hp1 => ?_)
      refine gd_tt (ldN_sub (us := y.m.key.cs) h6 0 rfl hp1 (by rfl) rfl (gd_tt (gd_tt (gd_tt ?_))))
      refine ixS_rd h6 0 rfl (fun g hg => own_rd hg) (fun _ => rfl) hx' fun p hp => ?_
      refine gd_tt (fld_of hp fun p1 hp1 => ?_)
      refine gd_tt (ldN_sub (us := x.m.key.cs) h6 0 rfl hp1 (by rfl) rfl ?_)
      refine gd_tt (ref01_Cmp_s h6 fun w7 h7 => ?_)
      exact gd_tt (ge_f (by omega) (gd_ff (pk_t (pk_f (hdone _ h7)))))
  · refine cv_s ?_
    rw [wrap_i64 (by omega) (by omega)]
    refine sub_s (by omega) (by omega) ?_
    rw [zero_61, zero_63]
    refine bld_s (Key.cs ⟨t - 1, 0, 0⟩) (by kernel_rfl) ?_
    refine bld_s (Msg.cs ⟨⟨0, 0, 0⟩, 0, 0, 0⟩) (by kernel_rfl) ?_
    refine gate_Hold_s ⟨t - 1, 0, 0⟩ ⟨⟨0, 0, 0⟩, 0, 0, 0⟩ h5.swap (by omega) fun w7 h7 => ?_
    rw [show holdE t Q ⟨t - 1, 0, 0⟩ = 110 from if_pos (show t - 1 < t by omega)]
    rw [show holdL t Q ⟨t - 1, 0, 0⟩ ⟨⟨0, 0, 0⟩, 0, 0, 0⟩ = Q from if_pos (show t - 1 < t by omega)] at h7
    refine eq_t rfl (gd_tt (gd_tt (gd_tt (cv_s ?_))))
    rw [wrap_i64 (by omega) (by omega)]
    refine gd_tt (bld_s (Key.cs ⟨t, 0, 0⟩) (by kernel_rfl) ?_)
    refine gd_tt (bld_s (Msg.cs ⟨⟨0, 0, 0⟩, 0, 0, 0⟩) (by kernel_rfl) ?_)
    refine gd_tt (gate_Hold_s ⟨t, 0, 0⟩ ⟨⟨0, 0, 0⟩, 0, 0, 0⟩ h7 (by omega) fun w8 h8 => ?_)
    rw [show holdE t Q ⟨t, 0, 0⟩ = 0 from by unfold holdE; rw [if_neg (show ¬ t < t by omega), if_neg (by omega)]]
    exact gd_tt (eq_t rfl (pk_t (hk _ (h8.selR [_, _, _] [_] [2] (by decide) rfl))))

/-! ### GateParts -/
theorem openL_openL (L : List Kept) {a b : Int} (h : a ≤ b) : openL (openL L a) b = openL L b := by
  unfold openL
  rw [List.filter_filter]
  refine List.filter_congr fun x _ => ?_
  unfold openP
  by_cases h1 : x.cause.T < b
  · simp [h1]
  · have : ¬ x.cause.T < a := by omega
    simp [h1, this]
theorem openR_parts (L : List Kept) {a b : Int} (h : a ≤ b) : openR L a ++ openR (openL L a) b = openR L b := by
  have hs := stab_filter orderedK (openP a) (fun x y hx hy => by
    have h1 : x.cause.T < a := of_decide_eq_true hx
    have h2 : ¬ y.cause.T < a := of_decide_eq_false hy
    exact ⟨ltC_no.2 (by unfold KeyLt; omega), ltC_iff.2 (by unfold KeyLt; omega)⟩) (L.filter (openP b))
  unfold openR
  rw [hs]
  congr 2
  · rw [List.filter_filter]
    refine List.filter_congr fun x _ => ?_
    unfold openP
    by_cases h1 : x.cause.T < a
    · have : x.cause.T < b := by omega
      simp [h1, this]
    · simp [h1]
  · unfold openL
    rw [List.filter_filter, List.filter_filter]
    refine List.filter_congr fun x _ => ?_
    rw [Bool.and_comm]

theorem gateParts_s {v : Value} {l : List Int} {S : HP} (hS : Sat e w (S :: R)) (hr : ∀ g, S g → rdS 1 (intsK .u8) v l g) (hw : ∀ m ∈ l, (Lit.int .u8 m).wf = true) {a b : Int} (haw : (Lit.int .u8 a).wf = true) (hbw : (Lit.int .u8 b).wf = true)
    (hk : ∀ w', Sat e w' (S :: R) → K (.bool true) w') : Cl prog 12 #[v, .int .u8 a, .int .u8 b] w K := by
  have ha := wfU8 haw
  have hb := wfU8 hbw
  refine pacelinelaw14_GateParts_calls ?_
  unfold pacelinelaw14_GateParts
  refine lnS_rd hS 0 rfl hr ?_
  refine gt_c (fun c1 => iff_t (hk _ hS)) (fun c1 => iff_f ?_)
  refine gate_New_s hS fun g w1 h1 => ?_
  refine gate_New_s h1 fun g' w2 h2 => ?_
  refine lpi1 (fun m t9 w => ∃ j : Nat, j ≤ l.length ∧ t9 = .int .i64 j ∧ m = l.length - j ∧ Sat e w (IsGate g 0 (opL l j) :: IsGate g' 0 (opL l j) :: S :: R)) l.length ⟨0, Nat.zero_le _, rfl, rfl, h2.swap⟩ ?_
  rintro m _ w g1 ⟨j, hj, rfl, rfl, h3⟩ hg
  refine lnS_rd h3 2 rfl hr ?_
  refine lt_c (fun c2 => iff_t ?_) (fun c2 => iff_f ?_)
  · obtain ⟨x, hx⟩ := get_of_lt (l := l) (j := j) (by omega)
    have hxw := wfU8 (hw x (List.mem_of_getElem? hx))
    have hxd := getD_of hx
    obtain ⟨e1, e2⟩ := holdOp (l := l) (j := j) (by omega) (by omega)
    have hop : opK l j = ⟨⟨x, 0, 0⟩, ⟨⟨x, 0, j⟩, 0, 0, 0⟩⟩ := by unfold opK; rw [hxd]
    rw [hop] at e1 e2
    refine ixS_rd h3 2 rfl hr (fun _ => rfl) hx fun p hp => ?_
    refine ld1_of h3 2 rfl hp rfl ?_
    refine cv_s ?_
    rw [wrap_i64 (by omega) (by omega)]
    rw [zero_61, zero_63]
    refine bld_s (Key.cs ⟨x, 0, 0⟩) (by kernel_rfl) ?_
    refine al_s (cs := ints [0, 0, 0]) h3 rfl fun b1 w4 h4 => ?_
    refine stN_at h4 0 rfl (vs := Key.cs ⟨x, 0, 0⟩) rfl rfl (Nat.le_of_ble_eq_true rfl) (ints_flat _) (cs' := Key.cs ⟨x, 0, 0⟩) (by kernel_rfl) fun w5 h5 => ?_
    refine ixS_rd h5 3 rfl hr (fun _ => rfl) hx fun p hp => ?_
    refine ld1_of h5 3 rfl hp rfl ?_
    refine cv_s ?_
    rw [wrap_i64 (by omega) (by omega)]
    refine bld_s (Key.cs ⟨x, 0, j⟩) (by kernel_rfl) ?_
    refine bld_s (Msg.cs ⟨⟨x, 0, j⟩, 0, 0, 0⟩) (by kernel_rfl) ?_
    refine al_s (cs := ints [0, 0, 0, 0, 0, 0]) h5 rfl fun b2 w6 h6 => ?_
    refine stN_at h6 0 rfl (vs := Msg.cs ⟨⟨x, 0, j⟩, 0, 0, 0⟩) rfl rfl (Nat.le_of_ble_eq_true rfl) (ints_flat _) (cs' := Msg.cs ⟨⟨x, 0, j⟩, 0, 0, 0⟩) (by kernel_rfl) fun w7 h7 => ?_
    replace h7 : Sat e w7 (IsGate g 0 (opL l j) :: IsGate g' 0 (opL l j) :: blk b2 63 (Msg.cs ⟨⟨x, 0, j⟩, 0, 0, 0⟩) :: blk b1 61 (Key.cs ⟨x, 0, 0⟩) :: S :: R) := h7.selR [_, _, _, _] [_, _, _, _] [2, 3, 0, 1] (by decide) rfl
    refine ldN_at h7 3 (vs := Key.cs ⟨x, 0, 0⟩) rfl (by rfl) rfl ?_
    refine ldN_at h7 2 (vs := Msg.cs ⟨⟨x, 0, j⟩, 0, 0, 0⟩) rfl (by rfl) rfl ?_
    refine gate_Hold_s ⟨x, 0, 0⟩ ⟨⟨x, 0, j⟩, 0, 0, 0⟩ h7 (by rw [opL_len]; omega) fun w8 h8 => ?_
    rw [e2] at h8
    rw [e1]
    refine ne_f rfl (gd_ff (gd_ff ?_))
    refine ldN_at h8 3 (vs := Key.cs ⟨x, 0, 0⟩) rfl (by rfl) rfl ?_
    refine gd_ff (ldN_at h8 2 (vs := Msg.cs ⟨⟨x, 0, j⟩, 0, 0, 0⟩) rfl (by rfl) rfl ?_)
    refine gd_ff (gate_Hold_s ⟨x, 0, 0⟩ ⟨⟨x, 0, j⟩, 0, 0, 0⟩ h8.swap (by rw [opL_len]; omega) fun w9 h9 => ?_)
    rw [e2] at h9
    rw [e1]
    refine gd_ff (ne_f rfl (pk_f (iff_f (inc_s (by omega) ?_))))
    exact hg _ _ _ (by omega) ⟨j + 1, by omega, rfl, rfl, h9.selR [_, _, _, _] [_, _] [1, 0] (by decide) rfl⟩
  obtain rfl : j = l.length := by omega
  have hL : (opL l l.length).length = l.length := opL_len _ _
  generalize opL l l.length = L at h3 hL
  have hlow : ∀ t, (openR L t).length ≤ 200 ∧ (openL L t).length ≤ 200 := fun t => by
    have h1 := List.length_filter_le (openP t) L
    have h2 := List.length_filter_le (fun x => !openP t x) L
    have h3 : (openR L t).length = _ := stab_length _
    unfold openL
    omega
  refine min_s (cv_s ?_)
  rw [wrap_i64 (by omega) (by omega)]
  refine gate_Open_s (min a b) h3 (by omega) fun v1 w4 h4 => ?_
  refine max_s (cv_s ?_)
  rw [wrap_i64 (by omega) (by omega)]
  refine gate_Open_s (max a b) h4.swap (by have := (hlow (min a b)).2; omega) fun v2 w5 h5 => ?_
  have hxy : (openR (openL L (min a b)) (max a b)).length ≤ 200 := by
    have h3 : (openR (openL L (min a b)) (max a b)).length = _ := stab_length _
    have h1 := List.length_filter_le (openP (max a b)) (openL L (min a b))
    have h2 := (hlow (min a b)).2
    omega
  have hx2 := (hlow (min a b)).1
  have hx3 := (hlow (max a b)).1
  have hx4 := (hlow (max a b)).2
  refine bsl0 h5 Msg.cs fun v3 w6 h6 => ?_
  replace h6 : Sat e w6 (ownS 63 6 Msg.cs v3 [] :: ownS 63 6 Msg.cs v1 ((openR L (min a b)).map Kept.m) :: ownS 63 6 Msg.cs v2 ((openR (openL L (min a b)) (max a b)).map Kept.m) ::
      IsGate g (max (max 0 (min a b)) (max a b)) (openL (openL L (min a b)) (max a b)) :: IsGate g' 0 L :: S :: R) := h6.selR [_, _, _, _, _] [_, _, _, _, _] [0, 3, 1, 2, 4] (by decide) rfl
  refine apS_own te_78 und_78 (f := Msg.cs) (fun _ => rfl) (fun _ => ints_flat _) h6 (fun g hg => own_rd hg) (by rw [List.length_map]; simp; omega) fun v4 w7 h7 => ?_
  rw [List.nil_append] at h7
  refine apS_own te_78 und_78 (f := Msg.cs) (fun _ => rfl) (fun _ => ints_flat _) (h7.selR [_, _, _, _, _] [_, _, _, _] [0, 2, 3, 4] (by decide) rfl) (fun g hg => own_rd hg) (by rw [List.length_map, List.length_map]; omega) fun v5 w8 h8 => ?_
  rw [← List.map_append, openR_parts L (show min a b ≤ max a b by omega), openL_openL L (show min a b ≤ max a b by omega), show max (max 0 (min a b)) (max a b) = max a b by omega] at h8
  refine max_s (cv_s ?_)
  rw [wrap_i64 (by omega) (by omega)]
  refine gate_Open_s (max a b) (h8.pick 3 rfl) (by omega) fun v6 w9 h9 => ?_
  rw [show max 0 (max a b) = max a b by omega] at h9
  replace h9 : Sat e w9 (ownS 63 6 Msg.cs v5 ((openR L (max a b)).map Kept.m) :: ownS 63 6 Msg.cs v6 ((openR L (max a b)).map Kept.m) :: IsGate g (max a b) (openL L (max a b)) :: IsGate g' (max a b) (openL L (max a b)) :: S :: R) :=
    h9.selR [_, _, _, _, _] [_, _, _, _] [2, 0, 4, 1] (by decide) rfl
  refine same_s h9 (fun g hg => own_rd hg) (fun g hg => own_rd hg) (by rw [List.length_map]; omega) fun w10 h10 => ?_
  rw [decide_eq_true rfl]
  refine gd_tt (gd_tt ?_)
  refine gate_Held_s (h10.pick 2 rfl) (by omega) fun v7 w11 h11 => ?_
  refine gd_tt (gd_tt (gate_Held_s (h11.pick 4 rfl) (by omega) fun v8 w12 h12 => ?_))
  replace h12 : Sat e w12 (ownS 63 6 Msg.cs v7 ((openL L (max a b)).map Kept.m) :: ownS 63 6 Msg.cs v8 ((openL L (max a b)).map Kept.m) :: IsGate g (max a b) (openL L (max a b)) :: IsGate g' (max a b) (openL L (max a b)) :: S :: R) :=
    h12.selR [_, _, _, _, _, _] [_, _, _, _] [2, 0, 3, 1] (by decide) rfl
  refine gd_tt (same_s h12 (fun g hg => own_rd hg) (fun g hg => own_rd hg) (by rw [List.length_map]; omega) fun w13 h13 => ?_)
  rw [decide_eq_true rfl]
  refine pk_t (gd_tt (gd_tt (gate_Floor_s (h13.pick 2 rfl) ?_)))
  refine gd_tt (gd_tt (gate_Floor_s (h13.pick 3 rfl) ?_))
  refine gd_tt (eq_t rfl (pk_t (gd_tt (gd_tt ?_))))
  rw [zero_61, zero_63]
  refine bld_s (Key.cs ⟨-1, 0, 0⟩) (by kernel_rfl) ?_
  refine gd_tt (bld_s (Msg.cs ⟨⟨0, 0, 0⟩, 0, 0, 0⟩) (by kernel_rfl) ?_)
  refine gd_tt (gate_Hold_s ⟨-1, 0, 0⟩ ⟨⟨0, 0, 0⟩, 0, 0, 0⟩ (h13.pick 2 rfl) (by omega) fun w14 h14 => ?_)
  rw [show holdE (max a b) (openL L (max a b)) ⟨-1, 0, 0⟩ = 110 from if_pos (show (-1 : Int) < max a b by omega)]
  exact gd_tt (eq_t rfl (pk_t (hk _ (h14.selR [_, _, _, _, _] [_] [4] (by decide) rfl))))
end Go.Proofs.Ytdiglafiimnfoaa
