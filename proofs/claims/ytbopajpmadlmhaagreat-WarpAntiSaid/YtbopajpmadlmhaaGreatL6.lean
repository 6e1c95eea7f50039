/- Texts of the proof, joined: WarpS, WarpU, WarpV, WarpX. Conditions: none. -/
import Derived.Test.YtbopajpmadlmhaaGreatL5
section
namespace Go.Proofs.YtbopajpmadlmhaaGreat
open Go Go.E
set_option maxRecDepth 100000
variable {e w : World} {L Q : List HP} {K : KV} {S S2 : HP}

def bR0 : Rule := ⟨0, 0, 1, [⟨1, 2, 1⟩]⟩
def bR1 : Rule := ⟨1, 0, 0, [⟨1, 3, 5⟩, ⟨1, 4, 7⟩]⟩
def bF0 : Fed := ⟨1, 2, 0, [bR0, bR1], [1], [0], []⟩
def bF1 : Fed := ⟨1, 1, 0, [], [0], [1], []⟩
def bF2 : Fed := ⟨0, 1, 0, [], [0], [1], []⟩
def boldW : Wd := ⟨[-1, -1], [bF0, bF1, bF2], 200⟩
theorem okRules_b : okRules [bR0, bR1] := ⟨by simp, fun r hr => by
  simp only [List.mem_cons, List.not_mem_nil, or_false] at hr
  rcases hr with rfl | rfl
  · refine ⟨by decide, by decide, by decide, by decide, by decide, by decide, by decide, fun o ho => ?_⟩
    have : o = ⟨1, 2, 1⟩ := List.mem_singleton.1 ho
    rw [this]
    exact ⟨by decide, by decide, by decide, by decide, by decide, by decide⟩
  · refine ⟨by decide, by decide, by decide, by decide, by decide, by decide, by decide, fun o ho => ?_⟩
    have : o = ⟨1, 3, 5⟩ ∨ o = ⟨1, 4, 7⟩ := by simpa [bR1] using ho
    rcases this with rfl | rfl <;> exact ⟨by decide, by decide, by decide, by decide, by decide, by decide⟩, by decide⟩
theorem okRules_00 : okRules [] := ⟨by simp, by simp, by simp⟩
theorem boldW_ok : (checkW boldW).2 = 0 := by
  have ht : treeE [-1, -1] = 0 := by
    unfold treeE
    refine if_pos ⟨by simp, by simp, fun i p hp => ?_⟩
    match i with
    | 0 => simp at hp; omega
    | 1 => simp at hp; omega
    | i + 2 => simp at hp
  have h1 : fedE bF0 2 = 0 := by
    rw [fedE_chain]
    simp [bF0, okRules_b, rising, okInit]
    simp [rulesE, sendsE, bR0, bR1]
  have h2 : fedE bF1 2 = 0 := by
    rw [fedE_chain]
    simp [bF1, okRules_00, rising, rulesE, okInit]
  have h3 : fedE bF2 2 = 0 := by
    rw [fedE_chain]
    simp [bF2, okRules_00, rising, rulesE, okInit]
  unfold checkW boldW
  rw [if_neg (by rw [ht]; decide), if_neg (by simp)]
  show (fedsE 2 0 _).2 = _
  rw [fedsE_cons, if_neg (by rw [h1]; decide), fedsE_cons, if_neg (by rw [h2]; decide), fedsE_cons, if_neg (by rw [h3]; decide)]
  rfl
theorem bw_s (hS : Sat e w Q) (hk : ∀ (x : WdX) (S : HP) w', x.w = boldW → x.wf → x.short → (∀ g, S g → RdWd x g) → Sat e w' (S :: Q) → K (.agg x.cs.toArray) w') : Cl prog 11 #[] w K := by
  refine pacelinelaw15_bold_calls ?_
  unfold pacelinelaw15_bold
  rw [zero_27]
  refine al_s (cs := [.slice none 0 0, .slice none 0 0, .int .i64 0]) hS rfl fun t0 w1 h1 => ?_
  refine bld_s (⟨1, 2, 1⟩ : Out).cs (by kernel_rfl) ?_
  refine bsl_s (⟨1, 2, 1⟩ : Out).cs h1 (by kernel_rfl) fun b3 w2 h2 => ?_
  obtain ⟨r0, hr0⟩ : ∃ r0 : RuleX, r0 = ⟨0, 0, 1, .slice (some ⟨b3, 0, none⟩) 1 1, [⟨1, 2, 1⟩]⟩ := ⟨_, rfl⟩
  refine bld_s [.int .i64 0, .int .i64 0, .int .i64 1, .slice (some ⟨b3, 0, none⟩) 1 1] (by kernel_rfl) ?_
  refine bld_s (⟨1, 3, 5⟩ : Out).cs (by kernel_rfl) (bld_s (⟨1, 4, 7⟩ : Out).cs (by kernel_rfl) ?_)
  refine bsl_s (ints [1, 3, 5, 1, 4, 7]) h2 (by kernel_rfl) fun b7 w3 h3 => ?_
  obtain ⟨r1, hr1⟩ : ∃ r1 : RuleX, r1 = ⟨1, 0, 0, .slice (some ⟨b7, 0, none⟩) 2 2, [⟨1, 3, 5⟩, ⟨1, 4, 7⟩]⟩ := ⟨_, rfl⟩
  refine bld_s [.int .i64 1, .int .i64 0, .int .i64 0, .slice (some ⟨b7, 0, none⟩) 2 2] (by kernel_rfl) ?_
  have hrc : [r0, r1].flatMap RuleX.cs = [.int .i64 0, .int .i64 0, .int .i64 1, .slice (some ⟨b3, 0, none⟩) 1 1, .int .i64 1, .int .i64 0, .int .i64 0, .slice (some ⟨b7, 0, none⟩) 2 2] := by rw [hr0, hr1]; rfl
  refine bsl_s [.int .i64 0, .int .i64 0, .int .i64 1, .slice (some ⟨b3, 0, none⟩) 1 1, .int .i64 1, .int .i64 0, .int .i64 0, .slice (some ⟨b7, 0, none⟩) 2 2] h3 (by kernel_rfl) fun b9 w4 h4 => ?_
  rw [← hrc] at h4
  refine bsl_s (ints [-1, -1]) h4 (by kernel_rfl) fun b10 w5 h5 => ?_
  refine bsl_s (ints [1]) h5 (by kernel_rfl) fun b12 w6 h6 => ?_
  refine bsl_s (ints [0]) h6 (by kernel_rfl) fun b13 w7 h7 => ?_
  obtain ⟨f0, hf0⟩ : ∃ f0 : FedX, f0 = ⟨1, 2, 0, .slice (some ⟨b9, 0, none⟩) 2 2, [r0, r1], .slice (some ⟨b12, 0, none⟩) 1 1, [1], .slice (some ⟨b13, 0, none⟩) 1 1, [0], .slice none 0 0, []⟩ := ⟨_, rfl⟩
  refine bld_s [.int .i64 1, .int .i64 2, .int .i64 0, .slice (some ⟨b9, 0, none⟩) 2 2, .slice (some ⟨b12, 0, none⟩) 1 1, .slice (some ⟨b13, 0, none⟩) 1 1, .slice none 0 0] (by kernel_rfl) ?_
  refine bsl_s (ints [0]) h7 (by kernel_rfl) fun b15 w8 h8 => ?_
  refine bsl_s (ints [1]) h8 (by kernel_rfl) fun b16 w9 h9 => ?_
  obtain ⟨f1, hf1⟩ : ∃ f1 : FedX, f1 = ⟨1, 1, 0, .slice none 0 0, [], .slice (some ⟨b15, 0, none⟩) 1 1, [0], .slice (some ⟨b16, 0, none⟩) 1 1, [1], .slice none 0 0, []⟩ := ⟨_, rfl⟩
  refine bld_s [.int .i64 1, .int .i64 1, .int .i64 0, .slice none 0 0, .slice (some ⟨b15, 0, none⟩) 1 1, .slice (some ⟨b16, 0, none⟩) 1 1, .slice none 0 0] (by kernel_rfl) ?_
  refine bsl_s (ints [0]) h9 (by kernel_rfl) fun b18 w10 h10 => ?_
  refine bsl_s (ints [1]) h10 (by kernel_rfl) fun b19 w11 h11 => ?_
  obtain ⟨f2, hf2⟩ : ∃ f2 : FedX, f2 = ⟨0, 1, 0, .slice none 0 0, [], .slice (some ⟨b18, 0, none⟩) 1 1, [0], .slice (some ⟨b19, 0, none⟩) 1 1, [1], .slice none 0 0, []⟩ := ⟨_, rfl⟩
  refine bld_s [.int .i64 0, .int .i64 1, .int .i64 0, .slice none 0 0, .slice (some ⟨b18, 0, none⟩) 1 1, .slice (some ⟨b19, 0, none⟩) 1 1, .slice none 0 0] (by kernel_rfl) ?_
  obtain ⟨fc, hfc⟩ : ∃ fc : List Value, fc = [.int .i64 1, .int .i64 2, .int .i64 0, .slice (some ⟨b9, 0, none⟩) 2 2, .slice (some ⟨b12, 0, none⟩) 1 1, .slice (some ⟨b13, 0, none⟩) 1 1, .slice none 0 0, .int .i64 1, .int .i64 1, .int .i64 0, .slice none 0 0, .slice (some ⟨b15, 0, none⟩) 1 1, .slice (some ⟨b16, 0, none⟩) 1 1, .slice none 0 0,
    .int .i64 0, .int .i64 1, .int .i64 0, .slice none 0 0, .slice (some ⟨b18, 0, none⟩) 1 1, .slice (some ⟨b19, 0, none⟩) 1 1, .slice none 0 0] := ⟨_, rfl⟩
  have hcs : [f0, f1, f2].flatMap FedX.cs = fc := by rw [hf0, hf1, hf2, hfc]; rfl
  refine bsl_s fc h11 (by rw [hfc]; kernel_rfl) fun b21 w12 h12 => ?_
  rw [← hcs] at h12
  obtain ⟨x, hx⟩ : ∃ x : WdX, x = ⟨.slice (some ⟨b10, 0, none⟩) 2 2, [-1, -1], .slice (some ⟨b21, 0, none⟩) 3 3, [f0, f1, f2], 200⟩ := ⟨_, rfl⟩
  refine bld_s [.slice (some ⟨b10, 0, none⟩) 2 2, .slice (some ⟨b21, 0, none⟩) 3 3, .int .i64 200] (by kernel_rfl) ?_
  have hxc : [.slice (some ⟨b10, 0, none⟩) 2 2, .slice (some ⟨b21, 0, none⟩) 3 3, .int .i64 200] = x.cs := by rw [hx]; rfl
  refine stN_at h12 11 rfl (vs := [.slice (some ⟨b10, 0, none⟩) 2 2, .slice (some ⟨b21, 0, none⟩) 3 3, .int .i64 200]) rfl rfl (by simp) (by simp [flat]) (cs' := [.slice (some ⟨b10, 0, none⟩) 2 2, .slice (some ⟨b21, 0, none⟩) 3 3, .int .i64 200]) (by rfl) fun w13 h13 => ?_
  refine ldN_at h13 11 (vs := [.slice (some ⟨b10, 0, none⟩) 2 2, .slice (some ⟨b21, 0, none⟩) 3 3, .int .i64 200]) rfl (by rfl) rfl ?_
  rw [hxc]
  have h14 : Sat e w13 (sepL [blk b21 66 ([f0, f1, f2].flatMap FedX.cs), blk b19 3 (ints [1]), blk b18 3 (ints [0]), blk b16 3 (ints [1]), blk b15 3 (ints [0]), blk b13 3 (ints [0]), blk b12 3 (ints [1]), blk b10 3 (ints [-1, -1]), blk b9 89 ([r0, r1].flatMap RuleX.cs), blk b7 87 (ints [1, 3, 5, 1, 4, 7]), blk b3 87 (⟨1, 2, 1⟩ : Out).cs] :: Q) :=
    Sat.join (l' := [_, _, _, _, _, _, _, _, _, _, _]) (h13.selR [_, _, _, _, _, _, _, _, _, _, _, _] [_, _, _, _, _, _, _, _, _, _, _] [0, 1, 2, 3, 4, 5, 6, 7, 8, 9, 10] (by decide) rfl)
  refine hk x _ _ ?_ ?_ ?_ ?_ h14
  · rw [hx, hf0, hf1, hf2, hr0, hr1]; rfl
  · rw [hx, hf0, hf1, hf2, hr0, hr1]
    have h0 : ∀ n ∈ [(0 : Int)], i64 n := fun n hn => by rw [List.mem_singleton.1 hn]; rfl
    have h1 : ∀ n ∈ [(1 : Int)], i64 n := fun n hn => by rw [List.mem_singleton.1 hn]; rfl
    refine ⟨fun n hn => by simp only [List.mem_cons, List.not_mem_nil, or_false, or_self] at hn; subst hn; rfl, fun f hf => ?_, rfl⟩
    simp only [List.mem_cons, List.not_mem_nil, or_false] at hf
    rcases hf with rfl | rfl | rfl
    · refine ⟨rfl, rfl, rfl, fun r hr => ?_, h1, h0, by simp⟩
      simp only [List.mem_cons, List.not_mem_nil, or_false] at hr
      rcases hr with rfl | rfl
      · refine ⟨rfl, rfl, rfl, fun o ho => ?_⟩
        have : o = ⟨1, 2, 1⟩ := List.mem_singleton.1 ho
        rw [this]
        exact ⟨rfl, rfl, rfl⟩
      · refine ⟨rfl, rfl, rfl, fun o ho => ?_⟩
        have : o = ⟨1, 3, 5⟩ ∨ o = ⟨1, 4, 7⟩ := by simpa using ho
        rcases this with rfl | rfl <;> exact ⟨rfl, rfl, rfl⟩
    · exact ⟨rfl, rfl, rfl, by simp, h0, h1, by simp⟩
    · exact ⟨rfl, rfl, rfl, by simp, h0, h1, by simp⟩
  · rw [hx, hf0, hf1, hf2, hr0, hr1]
    refine ⟨by simp, by simp, fun f hf => ?_⟩
    simp only [List.mem_cons, List.not_mem_nil, or_false] at hf
    rcases hf with rfl | rfl | rfl
    · refine ⟨by simp, by simp, by simp, by simp, fun r hr => ?_⟩
      simp only [List.mem_cons, List.not_mem_nil, or_false] at hr
      rcases hr with rfl | rfl
      · show [(⟨1, 2, 1⟩ : Out)].length ≤ _
        simp
      · show [(⟨1, 3, 5⟩ : Out), ⟨1, 4, 7⟩].length ≤ _
        simp
    · exact ⟨by simp, by simp, by simp, by simp, by simp⟩
    · exact ⟨by simp, by simp, by simp, by simp, by simp⟩
  · intro g hg
    obtain ⟨g0, k0, s0⟩ := sepL_get (i := 0) hg rfl
    obtain ⟨g1, k1, s1⟩ := sepL_get (i := 1) hg rfl
    obtain ⟨g2, k2, s2⟩ := sepL_get (i := 2) hg rfl
    obtain ⟨g3, k3, s3⟩ := sepL_get (i := 3) hg rfl
    obtain ⟨g4, k4, s4⟩ := sepL_get (i := 4) hg rfl
    obtain ⟨g5, k5, s5⟩ := sepL_get (i := 5) hg rfl
    obtain ⟨g6, k6, s6⟩ := sepL_get (i := 6) hg rfl
    obtain ⟨g7, k7, s7⟩ := sepL_get (i := 7) hg rfl
    obtain ⟨g8, k8, s8⟩ := sepL_get (i := 8) hg rfl
    obtain ⟨g9, k9, s9⟩ := sepL_get (i := 9) hg rfl
    obtain ⟨g10, k10, s10⟩ := sepL_get (i := 10) hg rfl
    have nilR : ∀ {α : Type} (size : Nat) (f : α → List Value), rdS size f (.slice none 0 0) [] g := fun _ _ => ⟨none, 0, rfl, Nat.le_refl _, fun h => absurd h (by simp)⟩
    subst hx
    refine ⟨rdS_up s7 (blk_rdn (f := intsK .i64) [-1, -1] rfl (Nat.le_refl _) g7 k7), rdS_up s0 (blk_rdn (f := FedX.cs) [f0, f1, f2] rfl (Nat.le_refl _) g0 k0), fun f hf => ?_⟩
    simp only [List.mem_cons, List.not_mem_nil, or_false] at hf
    rcases hf with rfl | rfl | rfl
    · subst hf0
      refine ⟨⟨rdS_up s8 (blk_rdn (f := RuleX.cs) [r0, r1] rfl (Nat.le_refl _) g8 k8), fun r hr => ?_⟩, rdS_up s6 (blk_rdn (f := intsK .i64) [1] rfl (Nat.le_refl _) g6 k6), rdS_up s5 (blk_rdn (f := intsK .i64) [0] rfl (Nat.le_refl _) g5 k5), nilR _ _⟩
      simp only [List.mem_cons, List.not_mem_nil, or_false] at hr
      rcases hr with rfl | rfl
      · subst hr0
        exact rdS_up s10 (blk_rdn (f := Out.cs) [⟨1, 2, 1⟩] rfl (Nat.le_refl _) g10 k10)
      · subst hr1
        exact rdS_up s9 (blk_rdn (f := Out.cs) [⟨1, 3, 5⟩, ⟨1, 4, 7⟩] rfl (Nat.le_refl _) g9 k9)
    · subst hf1
      exact ⟨⟨nilR _ _, by simp⟩, rdS_up s4 (blk_rdn (f := intsK .i64) [0] rfl (Nat.le_refl _) g4 k4), rdS_up s3 (blk_rdn (f := intsK .i64) [1] rfl (Nat.le_refl _) g3 k3), nilR _ _⟩
    · subst hf2
      exact ⟨⟨nilR _ _, by simp⟩, rdS_up s2 (blk_rdn (f := intsK .i64) [0] rfl (Nat.le_refl _) g2 k2), rdS_up s1 (blk_rdn (f := intsK .i64) [1] rfl (Nat.le_refl _) g1 k1), nilR _ _⟩
abbrev IsB (r : Nat) (N : WN) (k : Nat) : HP := IsWarp r boldW 0 bF0 N k
def B0 : WN := ⟨[], [], [], 0, [-1, -1, 0]⟩
theorem newB_s {x : WdX} {S : HP} (hx : x.w = boldW) (hwf : x.wf) (hs : x.short) (hr : ∀ g, S g → RdWd x g) (hS : Sat e w (S :: Q)) (hk : ∀ r w', Sat e w' (IsB r B0 0 :: S :: Q) → K (.tuple #[.pointer (some ⟨r, 0, none⟩), .int .i64 0]) w') : Cl prog 12 #[.agg x.cs.toArray, .int .i64 0] w K := by
  refine warp_New_s (x := x) 0 rfl hS hr hwf hs (fun hbad => absurd (by rw [hx]; exact boldW_ok) hbad) (fun _ hno => ?_) (fun _ n fd hn hfd _ r w3 h3 => ?_)
  · rw [hx] at hno
    have h3 : warpMay boldW 0 = some bF0 := rfl
    rw [h3] at hno
    cases hno
  · have hn0 : n = 0 := by omega
    subst hn0
    rw [hx] at hfd h3
    have hfd' : fd = bF0 := (Option.some.inj hfd).symm
    subst hfd'
    exact hk r _ h3
theorem startB_s (hS : Sat e w Q) (hk : ∀ r w', Sat e w' (IsB r B0 0 :: Q) → K (.tuple #[.pointer (some ⟨r, 0, none⟩), .int .i64 0]) w') : Cl prog 11 #[] w fun t w => Cl prog 12 #[t, .int .i64 0] w K :=
  bw_s hS fun _ _ _ hx hwf hs hr h2 => newB_s hx hwf hs hr h2 fun r w3 h3 => hk r w3 (h3.swap.drop)
def itM (t j s b : Int) : NItem := ⟨0, ⟨⟨t, j, s⟩, 0, 0, b⟩, 0⟩
abbrev hearB (N : WN) (j : Int) (i : NItem) : HR := hearW boldW 0 bF0 N j i
theorem shown15_s (hS : Sat e w Q) (hk : ∀ w', Sat e w' Q → K (.bool true) w') : Cl prog 10 #[] w K := by
  refine pacelinelaw15_shown_calls ?_
  unfold pacelinelaw15_shown
  refine startB_s hS fun r w1 h1 => ?_
  refine xt_02 (xt_12 (ne_f rfl (gd_ff (gd_ff (bnp_s _ (pk_f (iff_f ?_)))))))
  refine bld_s (ints [9, 1, 0]) (by kernel_rfl) (bld_s (ints [9, 1, 0, 0, 0, 0]) (by kernel_rfl) (bld_s (itM 9 1 0 0).cs (by kernel_rfl) ?_))
  refine warp_Hear_s (i := itM 9 1 0 0) (by show In64 9; unfold In64; omega) h1 fun v2 w2 h2 => ?_
  obtain ⟨N1, hN1⟩ : ∃ N1, N1 = (hearB B0 1 (itM 9 1 0 0)).N := ⟨_, rfl⟩
  rw [← hN1] at h2
  have e1 : stepWE boldW 0 bF0 N1 = 0 := by rw [hN1]; kernel_rfl
  refine warp_Step_s (by omega) h2.drop (fun h => absurd e1 h) fun _ v3 w3 h3 => ?_
  obtain ⟨m0, hm0⟩ : ∃ m0 : Msg, m0 = ⟨⟨11, 0, 0⟩, 1, 1, 1⟩ := ⟨_, rfl⟩
  have e2 : stepI boldW (stepEn boldW 0 bF0 N1) = [plainI m0] := by rw [hN1, hm0]; kernel_rfl
  rw [e2] at h3
  refine xt_03 (xt_13 (xt_23 ?_))
  rw [zero_45]
  refine al_s (cs := Done.zero.cs) h3 rfl fun t3 w4 h4 => ?_
  refine stN_at h4 0 rfl (vs := (doneE (stepEn boldW 0 bF0 N1)).cs) rfl rfl (Nat.le_of_ble_eq_true rfl) (ints_flat _) (cs' := (doneE (stepEn boldW 0 bF0 N1)).cs) (by rfl) fun w5 h5 => ?_
  replace h5 := h5.drop
  refine bld_s (ints [7, 1, 1]) (by kernel_rfl) (bld_s (ints [7, 1, 1, 0, 0, 0]) (by kernel_rfl) (bld_s (itM 7 1 1 0).cs (by kernel_rfl) ?_))
  refine warp_Hear_s (i := itM 7 1 1 0) (by show In64 7; unfold In64; omega) h5.swap fun v6 w6 h6 => ?_
  have e3 : (hearB (stepWN N1) 1 (itM 7 1 1 0)).e = 0 := by rw [hN1]; kernel_rfl
  have e4 : (hearB (stepWN N1) 1 (itM 7 1 1 0)).out = [antiI m0] := by rw [hN1, hm0]; kernel_rfl
  have e5 : (hearB (stepWN N1) 1 (itM 7 1 1 0)).N.q.length = 2 := by rw [hN1]; kernel_rfl
  rw [e3]
  rw [e4] at h6
  generalize (hearB (stepWN N1) 1 (itM 7 1 1 0)).N = N3 at h6 e5
  refine xt_02 (xt_12 (dr_s h6 fun w7 h7 => ?_))
  refine eq_t rfl (gd_tt (gd_tt (eq_t rfl (pk_t ?_))))
  refine gd_tt (gd_tt (lnS_rd h7 2 rfl (fun g hg => own_rd hg) (gd_tt (eq_t rfl (pk_t ?_)))))
  refine gd_tt (gd_tt (lnS_rd h7 0 rfl (fun g hg => own_rd hg) (gd_tt (eq_t rfl (pk_t ?_)))))
  refine gd_tt (gd_tt ?_)
  refine ixS_rd (j := 0) h7 0 rfl (fun g hg => own_rd hg) (fun _ => rfl) rfl fun p hp => ?_
  refine gd_tt (fld_of hp fun p1 hp1 => gd_tt (ld1_of h7 0 rfl hp1 (v := .int .i64 1) rfl (gd_tt (eq_t rfl (pk_t ?_)))))
  refine gd_tt (gd_tt ?_)
  refine ixS_rd (j := 0) h7 0 rfl (fun g hg => own_rd hg) (fun _ => rfl) rfl fun p2 hp2 => ?_
  refine gd_tt (fld_of hp2 fun p3 hp3 => gd_tt (ldN_sub h7 0 rfl hp3 (us := m0.cs) (by rw [hm0]; rfl) rfl ?_))
  refine gd_tt (gd_tt ?_)
  refine ixS_rd (j := 0) h7 2 rfl (fun g hg => own_rd hg) (fun _ => rfl) rfl fun p4 hp4 => ?_
  refine gd_tt (fld_of hp4 fun p5 hp5 => gd_tt (ldN_sub h7 2 rfl hp5 (us := m0.cs) (by rw [hm0]; rfl) rfl ?_))
  refine gd_tt (bO_eq (ns := m0.ns) (ms := m0.ns) eqT_37 agg_37 egt_37 (by decide) rfl ?_)
  rw [beq_self_eq_true]
  refine pk_t (gd_tt (gd_tt ?_))
  refine warp_Waiting_s (h7.pick 1 rfl) fun v8 w8 h8 => ?_
  refine gd_tt (lnS_rd h8 0 rfl (fun g hg => own_rd hg) (gd_tt (eq_t (by rw [e5]; rfl) (pk_t ?_))))
  exact hk _ (h8.selR [_, _, _, _] [] [] (by decide) rfl)
end Go.Proofs.YtbopajpmadlmhaaGreat
end
section
namespace Go.Proofs.YtbopajpmadlmhaaGreat
open Go Go.E
set_option maxRecDepth 100000
variable {e w : World} {L Q R : List HP} {K : KV} {S S2 : HP}

theorem wf8p {n : Int} (h : (Lit.int .u8 n).wf = true) : 0 ≤ n ∧ n ≤ 255 := by
  simp only [Lit.wf, IntKind.min, IntKind.max, IntKind.signed, IntKind.bits] at h
  simp at h
  omega
structure BInv (all : List Msg) (N : WN) : Prop where
  old : N.old = []
  fl : N.fl = 0
  clk : N.clk = [-1, -1, 0]
  line : N.ms ++ N.q = all
  cls : ∀ m ∈ all, m.Class = 0
theorem BInv.init : BInv [] B0 := ⟨rfl, rfl, rfl, rfl, fun m h => by cases h⟩
def heardB (N : WN) (m : Msg) : WN := ⟨N.old, lowsM m.key N.ms, insK m (highsM m.key N.ms ++ N.q), N.fl, N.clk⟩
theorem BInv.at1 {all : List Msg} {N : WN} (h : BInv all N) : N.at' 1 = -1 := by unfold WN.at'; rw [h.clk]; rfl
theorem BInv.hear {all : List Msg} {N : WN} {k : Nat} (h : BInv all N) (hW : WOk boldW 0 bF0 N k) {m : Msg} {c : Int} (hm : 0 ≤ m.key.T) (hc : m.Class = 0) (hne : ∀ y ∈ all, y.key ≠ m.key) (hl : all.length < 64) :
    hearB N 1 ⟨0, m, c⟩ = ⟨0, undoI boldW (goneE boldW 0 bF0 N m.key), heardB N m⟩ ∧ BInv (insK m all) (heardB N m) := by
  have hline := hW.line
  have hlen : N.ms.length + N.q.length = all.length := by rw [← h.line, List.length_append]
  have hh : (highsM m.key N.ms).length ≤ N.ms.length := List.length_filter_le ..
  constructor
  · unfold hearB
    rw [hear_args (by refine ⟨by omega, ?_, by omega⟩; show (1 : Int) < ((3 : Nat) : Int); omega)]
    show (if m.key.T < N.fl ∨ (0 ≤ N.at' 1 ∧ m.key.T < N.at' 1) then _ else if hasK m.key (N.ms ++ N.q) = true then _ else if 64 ≤ N.q.length + (highsM m.key N.ms).length then _ else _) = _
    have h1 := h.at1
    have h2 := h.fl
    rw [if_neg (by omega), h.line, if_neg (by rw [hasK_no.2 hne]; decide), if_neg (by omega)]
    rfl
  · refine ⟨h.old, h.fl, h.clk, ?_, fun y hy => ?_⟩
    · show lowsM m.key N.ms ++ insK m (highsM m.key N.ms ++ N.q) = _
      rw [line_ins hline, h.line]
    · rcases insK_mem.1 hy with rfl | hy
      · exact hc
      · exact h.cls y hy
theorem BInv.step {all : List Msg} {N : WN} (h : BInv all N) (he : stepWE boldW 0 bF0 N = 0) : BInv all (stepWN N) := by
  obtain ⟨⟨m, r, hq, _⟩, _, _⟩ := stepE_ok he
  rw [step_line hq]
  refine ⟨h.old, h.fl, h.clk, ?_, h.cls⟩
  rw [← h.line, hq]
  show (N.ms ++ [m]) ++ r = _
  simp
theorem endB : ∀ (l : List Msg) (s n : Int), (∀ m ∈ l, m.Class = 0) → s = 0 ∨ s = 1 → (endE bF0 (s, n) l).1 = (s + l.length) % 2
  | [], s, n, _, hs => by
    show s = (s + ((0 : Nat) : Int)) % 2
    omega
  | m :: l, s, n, hc, hs => by
    have h0 := hc m (List.mem_cons_self ..)
    rcases hs with rfl | rfl
    · have e1 : nextB bF0 (0, n) m = (1, n + 1) := by unfold nextB; rw [h0]; rfl
      show (endE bF0 (nextB bF0 (0, n) m) l).1 = _
      rw [e1, endB l 1 (n + 1) (fun m hm => hc m (List.mem_cons_of_mem _ hm)) (.inr rfl), List.length_cons]
      omega
    · have e1 : nextB bF0 (1, n) m = (0, n + 2) := by unfold nextB; rw [h0]; rfl
      show (endE bF0 (nextB bF0 (1, n) m) l).1 = _
      rw [e1, endB l 0 (n + 2) (fun m hm => hc m (List.mem_cons_of_mem _ hm)) (.inl rfl), List.length_cons]
      omega
theorem BInv.state {all : List Msg} {N : WN} (h : BInv all N) : (N.now bF0).1 = (N.ms.length : Int) % 2 := by
  unfold WN.now WN.base
  rw [h.old]
  have := endB N.ms 0 0 (fun m hm => h.cls m (by rw [← h.line]; exact List.mem_append_left _ hm)) (.inl rfl)
  rw [Int.zero_add] at this
  exact this
/-- A node's steps, whatever comes of them. -/
theorem stepB_s {r : Nat} {all : List Msg} {N : WN} {k : Nat} (hk0 : k ≤ 900) (hI : BInv all N) (hS : Sat e w (IsB r N k :: Q)) (hk : ∀ (N' : WN) v w', BInv all N' → (N' = N ∨ (stepWE boldW 0 bF0 N = 0 ∧ N' = stepWN N)) → Sat e w' (IsB r N' (k + 1) :: Q) → K v w') :
    Cl prog 15 #[.pointer (some ⟨r, 0, none⟩)] w K := by
  refine warp_Step_s (by omega) hS (fun hn w2 h2 => ?_) (fun he v w2 h2 => ?_)
  · obtain ⟨X, q, p, g, b, m, lv, hX, h3⟩ := warp_of h2
    exact hk N _ _ hI (.inl rfl) (warp_mk ⟨hX.eq, hX.short, hX.ok.mono (Nat.le_succ _), hX.map⟩ h3)
  · exact hk _ _ _ (hI.step he) (.inr ⟨he, rfl⟩) h2.drop
theorem wrapU8 {n : Int} (h : 0 ≤ n ∧ n ≤ 255) : IntKind.i64.wrap n = n := wrap_i64 (by omega) (by omega)
end Go.Proofs.YtbopajpmadlmhaaGreat
end
section
namespace Go.Proofs.YtbopajpmadlmhaaGreat
open Go Go.E
set_option maxRecDepth 100000
variable {e w : World} {L Q R : List HP} {K : KV} {S S2 : HP}

theorem leastT_ge (l : List Int) : 0 ≤ leastT l := by
  rcases (leastT_spec l).2.2 with h | ⟨x, _, h⟩
  · rw [h]; decide
  · rw [h]; exact (clampT_le x).1
def boundI : NItem := ⟨2, ⟨⟨Inf, 0, 0⟩, 0, 0, 0⟩, 0⟩
def boundedB (N : WN) : WN := ⟨N.old, N.ms, N.q, N.fl, [-1, -1, Inf]⟩
theorem BInv.bound {all : List Msg} {N : WN} (h : BInv all N) : hearB N 2 boundI = ⟨0, [], boundedB N⟩ := by
  unfold hearB
  rw [hear_args (by refine ⟨by omega, ?_, by omega⟩; show (2 : Int) < ((3 : Nat) : Int); omega)]
  have h2 : N.at' 2 = 0 := by unfold WN.at'; rw [h.clk]; rfl
  show (if N.at' 2 < 0 ∨ validT Inf = false then _ else if Inf < N.at' 2 then _ else _) = _
  rw [h2, if_neg (by decide), if_neg (by decide), h.clk]
  rfl
theorem hear_early {N : WN} (h1 : N.at' 1 = -1) {m : Msg} {c : Int} (hm : m.key.T < N.fl) : hearB N 1 ⟨0, m, c⟩ = ⟨110, [], N⟩ ∧ hearB N 1 ⟨1, m, c⟩ = ⟨110, [], N⟩ := by
  have hj : (0 : Int) ≤ 1 ∧ (1 : Int) < boldW.Feds.length ∧ (1 : Int) ≠ ((0 : Nat) : Int) := ⟨by omega, by show (1 : Int) < ((3 : Nat) : Int); omega, by omega⟩
  constructor
  · unfold hearB
    rw [hear_args hj]
    show (if m.key.T < N.fl ∨ (0 ≤ N.at' 1 ∧ m.key.T < N.at' 1) then _ else _) = _
    rw [if_pos (.inl hm)]
  · unfold hearB
    rw [hear_args hj]
    show (if 0 ≤ N.at' 1 then _ else if m.key.T < N.fl then _ else _) = _
    rw [if_neg (by omega), if_pos hm]
theorem BInv.twice {all : List Msg} {N : WN} (h : BInv all N) {m : Msg} {c : Int} (hm : 0 ≤ m.key.T) (hin : ∃ y ∈ all, y.key = m.key) : hearB N 1 ⟨0, m, c⟩ = ⟨3, [], N⟩ := by
  unfold hearB
  rw [hear_args (by refine ⟨by omega, ?_, by omega⟩; show (1 : Int) < ((3 : Nat) : Int); omega)]
  show (if m.key.T < N.fl ∨ (0 ≤ N.at' 1 ∧ m.key.T < N.at' 1) then _ else if hasK m.key (N.ms ++ N.q) = true then _ else _) = _
  have h1 := h.at1
  have h2 := h.fl
  rw [if_neg (by omega), h.line, if_pos (hasK_iff.2 hin)]
theorem commit_local {all : List Msg} {N : WN} (h : BInv all N) : commitWE (boundedB N) (localW (boundedB N)) = 0 := by
  have h1 : 0 ≤ localW (boundedB N) := leastT_ge _
  have h2 : (boundedB N).fl = 0 := h.fl
  unfold commitWE
  rw [if_neg (by omega), if_neg (by omega)]
def mT (y j b : Int) : Msg := ⟨⟨y, 1, j⟩, 0, 0, b⟩
end Go.Proofs.YtbopajpmadlmhaaGreat
end
section
namespace Go.Proofs.YtbopajpmadlmhaaGreat
open Go Go.E
set_option maxRecDepth 100000
variable {e w : World} {L Q R : List HP} {K : KV} {S S2 : HP}

theorem same15_s {u v : Value} {l : List Msg} (i j : Nat) (hi : L[i]? = some S) (hj : L[j]? = some S2) (hS : Sat e w L) (hr : ∀ g, S g → rdS 6 Msg.cs u l g) (hr2 : ∀ g, S2 g → rdS 6 Msg.cs v l g) (hl : l.length ≤ 1000000)
    (hk : ∀ w', Sat e w' L → K (.bool true) w') : Cl prog 23 #[u, v] w K := by
  refine pacelinelaw15_same_calls ?_
  unfold pacelinelaw15_same
  refine lnS_rd hS i hi hr ?_
  refine lnS_rd hS j hj hr2 ?_
  refine ne_f rfl (iff_f ?_)
  refine lpi1 (fun q t w => ∃ n : Nat, n ≤ l.length ∧ t = .int .i64 n ∧ q = l.length - n ∧ Sat e w L) l.length ⟨0, Nat.zero_le _, rfl, rfl, hS⟩ ?_
  rintro q _ w g ⟨n, hn, rfl, rfl, h1⟩ hg
  refine lnS_rd h1 i hi hr ?_
  refine lt_c (fun c => iff_t ?_) (fun c => iff_f (hk _ h1))
  obtain ⟨y, hy⟩ := get_of_lt (l := l) (j := n) (by omega)
  refine dr_s h1 fun w2 h2 => ?_
  refine ixS_rd h2 i hi hr (fun _ => rfl) hy fun p hp => ldN_of h2 i hi hp rfl ?_
  refine ixS_rd h2 j hj hr2 (fun _ => rfl) hy fun p hp => ldN_of h2 j hj hp rfl ?_
  refine bO_ne (ns := y.ns) (ms := y.ns) eqT_37 agg_37 egt_37 (by decide) rfl ?_
  rw [beq_self_eq_true]
  refine iff_f (inc_s (by omega) ?_)
  exact hg _ _ _ (by omega) ⟨n + 1, by omega, rfl, rfl, h2⟩
theorem Same15_s {u v : Value} {l : List Done} (i j : Nat) (hi : L[i]? = some S) (hj : L[j]? = some S2) (hS : Sat e w L) (hr : ∀ g, S g → rdS 7 Done.cs u l g) (hr2 : ∀ g, S2 g → rdS 7 Done.cs v l g) (hl : l.length ≤ 1000000)
    (hk : ∀ w', Sat e w' L → K (.bool true) w') : Cl prog 22 #[u, v] w K := by
  refine pacelineref09_Same_calls ?_
  unfold pacelineref09_Same
  refine lnS_rd hS i hi hr ?_
  refine lnS_rd hS j hj hr2 ?_
  refine ne_f rfl (iff_f ?_)
  refine lpi1 (fun q t w => ∃ n : Nat, n ≤ l.length ∧ t = .int .i64 n ∧ q = l.length - n ∧ Sat e w L) l.length ⟨0, Nat.zero_le _, rfl, rfl, hS⟩ ?_
  rintro q _ w g ⟨n, hn, rfl, rfl, h1⟩ hg
  refine lnS_rd h1 i hi hr ?_
  refine lt_c (fun c => iff_t ?_) (fun c => iff_f (hk _ h1))
  obtain ⟨y, hy⟩ := get_of_lt (l := l) (j := n) (by omega)
  refine dr_s h1 fun w2 h2 => ?_
  refine ixS_rd h2 i hi hr (fun _ => rfl) hy fun p hp => ldN_of h2 i hi hp rfl ?_
  refine ixS_rd h2 j hj hr2 (fun _ => rfl) hy fun p hp => ldN_of h2 j hj hp rfl ?_
  refine bO_ne (ns := y.ns) (ms := y.ns) eqT_45 agg_45 egt_45 (by decide) rfl ?_
  rw [beq_self_eq_true]
  refine iff_f (inc_s (by omega) ?_)
  exact hg _ _ _ (by omega) ⟨n + 1, by omega, rfl, rfl, h2⟩

/-! ### In plain words -/
theorem hj1 : (0 : Int) ≤ 1 ∧ (1 : Int) < boldW.Feds.length ∧ (1 : Int) ≠ ((0 : Nat) : Int) := ⟨by omega, by show (1 : Int) < ((3 : Nat) : Int); omega, by omega⟩
theorem hasK_app (k : Key) (a b : List Msg) : hasK k (a ++ b) = (hasK k a || hasK k b) := List.any_append
theorem BInv.anti {all : List Msg} {N : WN} {k : Nat} (h : BInv all N) (hW : WOk boldW 0 bF0 N k) {m : Msg} {c : Int} (hm : 0 ≤ m.key.T) (hin : hasK m.key all = true) (hl : all.length ≤ 64) :
    (hearB N 1 ⟨1, m, c⟩).e = 0 ∧ BInv (without all m.key) (hearB N 1 ⟨1, m, c⟩).N := by
  have hlen : N.ms.length + N.q.length = all.length := by rw [← h.line, List.length_append]
  have hh : (highsM m.key N.ms).length ≤ N.ms.length := List.length_filter_le ..
  have h1 := h.at1
  have h2 := h.fl
  have hcls : ∀ y ∈ without all m.key, y.Class = 0 := fun y hy => h.cls y (without_mem.1 hy).1
  unfold hearB
  rw [hear_args hj1]
  rw [if_neg (show ¬ (1 : Int) = 2 by decide), if_neg (show ¬ (1 : Int) = 0 by decide), if_pos rfl]
  show HR.e (if 0 ≤ N.at' 1 then _ else if m.key.T < N.fl then _ else if hasK m.key N.q = true then _ else if hasK m.key N.ms = false then _ else if 65 < N.q.length + (highsM m.key N.ms).length then _ else _) = 0 ∧ BInv _ (HR.N (if 0 ≤ N.at' 1 then _ else if m.key.T < N.fl then _ else if hasK m.key N.q = true then _ else if hasK m.key N.ms = false then _ else if 65 < N.q.length + (highsM m.key N.ms).length then _ else _))
  rw [if_neg (by omega), if_neg (by omega)]
  cases hq : hasK m.key N.q with
  | true =>
    rw [if_pos rfl]
    refine ⟨rfl, h.old, h.fl, h.clk, ?_, hcls⟩
    show N.ms ++ without N.q m.key = _
    rw [← h.line, without_app]
    congr 1
    refine (without_none fun y hy he => ?_).symm
    obtain ⟨x, hx, hx2⟩ := hasK_iff.1 hq
    have := hW.line.mid hy hx
    rw [he, hx2] at this
    exact KeyLt.irrefl _ this
  | false =>
    have hms : hasK m.key N.ms = true := by
      rw [← h.line, hasK_app, hq, Bool.or_false] at hin
      exact hin
    rw [if_neg (by decide), hms, if_neg (by decide), if_neg (by omega)]
    refine ⟨rfl, h.old, h.fl, h.clk, ?_, hcls⟩
    show lowsM m.key N.ms ++ without (highsM m.key N.ms ++ N.q) m.key = _
    rw [line_out hW.line, h.line]
theorem BInv.none {all : List Msg} {N : WN} (h : BInv all N) {m : Msg} {c : Int} (hm : 0 ≤ m.key.T) (hin : hasK m.key all = false) : hearB N 1 ⟨1, m, c⟩ = ⟨4, [], N⟩ := by
  have h1 := h.at1
  have h2 := h.fl
  rw [← h.line, hasK_app] at hin
  have hq : hasK m.key N.q = false := by cases hq : hasK m.key N.q with | false => rfl | true => rw [hq, Bool.or_true] at hin; cases hin
  have hms : hasK m.key N.ms = false := by cases hms : hasK m.key N.ms with | false => rfl | true => rw [hms] at hin; cases hin
  unfold hearB
  rw [hear_args hj1]
  rw [if_neg (show ¬ (1 : Int) = 2 by decide), if_neg (show ¬ (1 : Int) = 0 by decide), if_pos rfl]
  show (if 0 ≤ N.at' 1 then _ else if m.key.T < N.fl then _ else if hasK m.key N.q = true then _ else if hasK m.key N.ms = false then _ else _) = _
  rw [if_neg (by omega), if_neg (by omega), hq, if_neg (by decide), hms, if_pos rfl]
theorem outs6 (b : Int × Int) (m : Msg) : (entB boldW 0 bF0 b m).outs.length ≤ 6 := by
  have h1 := spreadL_len boldW.Parents boldW.Feds (0 : Nat) b.2 m.key.T m.Body (stepR bF0.Rules b.1 m.Class).2
  have h2 : (stepR bF0.Rules b.1 m.Class).2.length ≤ 2 := by
    rcases stepR_cases bF0.Rules b.1 m.Class with ⟨r, hr, _, _, he⟩ | ⟨_, he⟩
    · rw [he]
      have hr' : r = bR0 ∨ r = bR1 := by simpa [bF0] using hr
      rcases hr' with rfl | rfl <;> simp [bR0, bR1]
    · rw [he]; simp
  have h3 : (stepR bF0.Rules b.1 m.Class).2.length * boldW.Feds.length ≤ 2 * 3 := Nat.mul_le_mul h2 (Nat.le_refl 3)
  exact Nat.le_trans h1 h3
theorem gate6 : ∀ (l : List Msg) (b : Int × Int), (gateE boldW (runE boldW 0 bF0 b l)).length ≤ 6 * l.length
  | [], _ => Nat.le_refl _
  | m :: l, b => by
    have h1 := gate6 l (nextB bF0 b m)
    have h2 : (keptE boldW (entB boldW 0 bF0 b m)).length ≤ 6 := by
      unfold keptE
      rw [List.length_map]
      exact Nat.le_trans (List.length_filter_le _ _) (outs6 b m)
    show (keptE boldW (entB boldW 0 bF0 b m) ++ gateE boldW (runE boldW 0 bF0 (nextB bF0 b m) l)).length ≤ _
    rw [List.length_append, List.length_cons]
    omega
/-- All steps are done. -/
def DoneB (N : WN) : Prop := ∀ m ∈ N.q, 200 ≤ m.key.T
theorem step_done {all : List Msg} {N : WN} {k : Nat} (h : BInv all N) (hW : WOk boldW 0 bF0 N k) (hl : all.length ≤ 30) : DoneB N ∨ stepWE boldW 0 bF0 N = 0 := by
  have hlen : N.ms.length + N.q.length = all.length := by rw [← h.line, List.length_append]
  have hg : (gateE boldW (N.past boldW 0 bF0)).length ≤ 6 * N.ms.length := gate6 _ _
  cases hq : N.q with
  | nil => left; intro m hm; rw [hq] at hm; cases hm
  | cons m r =>
    by_cases ht : m.key.T < 200
    · right
      unfold stepWE
      rw [if_neg (fun hn => hn ⟨by rw [hq]; rfl, by rw [hq]; exact ht⟩), if_neg (by omega)]
    · left
      intro y hy
      have hu := hW.upq
      rw [hq] at hy hu
      rcases List.mem_cons.1 hy with rfl | hy
      · omega
      · have := (List.pairwise_cons.1 hu).1 y hy
        unfold KeyLt at this
        omega
theorem done_is {all : List Msg} {N : WN} {k : Nat} (h : BInv all N) (hW : WOk boldW 0 bF0 N k) (hd : DoneB N) : N = ⟨[], earlyM 200 all, lateM 200 all, 0, [-1, -1, 0]⟩ := by
  have h1 : earlyM 200 all = N.ms := by
    rw [← h.line]
    unfold earlyM
    rw [List.filter_append, List.filter_eq_self.2 fun y hy => decide_eq_true (show y.key.T < (200 : Int) from hW.en y (List.mem_append_right _ hy)), List.filter_eq_nil_iff.2 fun y hy => by have := hd y hy; rw [decide_eq_true_iff]; omega, List.append_nil]
  have h2 : lateM 200 all = N.q := by
    rw [← h.line]
    unfold lateM
    rw [List.filter_append, List.filter_eq_nil_iff.2 fun y hy => ?_, List.filter_eq_self.2 fun y hy => ?_, List.nil_append]
    · have := hd y hy
      rw [decide_eq_false (by omega)]
      rfl
    · rw [decide_eq_true (show y.key.T < (200 : Int) from hW.en y (List.mem_append_right _ hy))]
      decide
  rw [h1, h2]
  have h3 := h.old
  have h4 := h.fl
  have h5 := h.clk
  cases N
  dsimp only at h3 h4 h5
  subst h3 h4 h5
  rfl
theorem step_more {all : List Msg} {N N' : WN} {k i : Nat} (h : BInv all N) (hW : WOk boldW 0 bF0 N k) (hl : all.length ≤ 30) (hd : DoneB N ∨ i ≤ N.ms.length) (hc : N' = N ∨ (stepWE boldW 0 bF0 N = 0 ∧ N' = stepWN N)) (hn : stepWE boldW 0 bF0 N = 0 → N' = stepWN N) : DoneB N' ∨ i + 1 ≤ N'.ms.length := by
  rcases step_done h hW hl with h1 | h1
  · rcases hc with rfl | ⟨_, rfl⟩
    · exact .inl h1
    · left
      intro m hm
      exact h1 m (List.mem_of_mem_tail hm)
  · rw [hn h1]
    rcases hd with hd | hd
    · left
      intro m hm
      exact hd m (List.mem_of_mem_tail hm)
    · right
      show i + 1 ≤ (N.ms ++ [hdM N.q]).length
      rw [List.length_append, List.length_singleton]
      omega
theorem done_end {all : List Msg} {N : WN} {i : Nat} (h : BInv all N) (hd : DoneB N ∨ i ≤ N.ms.length) (hi : all.length ≤ i) : DoneB N := by
  rcases hd with hd | hd
  · exact hd
  · have hlen : N.ms.length + N.q.length = all.length := by rw [← h.line, List.length_append]
    have : N.q = [] := List.length_eq_zero_iff.1 (by omega)
    intro m hm
    rw [this] at hm
    cases hm
/-- A step, and that it is made where it can be. -/
theorem stepC_s {r : Nat} {all : List Msg} {N : WN} {k i : Nat} (hk0 : k ≤ 900) (hl : all.length ≤ 30) (hI : BInv all N) (hd : DoneB N ∨ i ≤ N.ms.length) (hS : Sat e w (IsB r N k :: Q))
    (hk : ∀ (N' : WN) v w', BInv all N' → (DoneB N' ∨ i + 1 ≤ N'.ms.length) → Sat e w' (IsB r N' (k + 1) :: Q) → K v w') : Cl prog 15 #[.pointer (some ⟨r, 0, none⟩)] w K := by
  have hW := warp_ok 0 hS rfl
  refine warp_Step_s (by omega) hS (fun hn w2 h2 => ?_) (fun he v w2 h2 => ?_)
  · obtain ⟨X, q, p, g, b, m, lv, hX, h3⟩ := warp_of h2
    exact hk N _ _ hI (step_more hI hW hl hd (.inl rfl) (fun h => absurd h hn)) (warp_mk ⟨hX.eq, hX.short, hX.ok.mono (Nat.le_succ _), hX.map⟩ h3)
  · exact hk _ _ _ (hI.step he) (step_more hI hW hl hd (.inr ⟨he, rfl⟩) fun _ => rfl) h2.drop
theorem dec_bool {H : Type} {enc : TypeId × Value → H} {base : Nat} {spare : Nat → Bool} {held : Bool} {fuel : Nat} {cs : List Value} {x : DataW H × List MemPlace} (h : DataW.trod enc prog w base spare held fuel 4 cs = some x) : ∃ b, cs = [.bool b] := by
  obtain ⟨b, h1, _⟩ := DataW.trod_bool (by kernel_rfl) h
  exact ⟨b, h1⟩
abbrev boolC (b : Bool) : List Value := [.bool b]
theorem open_bools {H : Type} {enc : TypeId × Value → H} {base : Nat} {held : Bool} {v : Value} {d : DataW H} {p : List MemPlace} {a : Option Addr} {len cap : Nat} (hv : v = .slice a len cap) (h : DataW.Trod enc prog w base (fun _ => true) held 51 v d p) :
    ∃ l : List Bool, ∀ g, Old w g → rdS 1 boolC v l g := by
  subst hv
  obtain ⟨fuel, hf⟩ := h
  obtain ⟨v', l, h1, _, h3⟩ := open_sliceG (f := boolC) (s := 1) (fun _ : Bool => True) und_51 (by kernel_rfl) (by decide) (fun _ => rfl) (fun _ cs _ h => by obtain ⟨n, h1⟩ := dec_bool h; exact ⟨n, h1.symm, trivial⟩) hf
  have hc : (Value.slice a len cap).cells.toList = [Value.slice a len cap] := rfl
  rw [hc] at h1
  injection h1 with h1
  exact ⟨l, by rw [h1]; exact h3⟩
theorem drop_perm {a B : List Msg} {ally : List Msg} {i : Nat} {m : Msg} (hm : B[i]? = some m) (hp : a.Perm (ally ++ B.drop i)) (hn : (a.map Msg.key).Nodup) : (without a m.key).Perm (ally ++ B.drop (i + 1)) ∧ hasK m.key a = true ∧ hasK m.key (without a m.key) = false := by
  rw [drop_cons hm] at hp
  have hp2 : a.Perm (m :: (ally ++ B.drop (i + 1))) := hp.trans List.perm_middle
  have hn2 : ((m :: (ally ++ B.drop (i + 1))).map Msg.key).Nodup := (hp2.map Msg.key).nodup_iff.1 hn
  rw [List.map_cons, List.nodup_cons] at hn2
  refine ⟨?_, hasK_iff.2 ⟨m, hp2.mem_iff.2 (List.mem_cons_self ..), rfl⟩, hasK_no.2 fun y hy => (without_mem.1 hy).2⟩
  have h1 : (without a m.key).Perm (without (m :: (ally ++ B.drop (i + 1))) m.key) := hp2.filter _
  have h2 : without (m :: (ally ++ B.drop (i + 1))) m.key = ally ++ B.drop (i + 1) := by
    unfold without
    rw [List.filter_cons, if_neg (by rw [decide_eq_true rfl]; decide)]
    exact without_none fun y hy he => hn2.1 (List.mem_map.2 ⟨y, hy, he⟩)
  rwa [h2] at h1
def antiInv (e : World) (r r2 k : Nat) (N : WN) (allx : List Msg) (Q : List HP) (t : Value) (w' : World) : Prop :=
  ∃ (B' ally' : List Msg) (M' : WN), BInv ally' M' ∧ allx.Perm (ally' ++ B') ∧ Upk ally' ∧ Sat e w' (IsB r N k :: ownS 37 6 Msg.cs t B' :: IsB r2 M' 0 :: Q)
theorem warpAnti_s {v gv u : Value} {l st : List Int} {gs : List Bool} {S : HP} (hS : Sat e w (S :: Q)) (hr : ∀ g, S g → rdS 1 (intsK .u8) v l g) (hw : ∀ m ∈ l, (Lit.int .u8 m).wf = true) (hrg : ∀ g, S g → rdS 1 boolC gv gs g) (hr2 : ∀ g, S g → rdS 1 (intsK .u8) u st g) (hw2 : ∀ m ∈ st, (Lit.int .u8 m).wf = true)
    (hk : ∀ w', Sat e w' (S :: Q) → K (.bool true) w') : Cl prog 4 #[v, gv, u] w K := by
  refine pacelinelaw15_WarpAnti_calls ?_
  unfold pacelinelaw15_WarpAnti
  refine lnS_rd hS 0 rfl hr ?_
  refine gt_c (fun c0 => gd_tf (gd_tf (pk_t (iff_t (shown15_s hS fun w2 h2 => hk _ h2))))) (fun c0 => gd_ff ?_)
  refine shown15_s hS fun w1 h1 => gd_ff (not_t (pk_f (iff_f ?_)))
  refine startB_s h1 fun r w2 h2 => ?_
  refine xt_02 (xt_12 ?_)
  refine startB_s h2 fun r2 w3 h3 => ?_
  refine xt_02 (xt_12 (ne_f rfl (gd_ff (gd_ff (ne_f rfl (pk_f ?_))))))
  refine gd_ff (gd_ff (bnp_s _ (pk_f (gd_ff (gd_ff (bnp_s _ (pk_f (iff_f ?_))))))))
  rw [zero_37]
  refine bsl0 h3 Msg.cs fun v61 w4 h4 => ?_
  have hl30 : l.length ≤ 30 := by omega
  refine lpi2 (fun mm t11 t12 w => ∃ (j : Nat) (allx ally B : List Msg) (N M : WN) (k : Nat), j ≤ l.length ∧ t12 = .int .i64 j ∧ mm = l.length - j ∧ k ≤ 3 * j ∧ BInv allx N ∧ BInv ally M ∧ allx.Perm (ally ++ B) ∧ allx.length = j ∧ (∀ m ∈ allx, m.key.Seq < j ∧ 0 ≤ m.key.T ∧ m.key.T ≤ 255) ∧ Upk allx ∧ Upk ally ∧
      Sat e w (ownS 37 6 Msg.cs t11 B :: IsB r N k :: IsB r2 M 0 :: S :: Q)) l.length
    ⟨0, [], [], [], B0, B0, 0, Nat.zero_le _, rfl, rfl, Nat.le_refl _, .init, .init, .refl _, rfl, by simp, .nil, .nil, h4.selR [_, _, _] [_, _, _] [0, 2, 1] (by decide) rfl⟩ ?_
  rintro mm t11 _ w g1 ⟨j, allx, ally, B, N, M, k, hj, rfl, rfl, hkj, hI, hJ, hp, hal, hseq, hupx, hupy, h5⟩ hg1
  refine lnS_rd h5 3 rfl hr ?_
  have hBl : ally.length + B.length = j := by rw [← hal, hp.length_eq, List.length_append]
  refine lt_c (fun c => iff_t ?_) (fun c => iff_f ?_)
  · obtain ⟨y, hy⟩ := get_of_lt (l := l) (j := j) (by omega)
    have hyw := wf8p (hw y (List.mem_of_getElem? hy))
    refine ixS_rd h5 3 rfl hr (fun _ => rfl) hy fun a ha => ld1_of h5 3 rfl ha (v := .int .u8 y) rfl (cv_s ?_)
    rw [wrapU8 hyw]
    obtain ⟨m, hm⟩ : ∃ m : Msg, m = mT y j 0 := ⟨_, rfl⟩
    refine bld_s (ints [y, 1, j]) (by kernel_rfl) (bld_s (mT y j 0).cs (by kernel_rfl) ?_)
    rw [← hm]
    refine al_s (cs := Msg.zero.cs) h5 rfl fun t13 w6 h6 => ?_
    refine stN_at h6 0 rfl (vs := m.cs) rfl rfl (by decide) (ints_flat _) (cs' := m.cs) (by rfl) fun w7 h7 => ?_
    replace h7 : Sat e w7 (blk t13 37 m.cs :: ownS 37 6 Msg.cs t11 B :: IsB r N k :: IsB r2 M 0 :: S :: Q) := h7
    refine ldN_at h7 0 (vs := m.cs) rfl (by rfl) rfl ?_
    refine bld_s (⟨0, m, 0⟩ : NItem).cs (by rw [hm]; kernel_rfl) ?_
    have hW := warp_ok 2 h7 rfl
    have hWM := warp_ok 3 h7 rfl
    have hnex : ∀ z ∈ allx, z.key ≠ m.key := fun z hz he => by
      have := (hseq z hz).1
      rw [he, hm] at this
      exact Int.lt_irrefl _ this
    have hney : ∀ z ∈ ally, z.key ≠ m.key := fun z hz => hnex z (hp.mem_iff.2 (List.mem_append_left _ hz))
    have hm0 : 0 ≤ m.key.T := by rw [hm]; exact hyw.1
    have hmc : m.Class = 0 := by rw [hm]; rfl
    have hm64 : In64 m.key.T := by rw [hm]; show In64 y; unfold In64; omega
    obtain ⟨hhe, hI2⟩ := hI.hear hW (m := m) (c := 0) hm0 hmc hnex (by omega)
    refine warp_Hear_s (i := ⟨0, m, 0⟩) hm64 (h7.selR [_, _, _, _] [_, _, _, _] [2, 0, 1, 3] (by decide) rfl) fun v8 w8 h8 => ?_
    rw [show hearW boldW 0 bF0 N 1 ⟨0, m, 0⟩ = _ from hhe] at h8 ⊢
    replace h8 : Sat e w8 (IsB r (heardB N m) k :: blk t13 37 m.cs :: ownS 37 6 Msg.cs t11 B :: IsB r2 M 0 :: S :: Q) := h8.drop
    refine xt_02 (xt_12 (ne_f rfl (iff_f ?_)))
    refine lnS_rd h8 4 rfl hrg ?_
    have hil := insK_len m allx
    have hup2 := insK_up hupx hnex
    have hseq2 : ∀ z ∈ insK m allx, z.key.Seq < (j + 1 : Nat) ∧ 0 ≤ z.key.T ∧ z.key.T ≤ 255 := fun z hz => by
      rcases insK_mem.1 hz with rfl | hz
      · rw [hm]; exact ⟨by show (j : Int) < _; omega, hyw⟩
      · have := hseq z hz; omega
    have hpin := insK_perm m allx
    -- the steps, behind either way
    have rest : ∀ (t11' : Value) (B' ally' : List Msg) (M' : WN) (w' : World), BInv ally' M' → (insK m allx).Perm (ally' ++ B') → Upk ally' → Sat e w' (IsB r (heardB N m) k :: ownS 37 6 Msg.cs t11' B' :: IsB r2 M' 0 :: S :: Q) →
        lp [(Value.int IntKind.i64 0)] w' (b1 fun t16 w g3 => lnS u w fun t105 w => bi .lss .i64 (.int .i64 (j : Int)) t105 w fun t106 w => gd t106 true (fun k => k t16 w) w fun t108 w => gd t106 true (fun k => k u w) w fun t109 w => gd t106 true (fun k => k (.int .i64 (j : Int)) w) w fun t110 w => gd t106 true (fun k => ixS 1 t109 t110 w k) w fun t111 w => gd t106 true (fun k => ld1 t111 w k) w fun t112 w =>
          gd t106 true (fun k => cvI .i64 t112 w k) w fun t113 w => gd t106 true (fun k => bi .rem .i64 t113 (Value.int IntKind.i64 4) w k) w fun t114 w => gd t106 true (fun k => bi .lss .i64 t108 t114 w k) w fun t115 w => pk t106 t115 (Value.bool false) w fun t116 w => iff' t116
          (Cl prog 15 #[.pointer (some ⟨r, 0, none⟩)] w fun _ w => bi .add .i64 t16 (Value.int IntKind.i64 1) w fun t118 w => g3 [t118] w) (bi .add .i64 (.int .i64 (j : Int)) (Value.int IntKind.i64 1) w fun t67 w => g1 [t11', t67] w)) := by
      intro t11' B' ally' M' w' hJ' hp' hupy' h9
      obtain ⟨lim, hlim⟩ : ∃ lim : Nat, lim = if j < st.length then (st.getD j 0 % 4).toNat else 0 := ⟨_, rfl⟩
      have hlim4 : lim ≤ 3 := by rw [hlim]; split <;> omega
      refine lpi1 (fun mm t16 w => ∃ (i : Nat) (N : WN), t16 = .int .i64 i ∧ mm = lim - i ∧ i ≤ lim ∧ BInv (insK m allx) N ∧ Sat e w (IsB r N (k + i) :: ownS 37 6 Msg.cs t11' B' :: IsB r2 M' 0 :: S :: Q)) lim ⟨0, heardB N m, rfl, rfl, Nat.zero_le _, hI2, h9⟩ ?_
      rintro mm _ w g2 ⟨i, N3, rfl, rfl, hil2, hI3, h10⟩ hg2
      refine lnS_rd h10 3 rfl hr2 ?_
      have go : i < lim → Cl prog 15 #[.pointer (some ⟨r, 0, none⟩)] w fun _ w => bi .add .i64 (.int .i64 (i : Int)) (Value.int IntKind.i64 1) w fun t79 w => g2 [t79] w := fun hlt => by
        refine stepB_s (by omega) hI3 h10 fun N4 v' w14 hI4 _ h14 => ?_
        refine inc_s (by omega) ?_
        exact hg2 _ _ _ (by omega) ⟨i + 1, N4, rfl, rfl, by omega, hI4, h14⟩
      have no : bi .add .i64 (.int .i64 (j : Int)) (Value.int IntKind.i64 1) w fun t67 w => g1 [t11', t67] w := by
        refine inc_s (by omega) ?_
        exact hg1 _ _ _ _ (by omega) ⟨j + 1, insK m allx, ally', B', N3, M', k + i, by omega, rfl, rfl, by omega, hI3, hJ', hp', by omega, hseq2, hup2, hupy', h10.selR [_, _, _, _] [_, _, _, _] [1, 0, 2, 3] (by decide) rfl⟩
      by_cases d1 : j < st.length
      · obtain ⟨s0, hs0⟩ := get_of_lt (l := st) (j := j) d1
        have hsw := wf8p (hw2 s0 (List.mem_of_getElem? hs0))
        have hsg : st.getD j 0 = s0 := by rw [List.getD_eq_getElem?_getD, hs0]; rfl
        rw [if_pos d1, hsg] at hlim
        refine lt_t (by omega) (gd_tt (gd_tt (gd_tt (gd_tt ?_))))
        refine ixS_rd h10 3 rfl hr2 (fun _ => rfl) hs0 fun a ha => gd_tt (ld1_of h10 3 rfl ha (v := .int .u8 s0) rfl (gd_tt (cv_s (gd_tt ?_))))
        rw [wrapU8 hsw]
        refine rem_s (by omega) (gd_tt ?_)
        rw [Int.tmod_eq_emod_of_nonneg (by omega)]
        refine lt_c (fun d2 => pk_t (iff_t (go (by omega)))) (fun d2 => pk_t (iff_f no))
      · rw [if_neg d1] at hlim
        refine lt_f (by omega) ?_
        refine gd_ft (gd_ft (gd_ft (gd_ft (gd_ft (gd_ft (gd_ft (gd_ft (pk_f (iff_f no)))))))))
    have yes : ∀ k2 : Value → World → Prop, (∀ t w, antiInv e r r2 k (heardB N m) (insK m allx) (S :: Q) t w → k2 t w) → ldN 6 (.pointer (some ⟨t13, 0, none⟩)) w8 fun t96 w => bsl 37 6 1 Msg.zero.cs.toArray [(0, t96)] w fun t97 w => apS prog #[33, 33] 33 t11 t97 w fun t98 w => k2 t98 w := fun k2 hk2 => by
      refine ldN_at h8 1 (vs := m.cs) rfl (by rfl) rfl ?_
      refine push1 te_33 (f := Msg.cs) (fun _ => rfl) (fun _ => ints_flat _) (h8.pick 2 rfl) (x := m) rfl (by omega) fun v' w9 h9 => ?_
      refine hk2 _ _ ⟨B ++ [m], ally, M, hJ, ?_, hupy, h9.selR [_, _, _, _] [_, _, _] [1, 0, 3] (by decide) rfl⟩
      rw [← List.append_assoc]
      exact (hpin.trans (hp.cons m)).trans (List.perm_append_singleton m (ally ++ B)).symm
    have no : ∀ k2 : Value → World → Prop, (∀ t w, antiInv e r r2 k (heardB N m) (insK m allx) (S :: Q) t w → k2 t w) → ldN 6 (.pointer (some ⟨t13, 0, none⟩)) w8 fun t100 w => bld (zeroD prog 43) #[(0, 1), (1, 6), (7, 1)] [(1, t100)] w fun t101 w => Cl prog 14 #[.pointer (some ⟨r2, 0, none⟩), (Value.int IntKind.i64 1), t101] w fun _ w => k2 t11 w := fun k2 hk2 => by
      refine ldN_at h8 1 (vs := m.cs) rfl (by rfl) rfl ?_
      refine bld_s (⟨0, m, 0⟩ : NItem).cs (by rw [hm]; kernel_rfl) ?_
      obtain ⟨hhe2, hJ2⟩ := hJ.hear hWM (m := m) (c := 0) hm0 hmc hney (by omega)
      refine warp_Hear_s (i := ⟨0, m, 0⟩) hm64 (h8.pick 3 rfl) fun v9 w9 h9 => ?_
      rw [show hearW boldW 0 bF0 M 1 ⟨0, m, 0⟩ = _ from hhe2] at h9
      refine hk2 _ _ ⟨B, insK m ally, heardB M m, hJ2, ?_, insK_up hupy hney, h9.drop.selR [_, _, _, _] [_, _, _] [1, 3, 0] (by decide) rfl⟩
      exact (hpin.trans (hp.cons m)).trans ((insK_perm m ally).symm.append_right B)
    by_cases d0 : j < gs.length
    · obtain ⟨b0, hb0⟩ := get_of_lt (l := gs) (j := j) d0
      refine lt_t (by omega) (gd_tt (gd_tt ?_))
      refine gd_tt (ixS_rd h8 4 rfl hrg (fun _ => rfl) hb0 fun a ha => gd_tt (ld1_of h8 4 rfl ha (v := .bool b0) rfl (pk_t ?_)))
      cases b0 with
      | true => exact J1.cut (antiInv e r r2 k (heardB N m) (insK m allx) (S :: Q)) (fun k2 hk2 => iff_t (yes k2 hk2)) (fun t11' w' ⟨B', ally', M', q1, q2, q3, q4⟩ => rest t11' B' ally' M' w' q1 q2 q3 q4)
      | false => exact J1.cut (antiInv e r r2 k (heardB N m) (insK m allx) (S :: Q)) (fun k2 hk2 => iff_f (no k2 hk2)) (fun t11' w' ⟨B', ally', M', q1, q2, q3, q4⟩ => rest t11' B' ally' M' w' q1 q2 q3 q4)
    · refine lt_f (by omega) ?_
      exact gd_ft (gd_ft (gd_ft (gd_ft (pk_f (J1.cut (antiInv e r r2 k (heardB N m) (insK m allx) (S :: Q)) (fun k2 hk2 => iff_f (no k2 hk2)) (fun t11' w' ⟨B', ally', M', q1, q2, q3, q4⟩ => rest t11' B' ally' M' w' q1 q2 q3 q4))))))
  -- take them back
  have ej : j = l.length := by omega
  refine lpi1 (fun mm t17 w => ∃ (i : Nat) (a : List Msg) (N : WN), i ≤ B.length ∧ t17 = .int .i64 i ∧ mm = B.length - i ∧ BInv a N ∧ a.Perm (ally ++ B.drop i) ∧ Upk a ∧ Sat e w (ownS 37 6 Msg.cs t11 B :: IsB r N k :: IsB r2 M 0 :: S :: Q)) B.length
    ⟨0, allx, N, Nat.zero_le _, rfl, rfl, hI, by rw [List.drop_zero]; exact hp, hupx, h5⟩ ?_
  rintro mm _ w g4 ⟨i, a, N2, hi, rfl, rfl, hI2, hp2, hupa, h6⟩ hg4
  refine lnS_rd h6 0 rfl (fun g hg => own_rd hg) ?_
  refine lt_c (fun c1 => iff_t ?_) (fun c1 => iff_f ?_)
  · obtain ⟨m, hm⟩ := get_of_lt (l := B) (j := i) (by omega)
    have hmx := hseq m (hp.mem_iff.2 (List.mem_append_right _ (List.mem_of_getElem? hm)))
    have hm64 : In64 m.key.T := by unfold In64; omega
    obtain ⟨q1, q2, q3⟩ := drop_perm hm hp2 hupa.nodup
    have hal2 : a.length ≤ 30 := by rw [hp2.length_eq, List.length_append, List.length_drop]; omega
    refine ixS_rd h6 0 rfl (fun g hg => own_rd hg) (fun _ => rfl) hm fun p hp => ldN_of h6 0 rfl hp rfl ?_
    refine bld_s (⟨1, m, 0⟩ : NItem).cs (by kernel_rfl) ?_
    have hW := warp_ok 1 h6 rfl
    obtain ⟨e1, hI3⟩ := hI2.anti hW (m := m) (c := 0) hmx.2.1 q2 (by omega)
    refine warp_Hear_s (i := ⟨1, m, 0⟩) hm64 (h6.pick 1 rfl) fun v7 w7 h7 => ?_
    rw [show (hearW boldW 0 bF0 N2 1 ⟨1, m, 0⟩).e = 0 from e1]
    replace h7 : Sat e w7 (IsB r (hearB N2 1 ⟨1, m, 0⟩).N k :: ownS 37 6 Msg.cs t11 B :: IsB r2 M 0 :: S :: Q) := h7.drop
    refine xt_02 (xt_12 ?_)
    refine ixS_rd h7 1 rfl (fun g hg => own_rd hg) (fun _ => rfl) hm fun p hp => ldN_of h7 1 rfl hp rfl ?_
    refine bld_s (⟨1, m, 0⟩ : NItem).cs (by kernel_rfl) ?_
    have hno := hI3.none (m := m) (c := 0) hmx.2.1 q3
    generalize (hearB N2 1 ⟨1, m, 0⟩).N = N3 at h7 hI3 hno
    refine warp_Hear_s (i := ⟨1, m, 0⟩) hm64 h7 fun v8 w8 h8 => ?_
    rw [show hearW boldW 0 bF0 N3 1 ⟨1, m, 0⟩ = _ from hno] at h8 ⊢
    refine xt_02 (xt_12 (ne_f rfl (gd_ff (gd_ff (ne_f rfl (pk_f (iff_f (inc_s (by omega) ?_))))))))
    exact hg4 _ _ _ (by omega) ⟨i + 1, without a m.key, N3, by omega, rfl, rfl, hI3, q1, without_up hupa m.key, h8.drop.swap⟩
  have ei : i = B.length := by omega
  rw [ei, List.drop_length, List.append_nil] at hp2
  obtain rfl := up_unique hupa hupy hp2
  have hyl : a.length ≤ 30 := by omega
  replace h6 : Sat e w (IsB r N2 k :: IsB r2 M 0 :: S :: Q) := h6.drop
  refine lpi1 (fun mm t22 w => ∃ (i : Nat) (N M : WN), i ≤ l.length ∧ t22 = .int .i64 i ∧ mm = l.length - i ∧ BInv a N ∧ BInv a M ∧ (DoneB N ∨ i ≤ N.ms.length) ∧ (DoneB M ∨ i ≤ M.ms.length) ∧ Sat e w (IsB r N (k + i) :: IsB r2 M (0 + i) :: S :: Q)) l.length
    ⟨0, N2, M, Nat.zero_le _, rfl, rfl, hI2, hJ, .inr (Nat.zero_le _), .inr (Nat.zero_le _), h6⟩ ?_
  rintro mm _ w g5 ⟨i2, N3, M3, hi2, rfl, rfl, hI3, hJ3, hd1, hd2, h7⟩ hg5
  refine lnS_rd h7 2 rfl hr ?_
  refine lt_c (fun c2 => iff_t ?_) (fun c2 => iff_f ?_)
  · refine stepC_s (by omega) hyl hI3 hd1 h7 fun N4 _ w8 hI4 hd3 h8 => ?_
    refine stepC_s (by omega) hyl hJ3 hd2 h8.swap fun M4 _ w9 hJ4 hd4 h9 => ?_
    refine inc_s (by omega) ?_
    exact hg5 _ _ _ (by omega) ⟨i2 + 1, N4, M4, by omega, rfl, rfl, hI4, hJ4, hd3, hd4, h9.swap⟩
  have hD1 := done_end hI3 hd1 (by omega)
  have hD2 := done_end hJ3 hd2 (by omega)
  have hW3 := warp_ok 0 h7 rfl
  have hW4 := warp_ok 1 h7 rfl
  have hNM : M3 = N3 := by rw [done_is hI3 hW3 hD1, done_is hJ3 hW4 hD2]
  subst hNM
  clear hJ3 hd2 hD2 hW4
  refine bld_s (ints [Inf, 0, 0]) (by kernel_rfl) (bld_s boundI.m.cs (by kernel_rfl) (bld_s boundI.cs (by kernel_rfl) ?_))
  refine warp_Hear_s (i := boundI) (by show In64 Inf; unfold In64 Inf; omega) h7 fun v8 w8 h8 => ?_
  rw [show hearW boldW 0 bF0 M3 2 boundI = _ from hI3.bound] at h8
  refine bld_s (ints [Inf, 0, 0]) (by kernel_rfl) (bld_s boundI.m.cs (by kernel_rfl) (bld_s boundI.cs (by kernel_rfl) ?_))
  refine warp_Hear_s (i := boundI) (by show In64 Inf; unfold In64 Inf; omega) (h8.drop.swap) fun v9 w9 h9 => ?_
  rw [show hearW boldW 0 bF0 M3 2 boundI = _ from hI3.bound] at h9
  replace h9 : Sat e w9 (IsB r (boundedB M3) (k + i2) :: IsB r2 (boundedB M3) (0 + i2) :: S :: Q) := h9.drop.swap
  have hce := commit_local hI3
  have hml := hW3.ml
  generalize hP : boundedB M3 = P at h9 hce
  have hPl : P.ms.length ≤ 64 := by rw [← hP]; exact hml
  refine warp_Local_s h9 fun w10 h10 => ?_
  refine warp_Commit_s (by omega) h10 (fun h => absurd hce h) fun _ v11 u11 w11 h11 => ?_
  refine xt_03 (xt_13 (xt_23 ?_))
  refine warp_Local_s (h11.pick 3 rfl) fun w12 h12 => ?_
  refine warp_Commit_s (by omega) h12 (fun h => absurd hce h) fun _ v13 u13 w13 h13 => ?_
  refine xt_03 (xt_13 (xt_23 ?_))
  have hel : (earlyM (localW P) P.ms).length ≤ P.ms.length := List.length_filter_le ..
  have hg6 := gate6 (earlyM (localW P) P.ms) (P.base bF0)
  refine Same15_s (l := (settledE boldW 0 bF0 P (localW P)).map doneE) 3 0 rfl rfl h13 (fun g hg => own_rd hg) (fun g hg => own_rd hg) (by rw [List.length_map]; unfold settledE; rw [runE_len]; omega) fun w14 h14 => ?_
  refine gd_tt (gd_tt (gd_tt ?_))
  refine same15_s (l := openedW boldW 0 bF0 P (localW P)) 4 1 rfl rfl h14 (fun g hg => own_rd hg) (fun g hg => own_rd hg) (by unfold openedW settledE; rw [List.length_map]; omega) fun w15 h15 => ?_
  refine pk_t (gd_tt (gd_tt ?_))
  refine warp_State_s (h15.pick 5 rfl) (gd_tt (gd_tt ?_))
  refine warp_State_s (h15.pick 2 rfl) (gd_tt (eq_t rfl (pk_t (gd_tt (gd_tt ?_)))))
  refine warp_Waiting_s (h15.pick 5 rfl) fun v16 w16 h16 => ?_
  refine gd_tt (lnS_rd h16 0 rfl (fun g hg => own_rd hg) (gd_tt (gd_tt ?_)))
  refine warp_Waiting_s (h16.pick 4 rfl) fun v17 w17 h17 => ?_
  refine gd_tt (lnS_rd h17 0 rfl (fun g hg => own_rd hg) (gd_tt (eq_t rfl (pk_t ?_))))
  exact hk _ (h17.selR [_, _, _, _, _, _, _, _, _] [_] [8] (by decide) rfl)
end Go.Proofs.YtbopajpmadlmhaaGreat
end
