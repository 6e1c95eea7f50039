/- Texts of the proof, joined: WarpS, WarpU, WarpV, WarpX, WarpY, WarpYb. Conditions: none. -/
import Derived.Test.YtbopajpmadlmhaaGreatM5
section
namespace Go.Proofs.YtbopajpmadlmhaaGreat
open Go Go.E
set_option maxRecDepth 100000
variable {e w : World} {L Q : List HP} {K : KV} {S S2 : HP}

def bR0 : Rule := ⟨0, 0, 1, [⟨1, 2, 1⟩]⟩
def bR1 : Rule := ⟨1, 0, 0, [⟨1, 3, 5⟩, ⟨1, 4, 7⟩]⟩
def bF0 : Fed := ⟨1, 2, 0, [bR0, bR1], [1], [0], []⟩
def bF1 : Fed := ⟨1, 1, 0, [], [0], [1], []⟩
def bF2 : Fed := ⟨0, 1, 0, [], [0], [1], []⟩
def boldW : Wd := ⟨[-1, -1], [bF0, bF1, bF2], 200⟩
theorem okRules_b : okRules [bR0, bR1] := ⟨by simp, fun r hr => by
  simp only [List.mem_cons, List.not_mem_nil, or_false] at hr
  rcases hr with rfl | rfl
  · refine ⟨by decide, by decide, by decide, by decide, by decide, by decide, by decide, fun o ho => ?_⟩
    have : o = ⟨1, 2, 1⟩ := List.mem_singleton.1 ho
    rw [this]
    exact ⟨by decide, by decide, by decide, by decide, by decide, by decide⟩
  · refine ⟨by decide, by decide, by decide, by decide, by decide, by decide, by decide, fun o ho => ?_⟩
    have : o = ⟨1, 3, 5⟩ ∨ o = ⟨1, 4, 7⟩ := by simpa [bR1] using ho
    rcases this with rfl | rfl <;> exact ⟨by decide, by decide, by decide, by decide, by decide, by decide⟩, by decide⟩
theorem okRules_00 : okRules [] := ⟨by simp, by simp, by simp⟩
theorem boldW_ok : (checkW boldW).2 = 0 := by
  have ht : treeE [-1, -1] = 0 := by
    unfold treeE
    refine if_pos ⟨by simp, by simp, fun i p hp => ?_⟩
    match i with
    | 0 => simp at hp; omega
    | 1 => simp at hp; omega
    | i + 2 => simp at hp
  have h1 : fedE bF0 2 = 0 := by
    rw [fedE_chain]
    simp [bF0, okRules_b, rising, okInit]
    simp [rulesE, sendsE, bR0, bR1]
  have h2 : fedE bF1 2 = 0 := by
    rw [fedE_chain]
    simp [bF1, okRules_00, rising, rulesE, okInit]
  have h3 : fedE bF2 2 = 0 := by
    rw [fedE_chain]
    simp [bF2, okRules_00, rising, rulesE, okInit]
  unfold checkW boldW
  rw [if_neg (by rw [ht]; decide), if_neg (by simp)]
  show (fedsE 2 0 _).2 = _
  rw [fedsE_cons, if_neg (by rw [h1]; decide), fedsE_cons, if_neg (by rw [h2]; decide), fedsE_cons, if_neg (by rw [h3]; decide)]
  rfl
theorem bw_s (hS : Sat e w Q) (hk : ∀ (x : WdX) (S : HP) w', x.w = boldW → x.wf → x.short → (∀ g, S g → RdWd x g) → Sat e w' (S :: Q) → K (.agg x.cs.toArray) w') : Cl prog 11 #[] w K := by
  refine pacelinelaw15_bold_calls ?_
  unfold pacelinelaw15_bold
  rw [zero_27]
  refine al_s (cs := [.slice none 0 0, .slice none 0 0, .int .i64 0]) hS rfl fun t0 w1 h1 => ?_
  refine bld_s (⟨1, 2, 1⟩ : Out).cs (by kernel_rfl) ?_
  refine bsl_s (⟨1, 2, 1⟩ : Out).cs h1 (by kernel_rfl) fun b3 w2 h2 => ?_
  obtain ⟨r0, hr0⟩ : ∃ r0 : RuleX, r0 = ⟨0, 0, 1, .slice (some ⟨b3, 0, none⟩) 1 1, [⟨1, 2, 1⟩]⟩ := ⟨_, rfl⟩
  refine bld_s [.int .i64 0, .int .i64 0, .int .i64 1, .slice (some ⟨b3, 0, none⟩) 1 1] (by kernel_rfl) ?_
  refine bld_s (⟨1, 3, 5⟩ : Out).cs (by kernel_rfl) (bld_s (⟨1, 4, 7⟩ : Out).cs (by kernel_rfl) ?_)
  refine bsl_s (ints [1, 3, 5, 1, 4, 7]) h2 (by kernel_rfl) fun b7 w3 h3 => ?_
  obtain ⟨r1, hr1⟩ : ∃ r1 : RuleX, r1 = ⟨1, 0, 0, .slice (some ⟨b7, 0, none⟩) 2 2, [⟨1, 3, 5⟩, ⟨1, 4, 7⟩]⟩ := ⟨_, rfl⟩
  refine bld_s [.int .i64 1, .int .i64 0, .int .i64 0, .slice (some ⟨b7, 0, none⟩) 2 2] (by kernel_rfl) ?_
  have hrc : [r0, r1].flatMap RuleX.cs = [.int .i64 0, .int .i64 0, .int .i64 1, .slice (some ⟨b3, 0, none⟩) 1 1, .int .i64 1, .int .i64 0, .int .i64 0, .slice (some ⟨b7, 0, none⟩) 2 2] := by rw [hr0, hr1]; rfl
  refine bsl_s [.int .i64 0, .int .i64 0, .int .i64 1, .slice (some ⟨b3, 0, none⟩) 1 1, .int .i64 1, .int .i64 0, .int .i64 0, .slice (some ⟨b7, 0, none⟩) 2 2] h3 (by kernel_rfl) fun b9 w4 h4 => ?_
  rw [← hrc] at h4
  refine bsl_s (ints [-1, -1]) h4 (by kernel_rfl) fun b10 w5 h5 => ?_
  refine bsl_s (ints [1]) h5 (by kernel_rfl) fun b12 w6 h6 => ?_
  refine bsl_s (ints [0]) h6 (by kernel_rfl) fun b13 w7 h7 => ?_
  obtain ⟨f0, hf0⟩ : ∃ f0 : FedX, f0 = ⟨1, 2, 0, .slice (some ⟨b9, 0, none⟩) 2 2, [r0, r1], .slice (some ⟨b12, 0, none⟩) 1 1, [1], .slice (some ⟨b13, 0, none⟩) 1 1, [0], .slice none 0 0, []⟩ := ⟨_, rfl⟩
  refine bld_s [.int .i64 1, .int .i64 2, .int .i64 0, .slice (some ⟨b9, 0, none⟩) 2 2, .slice (some ⟨b12, 0, none⟩) 1 1, .slice (some ⟨b13, 0, none⟩) 1 1, .slice none 0 0] (by kernel_rfl) ?_
  refine bsl_s (ints [0]) h7 (by kernel_rfl) fun b15 w8 h8 => ?_
  refine bsl_s (ints [1]) h8 (by kernel_rfl) fun b16 w9 h9 => ?_
  obtain ⟨f1, hf1⟩ : ∃ f1 : FedX, f1 = ⟨1, 1, 0, .slice none 0 0, [], .slice (some ⟨b15, 0, none⟩) 1 1, [0], .slice (some ⟨b16, 0, none⟩) 1 1, [1], .slice none 0 0, []⟩ := ⟨_, rfl⟩
  refine bld_s [.int .i64 1, .int .i64 1, .int .i64 0, .slice none 0 0, .slice (some ⟨b15, 0, none⟩) 1 1, .slice (some ⟨b16, 0, none⟩) 1 1, .slice none 0 0] (by kernel_rfl) ?_
  refine bsl_s (ints [0]) h9 (by kernel_rfl) fun b18 w10 h10 => ?_
  refine bsl_s (ints [1]) h10 (by kernel_rfl) fun b19 w11 h11 => ?_
  obtain ⟨f2, hf2⟩ : ∃ f2 : FedX, f2 = ⟨0, 1, 0, .slice none 0 0, [], .slice (some ⟨b18, 0, none⟩) 1 1, [0], .slice (some ⟨b19, 0, none⟩) 1 1, [1], .slice none 0 0, []⟩ := ⟨_, rfl⟩
  refine bld_s [.int .i64 0, .int .i64 1, .int .i64 0, .slice none 0 0, .slice (some ⟨b18, 0, none⟩) 1 1, .slice (some ⟨b19, 0, none⟩) 1 1, .slice none 0 0] (by kernel_rfl) ?_
  obtain ⟨fc, hfc⟩ : ∃ fc : List Value, fc = [.int .i64 1, .int .i64 2, .int .i64 0, .slice (some ⟨b9, 0, none⟩) 2 2, .slice (some ⟨b12, 0, none⟩) 1 1, .slice (some ⟨b13, 0, none⟩) 1 1, .slice none 0 0, .int .i64 1, .int .i64 1, .int .i64 0, .slice none 0 0, .slice (some ⟨b15, 0, none⟩) 1 1, .slice (some ⟨b16, 0, none⟩) 1 1, .slice none 0 0,
    .int .i64 0, .int .i64 1, .int .i64 0, .slice none 0 0, .slice (some ⟨b18, 0, none⟩) 1 1, .slice (some ⟨b19, 0, none⟩) 1 1, .slice none 0 0] := ⟨_, rfl⟩
  have hcs : [f0, f1, f2].flatMap FedX.cs = fc := by rw [hf0, hf1, hf2, hfc]; rfl
  refine bsl_s fc h11 (by rw [hfc]; kernel_rfl) fun b21 w12 h12 => ?_
  rw [← hcs] at h12
  obtain ⟨x, hx⟩ : ∃ x : WdX, x = ⟨.slice (some ⟨b10, 0, none⟩) 2 2, [-1, -1], .slice (some ⟨b21, 0, none⟩) 3 3, [f0, f1, f2], 200⟩ := ⟨_, rfl⟩
  refine bld_s [.slice (some ⟨b10, 0, none⟩) 2 2, .slice (some ⟨b21, 0, none⟩) 3 3, .int .i64 200] (by kernel_rfl) ?_
  have hxc : [.slice (some ⟨b10, 0, none⟩) 2 2, .slice (some ⟨b21, 0, none⟩) 3 3, .int .i64 200] = x.cs := by rw [hx]; rfl
  refine stN_at h12 11 rfl (vs := [.slice (some ⟨b10, 0, none⟩) 2 2, .slice (some ⟨b21, 0, none⟩) 3 3, .int .i64 200]) rfl rfl (by simp) (by simp [flat]) (cs' := [.slice (some ⟨b10, 0, none⟩) 2 2, .slice (some ⟨b21, 0, none⟩) 3 3, .int .i64 200]) (by rfl) fun w13 h13 => ?_
  refine ldN_at h13 11 (vs := [.slice (some ⟨b10, 0, none⟩) 2 2, .slice (some ⟨b21, 0, none⟩) 3 3, .int .i64 200]) rfl (by rfl) rfl ?_
  rw [hxc]
  have h14 : Sat e w13 (sepL [blk b21 66 ([f0, f1, f2].flatMap FedX.cs), blk b19 3 (ints [1]), blk b18 3 (ints [0]), blk b16 3 (ints [1]), blk b15 3 (ints [0]), blk b13 3 (ints [0]), blk b12 3 (ints [1]), blk b10 3 (ints [-1, -1]), blk b9 89 ([r0, r1].flatMap RuleX.cs), blk b7 87 (ints [1, 3, 5, 1, 4, 7]), blk b3 87 (⟨1, 2, 1⟩ : Out).cs] :: Q) :=
    Sat.join (l' := [_, _, _, _, _, _, _, _, _, _, _]) (h13.selR [_, _, _, _, _, _, _, _, _, _, _, _] [_, _, _, _, _, _, _, _, _, _, _] [0, 1, 2, 3, 4, 5, 6, 7, 8, 9, 10] (by decide) rfl)
  refine hk x _ _ ?_ ?_ ?_ ?_ h14
  · rw [hx, hf0, hf1, hf2, hr0, hr1]; rfl
  · rw [hx, hf0, hf1, hf2, hr0, hr1]
    have h0 : ∀ n ∈ [(0 : Int)], i64 n := fun n hn => by rw [List.mem_singleton.1 hn]; rfl
    have h1 : ∀ n ∈ [(1 : Int)], i64 n := fun n hn => by rw [List.mem_singleton.1 hn]; rfl
    refine ⟨fun n hn => by simp only [List.mem_cons, List.not_mem_nil, or_false, or_self] at hn; subst hn; rfl, fun f hf => ?_, rfl⟩
    simp only [List.mem_cons, List.not_mem_nil, or_false] at hf
    rcases hf with rfl | rfl | rfl
    · refine ⟨rfl, rfl, rfl, fun r hr => ?_, h1, h0, by simp⟩
      simp only [List.mem_cons, List.not_mem_nil, or_false] at hr
      rcases hr with rfl | rfl
      · refine ⟨rfl, rfl, rfl, fun o ho => ?_⟩
        have : o = ⟨1, 2, 1⟩ := List.mem_singleton.1 ho
        rw [this]
        exact ⟨rfl, rfl, rfl⟩
      · refine ⟨rfl, rfl, rfl, fun o ho => ?_⟩
        have : o = ⟨1, 3, 5⟩ ∨ o = ⟨1, 4, 7⟩ := by simpa using ho
        rcases this with rfl | rfl <;> exact ⟨rfl, rfl, rfl⟩
    · exact ⟨rfl, rfl, rfl, by simp, h0, h1, by simp⟩
    · exact ⟨rfl, rfl, rfl, by simp, h0, h1, by simp⟩
  · rw [hx, hf0, hf1, hf2, hr0, hr1]
    refine ⟨by simp, by simp, fun f hf => ?_⟩
    simp only [List.mem_cons, List.not_mem_nil, or_false] at hf
    rcases hf with rfl | rfl | rfl
    · refine ⟨by simp, by simp, by simp, by simp, fun r hr => ?_⟩
      simp only [List.mem_cons, List.not_mem_nil, or_false] at hr
      rcases hr with rfl | rfl
      · show [(⟨1, 2, 1⟩ : Out)].length ≤ _
        simp
      · show [(⟨1, 3, 5⟩ : Out), ⟨1, 4, 7⟩].length ≤ _
        simp
    · exact ⟨by simp, by simp, by simp, by simp, by simp⟩
    · exact ⟨by simp, by simp, by simp, by simp, by simp⟩
  · intro g hg
    obtain ⟨g0, k0, s0⟩ := sepL_get (i := 0) hg rfl
    obtain ⟨g1, k1, s1⟩ := sepL_get (i := 1) hg rfl
    obtain ⟨g2, k2, s2⟩ := sepL_get (i := 2) hg rfl
    obtain ⟨g3, k3, s3⟩ := sepL_get (i := 3) hg rfl
    obtain ⟨g4, k4, s4⟩ := sepL_get (i := 4) hg rfl
    obtain ⟨g5, k5, s5⟩ := sepL_get (i := 5) hg rfl
    obtain ⟨g6, k6, s6⟩ := sepL_get (i := 6) hg rfl
    obtain ⟨g7, k7, s7⟩ := sepL_get (i := 7) hg rfl
    obtain ⟨g8, k8, s8⟩ := sepL_get (i := 8) hg rfl
    obtain ⟨g9, k9, s9⟩ := sepL_get (i := 9) hg rfl
    obtain ⟨g10, k10, s10⟩ := sepL_get (i := 10) hg rfl
    have nilR : ∀ {α : Type} (size : Nat) (f : α → List Value), rdS size f (.slice none 0 0) [] g := fun _ _ => ⟨none, 0, rfl, Nat.le_refl _, fun h => absurd h (by simp)⟩
    subst hx
    refine ⟨rdS_up s7 (blk_rdn (f := intsK .i64) [-1, -1] rfl (Nat.le_refl _) g7 k7), rdS_up s0 (blk_rdn (f := FedX.cs) [f0, f1, f2] rfl (Nat.le_refl _) g0 k0), fun f hf => ?_⟩
    simp only [List.mem_cons, List.not_mem_nil, or_false] at hf
    rcases hf with rfl | rfl | rfl
    · subst hf0
      refine ⟨⟨rdS_up s8 (blk_rdn (f := RuleX.cs) [r0, r1] rfl (Nat.le_refl _) g8 k8), fun r hr => ?_⟩, rdS_up s6 (blk_rdn (f := intsK .i64) [1] rfl (Nat.le_refl _) g6 k6), rdS_up s5 (blk_rdn (f := intsK .i64) [0] rfl (Nat.le_refl _) g5 k5), nilR _ _⟩
      simp only [List.mem_cons, List.not_mem_nil, or_false] at hr
      rcases hr with rfl | rfl
      · subst hr0
        exact rdS_up s10 (blk_rdn (f := Out.cs) [⟨1, 2, 1⟩] rfl (Nat.le_refl _) g10 k10)
      · subst hr1
        exact rdS_up s9 (blk_rdn (f := Out.cs) [⟨1, 3, 5⟩, ⟨1, 4, 7⟩] rfl (Nat.le_refl _) g9 k9)
    · subst hf1
      exact ⟨⟨nilR _ _, by simp⟩, rdS_up s4 (blk_rdn (f := intsK .i64) [0] rfl (Nat.le_refl _) g4 k4), rdS_up s3 (blk_rdn (f := intsK .i64) [1] rfl (Nat.le_refl _) g3 k3), nilR _ _⟩
    · subst hf2
      exact ⟨⟨nilR _ _, by simp⟩, rdS_up s2 (blk_rdn (f := intsK .i64) [0] rfl (Nat.le_refl _) g2 k2), rdS_up s1 (blk_rdn (f := intsK .i64) [1] rfl (Nat.le_refl _) g1 k1), nilR _ _⟩
abbrev IsB (r : Nat) (N : WN) (k : Nat) : HP := IsWarp r boldW 0 bF0 N k
def B0 : WN := ⟨[], [], [], 0, [-1, -1, 0]⟩
theorem newB_s {x : WdX} {S : HP} (hx : x.w = boldW) (hwf : x.wf) (hs : x.short) (hr : ∀ g, S g → RdWd x g) (hS : Sat e w (S :: Q)) (hk : ∀ r w', Sat e w' (IsB r B0 0 :: S :: Q) → K (.tuple #[.pointer (some ⟨r, 0, none⟩), .int .i64 0]) w') : Cl prog 12 #[.agg x.cs.toArray, .int .i64 0] w K := by
  refine warp_New_s (x := x) 0 rfl hS hr hwf hs (fun hbad => absurd (by rw [hx]; exact boldW_ok) hbad) (fun _ hno => ?_) (fun _ n fd hn hfd _ r w3 h3 => ?_)
  · rw [hx] at hno
    have h3 : warpMay boldW 0 = some bF0 := rfl
    rw [h3] at hno
    cases hno
  · have hn0 : n = 0 := by omega
    subst hn0
    rw [hx] at hfd h3
    have hfd' : fd = bF0 := (Option.some.inj hfd).symm
    subst hfd'
    exact hk r _ h3
theorem startB_s (hS : Sat e w Q) (hk : ∀ r w', Sat e w' (IsB r B0 0 :: Q) → K (.tuple #[.pointer (some ⟨r, 0, none⟩), .int .i64 0]) w') : Cl prog 11 #[] w fun t w => Cl prog 12 #[t, .int .i64 0] w K :=
  bw_s hS fun _ _ _ hx hwf hs hr h2 => newB_s hx hwf hs hr h2 fun r w3 h3 => hk r w3 (h3.swap.drop)
def itM (t j s b : Int) : NItem := ⟨0, ⟨⟨t, j, s⟩, 0, 0, b⟩, 0⟩
abbrev hearB (N : WN) (j : Int) (i : NItem) : HR := hearW boldW 0 bF0 N j i
theorem shown15_s (hS : Sat e w Q) (hk : ∀ w', Sat e w' Q → K (.bool true) w') : Cl prog 10 #[] w K := by
  refine pacelinelaw15_shown_calls ?_
  unfold pacelinelaw15_shown
  refine startB_s hS fun r w1 h1 => ?_
  refine xt_02 (xt_12 (ne_f rfl (gd_ff (gd_ff (bnp_s _ (pk_f (iff_f ?_)))))))
  refine bld_s (ints [9, 1, 0]) (by kernel_rfl) (bld_s (ints [9, 1, 0, 0, 0, 0]) (by kernel_rfl) (bld_s (itM 9 1 0 0).cs (by kernel_rfl) ?_))
  refine warp_Hear_s (i := itM 9 1 0 0) (by show In64 9; unfold In64; omega) h1 fun v2 w2 h2 => ?_
  obtain ⟨N1, hN1⟩ : ∃ N1, N1 = (hearB B0 1 (itM 9 1 0 0)).N := ⟨_, rfl⟩
  rw [← hN1] at h2
  have e1 : stepWE boldW 0 bF0 N1 = 0 := by rw [hN1]; kernel_rfl
  refine warp_Step_s (by omega) h2.drop (fun h => absurd e1 h) fun _ v3 w3 h3 => ?_
  obtain ⟨m0, hm0⟩ : ∃ m0 : Msg, m0 = ⟨⟨11, 0, 0⟩, 1, 1, 1⟩ := ⟨_, rfl⟩
  have e2 : stepI boldW (stepEn boldW 0 bF0 N1) = [plainI m0] := by rw [hN1, hm0]; kernel_rfl
  rw [e2] at h3
  refine xt_03 (xt_13 (xt_23 ?_))
  rw [zero_45]
  refine al_s (cs := Done.zero.cs) h3 rfl fun t3 w4 h4 => ?_
  refine stN_at h4 0 rfl (vs := (doneE (stepEn boldW 0 bF0 N1)).cs) rfl rfl (Nat.le_of_ble_eq_true rfl) (ints_flat _) (cs' := (doneE (stepEn boldW 0 bF0 N1)).cs) (by rfl) fun w5 h5 => ?_
  replace h5 := h5.drop
  refine bld_s (ints [7, 1, 1]) (by kernel_rfl) (bld_s (ints [7, 1, 1, 0, 0, 0]) (by kernel_rfl) (bld_s (itM 7 1 1 0).cs (by kernel_rfl) ?_))
  refine warp_Hear_s (i := itM 7 1 1 0) (by show In64 7; unfold In64; omega) h5.swap fun v6 w6 h6 => ?_
  have e3 : (hearB (stepWN N1) 1 (itM 7 1 1 0)).e = 0 := by rw [hN1]; kernel_rfl
  have e4 : (hearB (stepWN N1) 1 (itM 7 1 1 0)).out = [antiI m0] := by rw [hN1, hm0]; kernel_rfl
  have e5 : (hearB (stepWN N1) 1 (itM 7 1 1 0)).N.q.length = 2 := by rw [hN1]; kernel_rfl
  rw [e3]
  rw [e4] at h6
  generalize (hearB (stepWN N1) 1 (itM 7 1 1 0)).N = N3 at h6 e5
  refine xt_02 (xt_12 (dr_s h6 fun w7 h7 => ?_))
  refine eq_t rfl (gd_tt (gd_tt (eq_t rfl (pk_t ?_))))
  refine gd_tt (gd_tt (lnS_rd h7 2 rfl (fun g hg => own_rd hg) (gd_tt (eq_t rfl (pk_t ?_)))))
  refine gd_tt (gd_tt (lnS_rd h7 0 rfl (fun g hg => own_rd hg) (gd_tt (eq_t rfl (pk_t ?_)))))
  refine gd_tt (gd_tt ?_)
  refine ixS_rd (j := 0) h7 0 rfl (fun g hg => own_rd hg) (fun _ => rfl) rfl fun p hp => ?_
  refine gd_tt (fld_of hp fun p1 hp1 => gd_tt (ld1_of h7 0 rfl hp1 (v := .int .i64 1) rfl (gd_tt (eq_t rfl (pk_t ?_)))))
  refine gd_tt (gd_tt ?_)
  refine ixS_rd (j := 0) h7 0 rfl (fun g hg => own_rd hg) (fun _ => rfl) rfl fun p2 hp2 => ?_
  refine gd_tt (fld_of hp2 fun p3 hp3 => gd_tt (ldN_sub h7 0 rfl hp3 (us := m0.cs) (by rw [hm0]; rfl) rfl ?_))
  refine gd_tt (gd_tt ?_)
  refine ixS_rd (j := 0) h7 2 rfl (fun g hg => own_rd hg) (fun _ => rfl) rfl fun p4 hp4 => ?_
  refine gd_tt (fld_of hp4 fun p5 hp5 => gd_tt (ldN_sub h7 2 rfl hp5 (us := m0.cs) (by rw [hm0]; rfl) rfl ?_))
  refine gd_tt (bO_eq (ns := m0.ns) (ms := m0.ns) eqT_37 agg_37 egt_37 (by decide) rfl ?_)
  rw [beq_self_eq_true]
  refine pk_t (gd_tt (gd_tt ?_))
  refine warp_Waiting_s (h7.pick 1 rfl) fun v8 w8 h8 => ?_
  refine gd_tt (lnS_rd h8 0 rfl (fun g hg => own_rd hg) (gd_tt (eq_t (by rw [e5]; rfl) (pk_t ?_))))
  exact hk _ (h8.selR [_, _, _, _] [] [] (by decide) rfl)
end Go.Proofs.YtbopajpmadlmhaaGreat
end
section
namespace Go.Proofs.YtbopajpmadlmhaaGreat
open Go Go.E
set_option maxRecDepth 100000
variable {e w : World} {L Q R : List HP} {K : KV} {S S2 : HP}

theorem wf8p {n : Int} (h : (Lit.int .u8 n).wf = true) : 0 ≤ n ∧ n ≤ 255 := by
  simp only [Lit.wf, IntKind.min, IntKind.max, IntKind.signed, IntKind.bits] at h
  simp at h
  omega
structure BInv (all : List Msg) (N : WN) : Prop where
  old : N.old = []
  fl : N.fl = 0
  clk : N.clk = [-1, -1, 0]
  line : N.ms ++ N.q = all
  cls : ∀ m ∈ all, m.Class = 0
theorem BInv.init : BInv [] B0 := ⟨rfl, rfl, rfl, rfl, fun m h => by cases h⟩
def heardB (N : WN) (m : Msg) : WN := ⟨N.old, lowsM m.key N.ms, insK m (highsM m.key N.ms ++ N.q), N.fl, N.clk⟩
theorem BInv.at1 {all : List Msg} {N : WN} (h : BInv all N) : N.at' 1 = -1 := by unfold WN.at'; rw [h.clk]; rfl
theorem BInv.hear {all : List Msg} {N : WN} {k : Nat} (h : BInv all N) (hW : WOk boldW 0 bF0 N k) {m : Msg} {c : Int} (hm : 0 ≤ m.key.T) (hc : m.Class = 0) (hne : ∀ y ∈ all, y.key ≠ m.key) (hl : all.length < 64) :
    hearB N 1 ⟨0, m, c⟩ = ⟨0, undoI boldW (goneE boldW 0 bF0 N m.key), heardB N m⟩ ∧ BInv (insK m all) (heardB N m) := by
  have hline := hW.line
  have hlen : N.ms.length + N.q.length = all.length := by rw [← h.line, List.length_append]
  have hh : (highsM m.key N.ms).length ≤ N.ms.length := List.length_filter_le ..
  constructor
  · unfold hearB
    rw [hear_args (by refine ⟨by omega, ?_, by omega⟩; show (1 : Int) < ((3 : Nat) : Int); omega)]
    show (if m.key.T < N.fl ∨ (0 ≤ N.at' 1 ∧ m.key.T < N.at' 1) then _ else if hasK m.key (N.ms ++ N.q) = true then _ else if 64 ≤ N.q.length + (highsM m.key N.ms).length then _ else _) = _
    have h1 := h.at1
    have h2 := h.fl
    rw [if_neg (by omega), h.line, if_neg (by rw [hasK_no.2 hne]; decide), if_neg (by omega)]
    rfl
  · refine ⟨h.old, h.fl, h.clk, ?_, fun y hy => ?_⟩
    · show lowsM m.key N.ms ++ insK m (highsM m.key N.ms ++ N.q) = _
      rw [line_ins hline, h.line]
    · rcases insK_mem.1 hy with rfl | hy
      · exact hc
      · exact h.cls y hy
theorem BInv.step {all : List Msg} {N : WN} (h : BInv all N) (he : stepWE boldW 0 bF0 N = 0) : BInv all (stepWN N) := by
  obtain ⟨⟨m, r, hq, _⟩, _, _⟩ := stepE_ok he
  rw [step_line hq]
  refine ⟨h.old, h.fl, h.clk, ?_, h.cls⟩
  rw [← h.line, hq]
  show (N.ms ++ [m]) ++ r = _
  simp
theorem endB : ∀ (l : List Msg) (s n : Int), (∀ m ∈ l, m.Class = 0) → s = 0 ∨ s = 1 → (endE bF0 (s, n) l).1 = (s + l.length) % 2
  | [], s, n, _, hs => by
    show s = (s + ((0 : Nat) : Int)) % 2
    omega
  | m :: l, s, n, hc, hs => by
    have h0 := hc m (List.mem_cons_self ..)
    rcases hs with rfl | rfl
    · have e1 : nextB bF0 (0, n) m = (1, n + 1) := by unfold nextB; rw [h0]; rfl
      show (endE bF0 (nextB bF0 (0, n) m) l).1 = _
      rw [e1, endB l 1 (n + 1) (fun m hm => hc m (List.mem_cons_of_mem _ hm)) (.inr rfl), List.length_cons]
      omega
    · have e1 : nextB bF0 (1, n) m = (0, n + 2) := by unfold nextB; rw [h0]; rfl
      show (endE bF0 (nextB bF0 (1, n) m) l).1 = _
      rw [e1, endB l 0 (n + 2) (fun m hm => hc m (List.mem_cons_of_mem _ hm)) (.inl rfl), List.length_cons]
      omega
theorem BInv.state {all : List Msg} {N : WN} (h : BInv all N) : (N.now bF0).1 = (N.ms.length : Int) % 2 := by
  unfold WN.now WN.base
  rw [h.old]
  have := endB N.ms 0 0 (fun m hm => h.cls m (by rw [← h.line]; exact List.mem_append_left _ hm)) (.inl rfl)
  rw [Int.zero_add] at this
  exact this
theorem ins_place {l : List Msg} {m : Msg} {p : Nat} (h : Place l m p) (hu : Upk l) (hne : ∀ y ∈ l, y.key ≠ m.key) : insAt l m p = insK m l :=
  up_unique (h.up hu hne) (insK_up hu hne) ((insAt_perm l m p).trans (((insK_perm m l).trans (List.perm_append_singleton m l).symm).symm))
theorem wrapU8 {n : Int} (h : 0 ≤ n ∧ n ≤ 255) : IntKind.i64.wrap n = n := wrap_i64 (by omega) (by omega)
end Go.Proofs.YtbopajpmadlmhaaGreat
end
section
namespace Go.Proofs.YtbopajpmadlmhaaGreat
open Go Go.E
set_option maxRecDepth 100000
variable {e w : World} {L Q R : List HP} {K : KV} {S S2 : HP}

theorem leastT_ge (l : List Int) : 0 ≤ leastT l := by
  rcases (leastT_spec l).2.2 with h | ⟨x, _, h⟩
  · rw [h]; decide
  · rw [h]; exact (clampT_le x).1
def boundI : NItem := ⟨2, ⟨⟨Inf, 0, 0⟩, 0, 0, 0⟩, 0⟩
def boundedB (N : WN) : WN := ⟨N.old, N.ms, N.q, N.fl, [-1, -1, Inf]⟩
theorem BInv.bound {all : List Msg} {N : WN} (h : BInv all N) : hearB N 2 boundI = ⟨0, [], boundedB N⟩ := by
  unfold hearB
  rw [hear_args (by refine ⟨by omega, ?_, by omega⟩; show (2 : Int) < ((3 : Nat) : Int); omega)]
  have h2 : N.at' 2 = 0 := by unfold WN.at'; rw [h.clk]; rfl
  show (if N.at' 2 < 0 ∨ validT Inf = false then _ else if Inf < N.at' 2 then _ else _) = _
  rw [h2, if_neg (by decide), if_neg (by decide), h.clk]
  rfl
theorem hear_early {N : WN} (h1 : N.at' 1 = -1) {m : Msg} {c : Int} (hm : m.key.T < N.fl) : hearB N 1 ⟨0, m, c⟩ = ⟨110, [], N⟩ ∧ hearB N 1 ⟨1, m, c⟩ = ⟨110, [], N⟩ := by
  have hj : (0 : Int) ≤ 1 ∧ (1 : Int) < boldW.Feds.length ∧ (1 : Int) ≠ ((0 : Nat) : Int) := ⟨by omega, by show (1 : Int) < ((3 : Nat) : Int); omega, by omega⟩
  constructor
  · unfold hearB
    rw [hear_args hj]
    show (if m.key.T < N.fl ∨ (0 ≤ N.at' 1 ∧ m.key.T < N.at' 1) then _ else _) = _
    rw [if_pos (.inl hm)]
  · unfold hearB
    rw [hear_args hj]
    show (if 0 ≤ N.at' 1 then _ else if m.key.T < N.fl then _ else _) = _
    rw [if_neg (by omega), if_pos hm]
theorem BInv.twice {all : List Msg} {N : WN} (h : BInv all N) {m : Msg} {c : Int} (hm : 0 ≤ m.key.T) (hin : ∃ y ∈ all, y.key = m.key) : hearB N 1 ⟨0, m, c⟩ = ⟨3, [], N⟩ := by
  unfold hearB
  rw [hear_args (by refine ⟨by omega, ?_, by omega⟩; show (1 : Int) < ((3 : Nat) : Int); omega)]
  show (if m.key.T < N.fl ∨ (0 ≤ N.at' 1 ∧ m.key.T < N.at' 1) then _ else if hasK m.key (N.ms ++ N.q) = true then _ else _) = _
  have h1 := h.at1
  have h2 := h.fl
  rw [if_neg (by omega), h.line, if_pos (hasK_iff.2 hin)]
theorem commit_local {all : List Msg} {N : WN} (h : BInv all N) : commitWE (boundedB N) (localW (boundedB N)) = 0 := by
  have h1 : 0 ≤ localW (boundedB N) := leastT_ge _
  have h2 : (boundedB N).fl = 0 := h.fl
  unfold commitWE
  rw [if_neg (by omega), if_neg (by omega)]
def mT (y j b : Int) : Msg := ⟨⟨y, 1, j⟩, 0, 0, b⟩
end Go.Proofs.YtbopajpmadlmhaaGreat
end
section
namespace Go.Proofs.YtbopajpmadlmhaaGreat
open Go Go.E
set_option maxRecDepth 100000
variable {e w : World} {L Q R : List HP} {K : KV} {S S2 : HP}

theorem same15_s {u v : Value} {l : List Msg} (i j : Nat) (hi : L[i]? = some S) (hj : L[j]? = some S2) (hS : Sat e w L) (hr : ∀ g, S g → rdS 6 Msg.cs u l g) (hr2 : ∀ g, S2 g → rdS 6 Msg.cs v l g) (hl : l.length ≤ 1000000)
    (hk : ∀ w', Sat e w' L → K (.bool true) w') : Cl prog 23 #[u, v] w K := by
  refine pacelinelaw15_same_calls ?_
  unfold pacelinelaw15_same
  refine lnS_rd hS i hi hr ?_
  refine lnS_rd hS j hj hr2 ?_
  refine ne_f rfl (iff_f ?_)
  refine lpi1 (fun q t w => ∃ n : Nat, n ≤ l.length ∧ t = .int .i64 n ∧ q = l.length - n ∧ Sat e w L) l.length ⟨0, Nat.zero_le _, rfl, rfl, hS⟩ ?_
  rintro q _ w g ⟨n, hn, rfl, rfl, h1⟩ hg
  refine lnS_rd h1 i hi hr ?_
  refine lt_c (fun c => iff_t ?_) (fun c => iff_f (hk _ h1))
  obtain ⟨y, hy⟩ := get_of_lt (l := l) (j := n) (by omega)
  refine dr_s h1 fun w2 h2 => ?_
  refine ixS_rd h2 i hi hr (fun _ => rfl) hy fun p hp => ldN_of h2 i hi hp rfl ?_
  refine ixS_rd h2 j hj hr2 (fun _ => rfl) hy fun p hp => ldN_of h2 j hj hp rfl ?_
  refine bO_ne (ns := y.ns) (ms := y.ns) eqT_37 agg_37 egt_37 (by decide) rfl ?_
  rw [beq_self_eq_true]
  refine iff_f (inc_s (by omega) ?_)
  exact hg _ _ _ (by omega) ⟨n + 1, by omega, rfl, rfl, h2⟩
theorem Same15_s {u v : Value} {l : List Done} (i j : Nat) (hi : L[i]? = some S) (hj : L[j]? = some S2) (hS : Sat e w L) (hr : ∀ g, S g → rdS 7 Done.cs u l g) (hr2 : ∀ g, S2 g → rdS 7 Done.cs v l g) (hl : l.length ≤ 1000000)
    (hk : ∀ w', Sat e w' L → K (.bool true) w') : Cl prog 22 #[u, v] w K := by
  refine pacelineref09_Same_calls ?_
  unfold pacelineref09_Same
  refine lnS_rd hS i hi hr ?_
  refine lnS_rd hS j hj hr2 ?_
  refine ne_f rfl (iff_f ?_)
  refine lpi1 (fun q t w => ∃ n : Nat, n ≤ l.length ∧ t = .int .i64 n ∧ q = l.length - n ∧ Sat e w L) l.length ⟨0, Nat.zero_le _, rfl, rfl, hS⟩ ?_
  rintro q _ w g ⟨n, hn, rfl, rfl, h1⟩ hg
  refine lnS_rd h1 i hi hr ?_
  refine lt_c (fun c => iff_t ?_) (fun c => iff_f (hk _ h1))
  obtain ⟨y, hy⟩ := get_of_lt (l := l) (j := n) (by omega)
  refine dr_s h1 fun w2 h2 => ?_
  refine ixS_rd h2 i hi hr (fun _ => rfl) hy fun p hp => ldN_of h2 i hi hp rfl ?_
  refine ixS_rd h2 j hj hr2 (fun _ => rfl) hy fun p hp => ldN_of h2 j hj hp rfl ?_
  refine bO_ne (ns := y.ns) (ms := y.ns) eqT_45 agg_45 egt_45 (by decide) rfl ?_
  rw [beq_self_eq_true]
  refine iff_f (inc_s (by omega) ?_)
  exact hg _ _ _ (by omega) ⟨n + 1, by omega, rfl, rfl, h2⟩

/-! ### In plain words -/
theorem hj1 : (0 : Int) ≤ 1 ∧ (1 : Int) < boldW.Feds.length ∧ (1 : Int) ≠ ((0 : Nat) : Int) := ⟨by omega, by show (1 : Int) < ((3 : Nat) : Int); omega, by omega⟩
theorem hasK_app (k : Key) (a b : List Msg) : hasK k (a ++ b) = (hasK k a || hasK k b) := List.any_append
theorem BInv.none {all : List Msg} {N : WN} (h : BInv all N) {m : Msg} {c : Int} (hm : 0 ≤ m.key.T) (hin : hasK m.key all = false) : hearB N 1 ⟨1, m, c⟩ = ⟨4, [], N⟩ := by
  have h1 := h.at1
  have h2 := h.fl
  rw [← h.line, hasK_app] at hin
  have hq : hasK m.key N.q = false := by cases hq : hasK m.key N.q with | false => rfl | true => rw [hq, Bool.or_true] at hin; cases hin
  have hms : hasK m.key N.ms = false := by cases hms : hasK m.key N.ms with | false => rfl | true => rw [hms] at hin; cases hin
  unfold hearB
  rw [hear_args hj1]
  rw [if_neg (show ¬ (1 : Int) = 2 by decide), if_neg (show ¬ (1 : Int) = 0 by decide), if_pos rfl]
  show (if 0 ≤ N.at' 1 then _ else if m.key.T < N.fl then _ else if hasK m.key N.q = true then _ else if hasK m.key N.ms = false then _ else _) = _
  rw [if_neg (by omega), if_neg (by omega), hq, if_neg (by decide), hms, if_pos rfl]
theorem outs6 (b : Int × Int) (m : Msg) : (entB boldW 0 bF0 b m).outs.length ≤ 6 := by
  have h1 := spreadL_len boldW.Parents boldW.Feds (0 : Nat) b.2 m.key.T m.Body (stepR bF0.Rules b.1 m.Class).2
  have h2 : (stepR bF0.Rules b.1 m.Class).2.length ≤ 2 := by
    rcases stepR_cases bF0.Rules b.1 m.Class with ⟨r, hr, _, _, he⟩ | ⟨_, he⟩
    · rw [he]
      have hr' : r = bR0 ∨ r = bR1 := by simpa [bF0] using hr
      rcases hr' with rfl | rfl <;> simp [bR0, bR1]
    · rw [he]; simp
  have h3 : (stepR bF0.Rules b.1 m.Class).2.length * boldW.Feds.length ≤ 2 * 3 := Nat.mul_le_mul h2 (Nat.le_refl 3)
  exact Nat.le_trans h1 h3
theorem gate6 : ∀ (l : List Msg) (b : Int × Int), (gateE boldW (runE boldW 0 bF0 b l)).length ≤ 6 * l.length
  | [], _ => Nat.le_refl _
  | m :: l, b => by
    have h1 := gate6 l (nextB bF0 b m)
    have h2 : (keptE boldW (entB boldW 0 bF0 b m)).length ≤ 6 := by
      unfold keptE
      rw [List.length_map]
      exact Nat.le_trans (List.length_filter_le _ _) (outs6 b m)
    show (keptE boldW (entB boldW 0 bF0 b m) ++ gateE boldW (runE boldW 0 bF0 (nextB bF0 b m) l)).length ≤ _
    rw [List.length_append, List.length_cons]
    omega
/-- All steps are done. -/
def DoneB (N : WN) : Prop := ∀ m ∈ N.q, 200 ≤ m.key.T
theorem step_done {all : List Msg} {N : WN} {k : Nat} (h : BInv all N) (hW : WOk boldW 0 bF0 N k) (hl : all.length ≤ 30) : DoneB N ∨ stepWE boldW 0 bF0 N = 0 := by
  have hlen : N.ms.length + N.q.length = all.length := by rw [← h.line, List.length_append]
  have hg : (gateE boldW (N.past boldW 0 bF0)).length ≤ 6 * N.ms.length := gate6 _ _
  cases hq : N.q with
  | nil => left; intro m hm; rw [hq] at hm; cases hm
  | cons m r =>
    by_cases ht : m.key.T < 200
    · right
      unfold stepWE
      rw [if_neg (fun hn => hn ⟨by rw [hq]; rfl, by rw [hq]; exact ht⟩), if_neg (by omega)]
    · left
      intro y hy
      have hu := hW.upq
      rw [hq] at hy hu
      rcases List.mem_cons.1 hy with rfl | hy
      · omega
      · have := (List.pairwise_cons.1 hu).1 y hy
        unfold KeyLt at this
        omega
theorem step_more {all : List Msg} {N N' : WN} {k i : Nat} (h : BInv all N) (hW : WOk boldW 0 bF0 N k) (hl : all.length ≤ 30) (hd : DoneB N ∨ i ≤ N.ms.length) (hc : N' = N ∨ (stepWE boldW 0 bF0 N = 0 ∧ N' = stepWN N)) (hn : stepWE boldW 0 bF0 N = 0 → N' = stepWN N) : DoneB N' ∨ i + 1 ≤ N'.ms.length := by
  rcases step_done h hW hl with h1 | h1
  · rcases hc with rfl | ⟨_, rfl⟩
    · exact .inl h1
    · left
      intro m hm
      exact h1 m (List.mem_of_mem_tail hm)
  · rw [hn h1]
    rcases hd with hd | hd
    · left
      intro m hm
      exact hd m (List.mem_of_mem_tail hm)
    · right
      show i + 1 ≤ (N.ms ++ [hdM N.q]).length
      rw [List.length_append, List.length_singleton]
      omega
theorem done_end {all : List Msg} {N : WN} {i : Nat} (h : BInv all N) (hd : DoneB N ∨ i ≤ N.ms.length) (hi : all.length ≤ i) : DoneB N := by
  rcases hd with hd | hd
  · exact hd
  · have hlen : N.ms.length + N.q.length = all.length := by rw [← h.line, List.length_append]
    have : N.q = [] := List.length_eq_zero_iff.1 (by omega)
    intro m hm
    rw [this] at hm
    cases hm
end Go.Proofs.YtbopajpmadlmhaaGreat
end
section
namespace Go.Proofs.YtbopajpmadlmhaaGreat
open Go Go.E
set_option maxRecDepth 100000
variable {e w : World} {L Q R : List HP} {K : KV} {S S2 : HP}

/-! ### What is left of what was sent -/
def takenL : List Msg → List NItem → Option (List Msg)
  | left, [] => some left
  | left, i :: r => if i.Kind = 0 then takenL (left ++ [i.m]) r else if i.m ∈ left then takenL (left.erase i.m) r else none
theorem takenL_plain : ∀ (ms left : List Msg), takenL left (ms.map plainI) = some (left ++ ms)
  | [], left => by rw [List.append_nil]; rfl
  | m :: ms, left => by
    show takenL (left ++ [m]) (ms.map plainI) = _
    rw [takenL_plain ms, List.append_assoc]
    rfl
theorem takenL_anti : ∀ (Y' X Y : List Msg), Y'.Perm Y → (X ++ Y).Nodup → takenL (X ++ Y) (Y'.map antiI) = some X
  | [], X, Y, hp, _ => by
    rw [List.nil_perm.1 hp, List.append_nil]
    rfl
  | m :: Y', X, Y, hp, hn => by
    have hm : m ∈ Y := hp.mem_iff.1 (List.mem_cons_self ..)
    have hx : m ∉ X := fun h => (List.nodup_append.1 hn).2.2 m h m hm rfl
    show (if (1 : Int) = 0 then _ else if m ∈ X ++ Y then takenL ((X ++ Y).erase m) (Y'.map antiI) else none) = _
    rw [if_neg (by decide), if_pos (List.mem_append_right _ hm), List.erase_append_right _ hx]
    refine takenL_anti Y' X (Y.erase m) ?_ ?_
    · have := hp.erase m
      rwa [List.erase_cons_head] at this
    · exact hn.sublist ((List.Sublist.refl X).append List.erase_sublist)
theorem taken_s {u v : Value} {left left' : List Msg} {more : List NItem} (i : Nat) (hi : L[i]? = some S) (ht : takenL left more = some left') (hl : left.length + more.length ≤ 100000) (hr : ∀ g, S g → rdS 8 NItem.cs v more g)
    (hS : Sat e w (ownS 37 6 Msg.cs u left :: L)) (hk : ∀ u' w', Sat e w' (ownS 37 6 Msg.cs u' left' :: L) → K (.tuple #[u', .bool true]) w') : Cl prog 24 #[u, v] w K := by
  refine pacelinelaw15_taken_calls ?_
  unfold pacelinelaw15_taken
  refine lpi2 (fun mm t0 t6 w => ∃ (j : Nat) (cur : List Msg), j ≤ more.length ∧ t6 = .int .i64 j ∧ mm = more.length - j ∧ takenL cur (more.drop j) = some left' ∧ cur.length ≤ left.length + j ∧ Sat e w (ownS 37 6 Msg.cs t0 cur :: L)) more.length
    ⟨0, left, Nat.zero_le _, rfl, rfl, ht, Nat.le_refl _, hS⟩ ?_
  rintro mm t0 _ w g1 ⟨j, cur, hj, rfl, rfl, htk, hcl, h1⟩ hg1
  have hi1 : ∀ {X : HP}, (X :: L)[i + 1]? = some S := fun {X} => by simpa using hi
  have hi2 : ∀ {X Y : HP}, (X :: Y :: L)[i + 2]? = some S := fun {X Y} => by simpa using hi
  refine lnS_rd h1 (i + 1) hi1 hr ?_
  refine lt_c (fun c => iff_t ?_) (fun c => iff_f ?_)
  · obtain ⟨x, hx⟩ := get_of_lt (l := more) (j := j) (by omega)
    rw [drop_cons hx] at htk
    replace htk : (if x.Kind = 0 then takenL (cur ++ [x.m]) (more.drop (j + 1)) else if x.m ∈ cur then takenL (cur.erase x.m) (more.drop (j + 1)) else none) = some left' := htk
    refine J1.cut (fun t0' w => ∃ cur', takenL cur' (more.drop (j + 1)) = some left' ∧ cur'.length ≤ left.length + j + 1 ∧ Sat e w (ownS 37 6 Msg.cs t0' cur' :: L)) (fun k2 hk2 => ?_) ?_
    · refine ixS_rd h1 (i + 1) hi1 hr (fun _ => rfl) hx fun a ha => fld_of ha fun a1 ha1 => ld1_of h1 (i + 1) hi1 ha1 (v := .int .i64 x.Kind) rfl ?_
      refine eq_c (fun c1 => iff_t ?_) (fun c1 => iff_f ?_)
      · rw [if_pos c1] at htk
        refine ixS_rd h1 (i + 1) hi1 hr (fun _ => rfl) hx fun b hb => fld_of hb fun b1 hb1 => ldN_sub h1 (i + 1) hi1 hb1 (us := x.m.cs) rfl rfl ?_
        refine push1 te_33 (f := Msg.cs) (fun _ => rfl) (fun _ => ints_flat _) h1 (x := x.m) rfl (by omega) fun v' w2 h2 => ?_
        refine hk2 _ _ ⟨cur ++ [x.m], htk, by rw [List.length_append, List.length_singleton]; omega, ?_⟩
        exact h2
      · rw [if_neg c1] at htk
        have hin : x.m ∈ cur := by
          by_cases h : x.m ∈ cur
          · exact h
          · rw [if_neg h] at htk; cases htk
        rw [if_pos hin] at htk
        refine bsl0 h1 Msg.cs fun v30 w2 h2 => ?_
        refine lpi3 (fun mm t7 t8 t9 w => ∃ a : Nat, a ≤ cur.length ∧ t9 = .int .i64 a ∧ mm = cur.length - a ∧ t8 = .bool (decide (x.m ∈ cur.take a)) ∧ Sat e w (ownS 37 6 Msg.cs t7 ((cur.take a).erase x.m) :: ownS 37 6 Msg.cs t0 cur :: L)) cur.length
          ⟨0, Nat.zero_le _, rfl, rfl, rfl, h2⟩ ?_
        rintro mm t7 _ _ w g3 ⟨a, ha, rfl, rfl, rfl, h3⟩ hg3
        refine lnS_rd h3 1 rfl (fun g hg => own_rd hg) ?_
        refine lt_c (fun c2 => iff_t ?_) (fun c2 => iff_f ?_)
        · obtain ⟨y, hy⟩ := get_of_lt (l := cur) (j := a) (by omega)
          have htn := take_snoc hy
          have hel : ((cur.take a).erase x.m).length ≤ cur.length := by
            have h5 := (List.erase_sublist (a := x.m) (l := cur.take a)).length_le
            rw [List.length_take] at h5
            omega
          refine J2.cut (fun t7' t8' w => t8' = .bool (decide (x.m ∈ cur.take (a + 1))) ∧ Sat e w (ownS 37 6 Msg.cs t7' ((cur.take (a + 1)).erase x.m) :: ownS 37 6 Msg.cs t0 cur :: L)) (fun k4 hk4 => ?_) ?_
          · have app : ∀ w', Sat e w' (ownS 37 6 Msg.cs t7 ((cur.take a).erase x.m) :: ownS 37 6 Msg.cs t0 cur :: L) → (cur.take (a + 1)).erase x.m = (cur.take a).erase x.m ++ [y] → decide (x.m ∈ cur.take a) = decide (x.m ∈ cur.take (a + 1)) →
                ixS 6 t0 (.int .i64 (a : Int)) w' fun t54 w => ldN 6 t54 w fun t55 w => bsl 37 6 1 (zeroD prog 37) [(0, t55)] w fun t56 w => apS prog #[33, 33] 33 t7 t56 w fun t57 w => k4 t57 (.bool (decide (x.m ∈ cur.take a))) w := fun w' h4 he hd => by
              refine ixS_rd h4 1 rfl (fun g hg => own_rd hg) (fun _ => rfl) hy fun p hp => ldN_of h4 1 rfl hp rfl ?_
              refine push1 te_33 (f := Msg.cs) (fun _ => rfl) (fun _ => ints_flat _) h4 (x := y) rfl (by omega) fun v' w5 h5 => ?_
              refine hk4 _ _ _ ⟨by rw [hd], ?_⟩
              rw [he]
              exact h5
            refine dr_s h3 fun w4 h4 => ?_
            by_cases d1 : x.m ∈ cur.take a
            · rw [decide_eq_true d1] at app ⊢
              refine not_t (gd_ft (gd_ft (gd_ft (gd_ft (gd_ft (gd_ft (gd_ft (gd_ft (gd_ft (gd_ft (pk_f (iff_f ?_))))))))))))
              refine app w4 h4 ?_ ?_
              · rw [htn, List.erase_append_left _ d1]
              · rw [htn, decide_eq_true (List.mem_append_left _ d1)]
            · rw [decide_eq_false d1] at app ⊢
              have hee : (cur.take a).erase x.m = cur.take a := List.erase_of_not_mem d1
              refine not_f (gd_tt (gd_tt ?_))
              refine gd_tt (ixS_rd h4 1 rfl (fun g hg => own_rd hg) (fun _ => rfl) hy fun p hp => gd_tt (ldN_of h4 1 rfl hp rfl (gd_tt (gd_tt ?_))))
              refine gd_tt (ixS_rd h4 (i + 2) hi2 hr (fun _ => rfl) hx fun p2 hp2 => gd_tt (fld_of hp2 fun p3 hp3 => gd_tt (ldN_sub h4 (i + 2) hi2 hp3 (us := x.m.cs) rfl rfl ?_)))
              refine gd_tt (bO_eq (ns := y.ns) (ms := x.m.ns) eqT_37 agg_37 egt_37 (by decide) rfl ?_)
              rw [Msg.eq_ns]
              by_cases d2 : y = x.m
              · rw [decide_eq_true d2]
                refine pk_t (iff_t (hk4 _ _ _ ⟨?_, ?_⟩))
                · rw [htn, d2, decide_eq_true (List.mem_append_right _ (List.mem_singleton.2 rfl))]
                · have : (cur.take (a + 1)).erase x.m = (cur.take a).erase x.m := by rw [htn, List.erase_append_right _ d1, d2, List.erase_cons_head, List.append_nil, hee]
                  rw [this]
                  exact h4
              · rw [decide_eq_false d2]
                have hno : x.m ∉ cur.take (a + 1) := fun h => by
                  rw [htn] at h
                  rcases List.mem_append.1 h with h | h
                  · exact d1 h
                  · exact d2 (List.mem_singleton.1 h).symm
                refine pk_t (iff_f (app w4 h4 ?_ ?_))
                · rw [List.erase_of_not_mem hno, hee, htn]
                · rw [decide_eq_false hno]
          · rintro t7' _ w4 ⟨rfl, h4⟩
            refine inc_s (by omega) ?_
            exact hg3 _ _ _ _ _ (by omega) ⟨a + 1, by omega, rfl, rfl, rfl, h4⟩
        · have ea : a = cur.length := by omega
          rw [ea, List.take_length] at h3 ⊢
          rw [decide_eq_true hin]
          refine not_t (iff_f (hk2 _ _ ⟨cur.erase x.m, htk, by have := (List.erase_sublist (a := x.m) (l := cur)).length_le; omega, ?_⟩))
          have h4 : Sat e w ([ownS 37 6 Msg.cs t7 (cur.erase x.m)] ++ L) := h3.selR [_, _] [_] [0] (by decide) rfl
          exact h4
    · rintro t0' w2 ⟨cur', h4, h5, h6⟩
      refine inc_s (by omega) ?_
      exact hg1 _ _ _ _ (by omega) ⟨j + 1, cur', by omega, rfl, rfl, h4, by omega, h6⟩
  · have ej : j = more.length := by omega
    rw [ej, List.drop_length] at htk
    obtain rfl : cur = left' := Option.some.inj htk
    exact hk _ _ h1

/-! ### What was sent to those that go ahead -/
def boldsE (x : En) : List Msg := x.outs.filter fun m => boldB boldW m.To
def leftE (l : List En) : List Msg := l.flatMap boldsE
def leftB (N : WN) : List Msg := leftE (N.past boldW 0 bF0)
theorem leftE_app (a b : List En) : leftE (a ++ b) = leftE a ++ leftE b := List.flatMap_append ..
theorem leftE_len : ∀ (l : List Msg) (b : Int × Int), (leftE (runE boldW 0 bF0 b l)).length ≤ 6 * l.length
  | [], _ => Nat.le_refl _
  | m :: l, b => by
    have h1 := leftE_len l (nextB bF0 b m)
    have h2 : (boldsE (entB boldW 0 bF0 b m)).length ≤ 6 := Nat.le_trans (List.length_filter_le _ _) (outs6 b m)
    show (boldsE (entB boldW 0 bF0 b m) ++ leftE (runE boldW 0 bF0 (nextB bF0 b m) l)).length ≤ _
    rw [List.length_append, List.length_cons]
    omega
theorem outs_seq : ∀ (l : List Msg) (b : Int × Int) (x : En), x ∈ runE boldW 0 bF0 b l → ∀ m ∈ x.outs, m.key.From = 0 ∧ b.2 ≤ m.key.Seq
  | [], _, x, h => by cases h
  | y :: l, b, x, h => by
    intro m hm
    rcases List.mem_cons.1 h with rfl | h
    · have h1 := spread_by hm
      exact ⟨h1.from', h1.seq.1⟩
    · have h1 := outs_seq l (nextB bF0 b y) x h m hm
      have h2 : (nextB bF0 b y).2 = b.2 + (stepR bF0.Rules b.1 y.Class).2.length := rfl
      exact ⟨h1.1, by omega⟩
theorem outs_inc : ∀ (l : List Msg) (b : Int × Int), ((runE boldW 0 bF0 b l).flatMap En.outs).Pairwise D3
  | [], _ => List.Pairwise.nil
  | y :: l, b => by
    show ((entB boldW 0 bF0 b y).outs ++ (runE boldW 0 bF0 (nextB bF0 b y) l).flatMap En.outs).Pairwise D3
    rw [List.pairwise_append]
    refine ⟨spread_inc _ _ _ _ _ _ _, outs_inc l _, fun m hm m2 hm2 => ?_⟩
    have h1 := spread_by hm
    obtain ⟨x, hx, hm2⟩ := List.mem_flatMap.1 hm2
    have h3 := outs_seq l _ x hx m2 hm2
    have h4 : (nextB bF0 b y).2 = b.2 + (stepR bF0.Rules b.1 y.Class).2.length := rfl
    have h5 := h1.seq.2
    exact .inr ⟨by rw [h1.from', h3.1]; rfl, .inl (by omega)⟩
theorem left_sub (l : List En) : (leftE l).Sublist (l.flatMap En.outs) := by
  induction l with
  | nil => exact List.Sublist.refl _
  | cons x l ih => exact List.filter_sublist.append ih
theorem left_nodup (l : List Msg) (b : Int × Int) : (leftE (runE boldW 0 bF0 b l)).Nodup :=
  ((outs_inc l b).imp fun {a c} h => fun he => by subst he; unfold D3 at h; omega).sublist (left_sub _)
theorem undo_is : ∀ l : List En, undoI boldW l = (l.reverse.flatMap boldsE).map antiI := by
  intro l
  unfold undoI
  induction l.reverse with
  | nil => rfl
  | cons x r ih =>
    rw [List.flatMap_cons, List.flatMap_cons, List.map_append, ih]
    rfl
theorem rev_perm : ∀ l : List En, (l.reverse.flatMap boldsE).Perm (leftE l) := by
  intro l
  exact List.Perm.flatMap_right _ (List.reverse_perm l)
theorem hear_left {N : WN} {k : Nat} (hW : WOk boldW 0 bF0 N k) (m : Msg) : takenL (leftB N) (undoI boldW (goneE boldW 0 bF0 N m.key)) = some (leftB (heardB N m)) := by
  have h1 : N.past boldW 0 bF0 = (heardB N m).past boldW 0 bF0 ++ goneE boldW 0 bF0 N m.key := by
    show runE boldW 0 bF0 (N.base bF0) N.ms = runE boldW 0 bF0 (N.base bF0) (lowsM m.key N.ms) ++ _
    conv => lhs; rw [← lows_highs hW.ups m.key]
    exact runE_app ..
  have hn : (leftB N).Nodup := left_nodup _ _
  have h2 : leftB N = leftB (heardB N m) ++ leftE (goneE boldW 0 bF0 N m.key) := by
    unfold leftB
    rw [h1, leftE_app]
  rw [undo_is]
  rw [h2] at hn ⊢
  exact takenL_anti _ _ _ (rev_perm _) hn
theorem step_left {N : WN} (he : stepWE boldW 0 bF0 N = 0) : takenL (leftB N) (stepI boldW (stepEn boldW 0 bF0 N)) = some (leftB (stepWN N)) := by
  obtain ⟨⟨m, r, hq, _⟩, _, _⟩ := stepE_ok he
  have h1 : leftB (stepWN N) = leftB N ++ boldsE (stepEn boldW 0 bF0 N) := by
    unfold leftB
    rw [step_past hq, leftE_app]
    show _ ++ (boldsE (entB boldW 0 bF0 (N.now bF0) m) ++ []) = _
    rw [List.append_nil]
    unfold stepEn
    rw [hq]
    rfl
  rw [h1]
  exact takenL_plain _ _
theorem stepL_s {r : Nat} {all : List Msg} {N : WN} {k i : Nat} (hk0 : k ≤ 900) (hl : all.length ≤ 30) (hI : BInv all N) (hd : DoneB N ∨ i ≤ N.ms.length) (hS : Sat e w (IsB r N k :: Q))
    (hk : ∀ (N' : WN) (d : Done) u (er : Int) (is : List NItem) S' w', BInv all N' → (DoneB N' ∨ i + 1 ≤ N'.ms.length) → takenL (leftB N) is = some (leftB N') → is.length ≤ 6 → (∀ g, S' g → rdS 8 NItem.cs u is g) → Sat e w' (S' :: IsB r N' (k + 1) :: Q) → K (.tuple #[.agg d.cs.toArray, u, .int .i64 er]) w') :
    Cl prog 15 #[.pointer (some ⟨r, 0, none⟩)] w K := by
  have hW := warp_ok 0 hS rfl
  refine warp_Step_s (by omega) hS (fun hn w2 h2 => ?_) (fun he v w2 h2 => ?_)
  · obtain ⟨X, q, p, g, b, m, lv, hX, h3⟩ := warp_of h2
    have h4 := warp_mk (k := k + 1) ⟨hX.eq, hX.short, hX.ok.mono (Nat.le_succ _), hX.map⟩ h3
    have h5 : Sat e w2 (sepL [] :: IsB r N (k + 1) :: Q) := Sat.join (l' := []) h4
    exact hk N Done.zero _ _ [] _ _ hI (step_more hI hW hl hd (.inl rfl) (fun h => absurd h hn)) rfl (by simp) (fun g _ => ⟨none, 0, rfl, Nat.le_refl _, fun h => absurd h (by simp)⟩) h5
  · refine hk _ _ _ _ _ _ _ (hI.step he) (step_more hI hW hl hd (.inr ⟨he, rfl⟩) fun _ => rfl) (step_left he) ?_ (fun g hg => own_rd hg) h2
    unfold stepI
    rw [List.length_map]
    exact Nat.le_trans (List.length_filter_le _ _) (outs6 _ _)
theorem leftB_len {all : List Msg} {N : WN} (h : BInv all N) : (leftB N).length ≤ 6 * all.length := by
  have h1 := leftE_len N.ms (N.base bF0)
  have hlen : N.ms.length + N.q.length = all.length := by rw [← h.line, List.length_append]
  unfold leftB
  exact Nat.le_trans h1 (by omega)
theorem undo_len (l : List Msg) (b : Int × Int) : (undoI boldW (runE boldW 0 bF0 b l)).length ≤ 6 * l.length := by
  rw [undo_is, List.length_map, (rev_perm _).length_eq]
  exact leftE_len _ _
theorem localB {N : WN} (hd : DoneB N) : 200 ≤ localW (boundedB N) := by
  have h := leastT_spec ((if hasM N.q = true then [(hdM N.q).key.T] else []) ++ [Inf])
  have he : localW (boundedB N) = leastT ((if hasM N.q = true then [(hdM N.q).key.T] else []) ++ [Inf]) := rfl
  rw [he]
  rcases h.2.2 with h1 | ⟨x, hx, h1⟩
  · rw [h1]; unfold Inf; omega
  · rw [h1]
    have hx2 : 200 ≤ x := by
      rcases List.mem_append.1 hx with hx | hx
      · cases hq : N.q with
        | nil => rw [hq] at hx; cases hx
        | cons m r =>
          rw [hq] at hx
          rw [show x = m.key.T from List.mem_singleton.1 hx]
          exact hd m (by rw [hq]; exact List.mem_cons_self ..)
      · rw [List.mem_singleton.1 hx]; unfold Inf; omega
    unfold clampT
    split
    · omega
    · split
      · unfold Inf; omega
      · omega
theorem boldB_to {b : Int × Int} {l : List Msg} {x : En} (hx : x ∈ runE boldW 0 bF0 b l) {m : Msg} (hm : m ∈ x.outs) : boldB boldW m.To = decide (m.To = 1) := by
  obtain ⟨_, b', he⟩ := runE_mem hx
  rw [he] at hm
  have h1 := (spread_by hm).to
  have h2 : (boldW.Feds.length : Int) = 3 := rfl
  have h3 : m.To = 1 ∨ m.To = 2 := by omega
  rcases h3 with h3 | h3 <;> rw [h3] <;> rfl
theorem flatMap_same {α β : Type} {g h : α → List β} : ∀ {l : List α}, (∀ x ∈ l, g x = h x) → l.flatMap g = l.flatMap h
  | [], _ => rfl
  | x :: l, hl => by rw [List.flatMap_cons, List.flatMap_cons, hl x (List.mem_cons_self ..), flatMap_same fun y hy => hl y (List.mem_cons_of_mem _ hy)]
theorem to1_is (l : List Msg) (b : Int × Int) : ((runE boldW 0 bF0 b l).flatMap En.outs).filter (fun m => decide (m.To = 1)) = leftE (runE boldW 0 bF0 b l) := by
  rw [List.filter_flatMap]
  unfold leftE
  refine flatMap_same fun x hx => ?_
  exact List.filter_congr fun m hm => (boldB_to hx hm).symm
theorem to2_is (l : List Msg) (b : Int × Int) : ((runE boldW 0 bF0 b l).flatMap En.outs).filter (fun m => !decide (m.To = 1)) = (gateE boldW (runE boldW 0 bF0 b l)).map Kept.m := by
  rw [List.filter_flatMap]
  unfold gateE
  rw [List.map_flatMap]
  refine flatMap_same fun x hx => ?_
  unfold keptE
  rw [List.map_map]
  show _ = ((x.outs.filter _).map fun m => m)
  rw [List.map_id']
  exact List.filter_congr fun m hm => by rw [boldB_to hx hm]
end Go.Proofs.YtbopajpmadlmhaaGreat
end
section
namespace Go.Proofs.YtbopajpmadlmhaaGreat
open Go Go.E
set_option maxRecDepth 100000
variable {e w : World} {L Q R : List HP} {K : KV} {S S2 : HP}

theorem endE_take {l : List Msg} {m : Msg} {a : Nat} (h : l[a]? = some m) (b : Int × Int) : endE bF0 b (l.take (a + 1)) = nextB bF0 (endE bF0 b (l.take a)) m := by
  rw [take_snoc h, endE_app]
  rfl
theorem runE_take1 {l : List Msg} {m : Msg} {a : Nat} (h : l[a]? = some m) (b : Int × Int) : runE boldW 0 bF0 b (l.take (a + 1)) = runE boldW 0 bF0 b (l.take a) ++ [entB boldW 0 bF0 (endE bF0 b (l.take a)) m] := by
  rw [take_snoc h, runE_app]
  rfl
theorem all_len : ∀ (l : List Msg) (b : Int × Int), ((runE boldW 0 bF0 b l).flatMap En.outs).length ≤ 6 * l.length
  | [], _ => Nat.le_refl _
  | m :: l, b => by
    have h1 := all_len l (nextB bF0 b m)
    have h2 := outs6 b m
    show ((entB boldW 0 bF0 b m).outs ++ (runE boldW 0 bF0 (nextB bF0 b m) l).flatMap En.outs).length ≤ _
    rw [List.length_append, List.length_cons]
    omega
theorem lt200_s {t9 : Value} {t5 : Nat} {x : WdX} {all ms q : List Msg} {a : Nat} {F : Value → Prop} (i j : Nat) (hi : L[i]? = some (ownS 37 6 Msg.cs t9 all)) (hj : L[j]? = some (blk t5 27 x.cs)) (hline : ms ++ q = all) (hmsT : ∀ y ∈ ms, y.key.T < (200 : Int)) (hqT : ∀ y ∈ q, (200 : Int) ≤ y.key.T)
    (hXe : x.End = 200) (ha : a ≤ ms.length) (hS : Sat e w L) (hk : F (.bool (decide (a < ms.length)))) :
    lnS t9 w fun t179 _ => bi .lss .i64 (.int .i64 (a : Int)) t179 w fun t180 _ => gd t180 true (fun k => k t9 w) w fun t182 _ => gd t180 true (fun k => k (.int .i64 (a : Int)) w) w fun t183 _ => gd t180 true (fun k => ixS 6 t182 t183 w k) w fun t184 _ => gd t180 true (fun k => fld 0 t184 w k) w fun t185 _ => gd t180 true (fun k => fld 0 t185 w k) w fun t186 _ => gd t180 true (fun k => ld1 t186 w k) w fun t187 _ =>
      gd t180 true (fun k => fld 2 (.pointer (some ⟨t5, 0, none⟩)) w k) w fun t188 _ => gd t180 true (fun k => ld1 t188 w k) w fun t189 _ => gd t180 true (fun k => bi .lss .i64 t187 t189 w k) w fun t190 _ => pk t180 t190 (Value.bool false) w fun t191 _ => F t191 := by
  have hlen : ms.length + q.length = all.length := by rw [← hline, List.length_append]
  refine lnS_rd hS i hi (fun g hg => own_rd hg) ?_
  refine lt_c (fun c => gd_tt (gd_tt ?_)) (fun c => gd_ft (gd_ft (gd_ft (gd_ft (gd_ft (gd_ft (gd_ft (gd_ft (gd_ft (pk_f ?_))))))))))
  · obtain ⟨m, hm⟩ := get_of_lt (l := all) (j := a) (by omega)
    refine gd_tt (ixS_rd hS i hi (fun g hg => own_rd hg) (fun _ => rfl) hm fun p hp => ?_)
    refine gd_tt (fld_of hp fun p1 hp1 => gd_tt (fld_of hp1 fun p2 hp2 => gd_tt (ld1_of hS i hi hp2 (v := .int .i64 m.key.T) rfl ?_)))
    refine gd_tt (fld_at (gd_tt (ld1_at hS j hj (v := .int .i64 x.End) rfl (gd_tt ?_))))
    rw [hXe]
    by_cases c2 : a < ms.length
    · rw [← hline, List.getElem?_append_left c2] at hm
      have h1 := hmsT m (List.mem_of_getElem? hm)
      rw [decide_eq_true c2] at hk
      exact lt_t (by omega) (pk_t hk)
    · rw [← hline, List.getElem?_append_right (by omega)] at hm
      have h1 := hqT m (List.mem_of_getElem? hm)
      rw [decide_eq_false c2] at hk
      exact lt_f (by omega) (pk_t hk)
  · rw [decide_eq_false (by omega)] at hk
    exact hk
theorem warpSettles_s {v u : Value} {l st : List Int} {S : HP} (hS : Sat e w (S :: Q)) (hr : ∀ g, S g → rdS 1 (intsK .u8) v l g) (hw : ∀ m ∈ l, (Lit.int .u8 m).wf = true) (hr2 : ∀ g, S g → rdS 1 (intsK .u8) u st g) (hw2 : ∀ m ∈ st, (Lit.int .u8 m).wf = true)
    (hk : ∀ w', Sat e w' (S :: Q) → K (.bool true) w') : Cl prog 6 #[v, u] w K := by
  refine pacelinelaw15_WarpSettles_calls ?_
  unfold pacelinelaw15_WarpSettles
  refine lnS_rd hS 0 rfl hr ?_
  refine gt_c (fun c0 => gd_tf (gd_tf (pk_t (iff_t (shown15_s hS fun w2 h2 => hk _ h2))))) (fun c0 => gd_ff ?_)
  refine shown15_s hS fun w1 h1 => gd_ff (not_t (pk_f (iff_f ?_)))
  refine bw_s h1 fun x S0 w2 hx hwf hs hx2 h2 => ?_
  rw [zero_27, zero_37, zero_45]
  have hXe : x.End = 200 := congrArg Wd.End hx
  refine al_s (cs := [.slice none 0 0, .slice none 0 0, .int .i64 0]) h2 rfl fun t5 w3 h3 => ?_
  refine stN_at h3 0 rfl (vs := x.cs) rfl rfl (by simp) (wd_cells 1 rfl h3 hx2) (cs' := x.cs) (by rfl) fun w4 h4 => ?_
  refine ldN_at h4 0 (vs := x.cs) rfl (by rfl) rfl ?_
  refine newB_s hx hwf hs hx2 h4.swap fun r w5 h5 => ?_
  refine xt_02 (xt_12 (ne_f rfl (gd_ff (gd_ff (bnp_s _ (pk_f (iff_f ?_)))))))
  -- what is kept beside: the federation's copy, what it reads, what was handed in
  obtain ⟨Q2, hQ2⟩ : ∃ Q2 : List HP, Q2 = S0 :: blk t5 27 x.cs :: S :: Q := ⟨_, rfl⟩
  have h6 : Sat e w5 (IsB r B0 0 :: Q2) := by rw [hQ2]; exact h5
  have g0 : Q2[0]? = some S0 := by rw [hQ2]; rfl
  have g5 : Q2[1]? = some (blk t5 27 x.cs) := by rw [hQ2]; rfl
  have gS : Q2[2]? = some S := by rw [hQ2]; rfl
  have hfin : ∀ w', Sat e w' Q2 → K (.bool true) w' := fun w' h => hk w' (by rw [hQ2] at h; exact h.drop.drop)
  clear hQ2
  refine bsl0 h6 Msg.cs fun v60 w6 h7 => ?_
  refine bsl0 h7 Msg.cs fun v61 w7 h8 => ?_
  have hl30 : l.length ≤ 30 := by omega
  refine lpi3 (fun mm t8 t9 t11 w => ∃ (j : Nat) (all : List Msg) (N : WN) (k : Nat), j ≤ l.length ∧ t11 = .int .i64 j ∧ mm = l.length - j ∧ k ≤ 3 * j ∧ BInv all N ∧ all.length = j ∧ (∀ m ∈ all, m.key.Seq < j) ∧ Upk all ∧
      Sat e w (ownS 37 6 Msg.cs t9 all :: ownS 37 6 Msg.cs t8 (leftB N) :: IsB r N k :: Q2)) l.length
    ⟨0, [], B0, 0, Nat.zero_le _, rfl, rfl, Nat.le_refl _, .init, rfl, by simp, .nil, h8⟩ ?_
  rintro mm t8 t9 _ w g1 ⟨j, all, N, k, hj, rfl, rfl, hkj, hI, hal, hseq, hup, h9⟩ hg1
  refine lnS_rd h9 5 gS hr ?_
  refine lt_c (fun c => iff_t ?_) (fun c => iff_f ?_)
  · obtain ⟨y, hy⟩ := get_of_lt (l := l) (j := j) (by omega)
    have hyw := wf8p (hw y (List.mem_of_getElem? hy))
    refine ixS_rd h9 5 gS hr (fun _ => rfl) hy fun a ha => ld1_of h9 5 gS ha (v := .int .u8 y) rfl (cv_s ?_)
    rw [wrapU8 hyw]
    obtain ⟨m, hm⟩ : ∃ m : Msg, m = mT y j j := ⟨_, rfl⟩
    refine bld_s (ints [y, 1, j]) (by kernel_rfl) (bld_s (mT y j j).cs (by kernel_rfl) ?_)
    rw [← hm]
    refine al_s (cs := Msg.zero.cs) h9 rfl fun t12 w10 h10 => ?_
    refine stN_at h10 0 rfl (vs := m.cs) rfl rfl (by decide) (ints_flat _) (cs' := m.cs) (by rfl) fun w11 h11 => ?_
    replace h11 : Sat e w11 (blk t12 37 m.cs :: ownS 37 6 Msg.cs t9 all :: ownS 37 6 Msg.cs t8 (leftB N) :: IsB r N k :: Q2) := h11
    refine ldN_at h11 0 (vs := m.cs) rfl (by rfl) rfl ?_
    refine ref03_Insert_s (by omega) (h11.pick 1 rfl) (fun g hg => own_rd hg) fun v79 p w12 hpl h12 => ?_
    have hne : ∀ z ∈ all, z.key ≠ m.key := fun z hz he => by
      have := hseq z hz
      rw [he, hm] at this
      exact Int.lt_irrefl _ this
    rw [ins_place hpl hup hne] at h12
    replace h12 : Sat e w12 (ownS 37 6 Msg.cs v79 (insK m all) :: ownS 37 6 Msg.cs t9 all :: blk t12 37 m.cs :: ownS 37 6 Msg.cs t8 (leftB N) :: IsB r N k :: Q2) := h12
    refine ldN_at h12 2 (vs := m.cs) rfl (by rfl) rfl ?_
    refine bld_s (⟨0, m, 0⟩ : NItem).cs (by rw [hm]; kernel_rfl) ?_
    have hW := warp_ok 4 h12 rfl
    have hm0 : 0 ≤ m.key.T := by rw [hm]; exact hyw.1
    obtain ⟨hhe, hI2⟩ := hI.hear hW (m := m) (c := 0) hm0 (by rw [hm]; rfl) hne (by omega)
    have hleft := hear_left hW m
    have hul : (undoI boldW (goneE boldW 0 bF0 N m.key)).length ≤ 180 := by
      have h1 := undo_len (highsM m.key N.ms) (endE bF0 (N.base bF0) (lowsM m.key N.ms))
      have h2 : (highsM m.key N.ms).length ≤ N.ms.length := List.length_filter_le ..
      have hlen : N.ms.length + N.q.length = all.length := by rw [← hI.line, List.length_append]
      exact Nat.le_trans h1 (by omega)
    have hll := leftB_len hI
    refine warp_Hear_s (i := ⟨0, m, 0⟩) (by show In64 m.key.T; rw [hm]; show In64 y; unfold In64; omega) (h12.selR [_, _, _, _, _] [_, _, _] [4, 0, 3] (by decide) rfl) fun v84 w13 h13 => ?_
    rw [show hearW boldW 0 bF0 N 1 ⟨0, m, 0⟩ = _ from hhe] at h13 ⊢
    replace h13 : Sat e w13 (DI v84 (undoI boldW (goneE boldW 0 bF0 N m.key)) :: IsB r (heardB N m) k :: ownS 37 6 Msg.cs v79 (insK m all) :: ownS 37 6 Msg.cs t8 (leftB N) :: Q2) := h13
    refine xt_02 (xt_12 (ne_f rfl (iff_f ?_)))
    refine taken_s 0 rfl hleft (by omega) (fun g hg => own_rd hg) (h13.pick 3 rfl) fun v93 w14 h14 => ?_
    replace h14 : Sat e w14 (ownS 37 6 Msg.cs v93 (leftB (heardB N m)) :: DI v84 (undoI boldW (goneE boldW 0 bF0 N m.key)) :: IsB r (heardB N m) k :: ownS 37 6 Msg.cs v79 (insK m all) :: Q2) := h14
    refine xt_02 (xt_12 (not_t (iff_f ?_)))
    have h15 : Sat e w14 (IsB r (heardB N m) k :: ownS 37 6 Msg.cs v93 (leftB (heardB N m)) :: ownS 37 6 Msg.cs v79 (insK m all) :: Q2) := h14.selR [_, _, _, _] [_, _, _] [2, 0, 3] (by decide) rfl
    have hil := insK_len m all
    have hup2 := insK_up hup hne
    have hseq2 : ∀ z ∈ insK m all, z.key.Seq < (j + 1 : Nat) := fun z hz => by
      rcases insK_mem.1 hz with rfl | hz
      · rw [hm]; show (j : Int) < _; omega
      · have := hseq z hz; omega
    generalize insK m all = all2 at h15 hI2 hil hup2 hseq2
    generalize heardB N m = N2 at h15 hI2
    clear hleft hul hll h14 h13 h12 h11 h10 hhe
    -- the steps
    have rest : ∀ (lim : Nat), lim ≤ 3 → lp [v93, (Value.int IntKind.i64 0)] w14 (b2 fun t8_1 t16 w g3 =>
        bi .lss .i64 t16 (.int .i64 (lim : Int)) w fun t109 w =>
        iff' t109
        (Cl prog 15 #[.pointer (some ⟨r, 0, none⟩)] w fun t114 w =>
        xt 0 t114 w fun t115 w =>
        xt 1 t114 w fun t116 w =>
        xt 2 t114 w fun _ w =>
        al Done.zero.cs.toArray 45 w fun t17 w =>
        stN 7 t17 t115 w fun _ w =>
        Cl prog 24 #[t8_1, t116] w fun t121 w =>
        xt 0 t121 w fun t122 w =>
        xt 1 t121 w fun t123 w =>
        bnot t123 w fun t125 w =>
        iff' t125
        (K (Value.bool false) w)
        (bi .add .i64 t16 (Value.int IntKind.i64 1) w fun t111 w =>
        g3 [t122, t111] w))
        (bi .add .i64 (.int .i64 (j : Int)) (Value.int IntKind.i64 1) w fun t67 w =>
        g1 [t8_1, v79, t67] w)) := by
      intro lim hlim
      refine lpi2 (fun mm t8 t16 w => ∃ (i : Nat) (N : WN), t16 = .int .i64 i ∧ mm = lim - i ∧ i ≤ lim ∧ BInv all2 N ∧ Sat e w (IsB r N (k + i) :: ownS 37 6 Msg.cs t8 (leftB N) :: ownS 37 6 Msg.cs v79 all2 :: Q2)) lim ⟨0, N2, rfl, rfl, Nat.zero_le _, hI2, h15⟩ ?_
      rintro mm t8_1 _ w g2 ⟨i, N3, rfl, rfl, hil2, hI3, h16⟩ hg2
      refine lt_c (fun c1 => iff_t ?_) (fun c1 => iff_f ?_)
      · have hll3 := leftB_len hI3
        refine stepL_s (i := 0) (by omega) (by omega) hI3 (.inr (Nat.zero_le _)) h16 fun N4 d u4 er is S4 w17 hI4 _ htk hisl hrd h17 => ?_
        refine xt_03 (xt_13 (xt_23 ?_))
        refine al_s (cs := Done.zero.cs) h17 rfl fun t17 w18 h18 => ?_
        refine stN_at h18 0 rfl (vs := d.cs) rfl rfl (Nat.le_of_ble_eq_true rfl) (ints_flat _) (cs' := d.cs) (by rfl) fun w19 h19 => ?_
        replace h19 : Sat e w19 (S4 :: IsB r N4 (k + i + 1) :: ownS 37 6 Msg.cs t8_1 (leftB N3) :: ownS 37 6 Msg.cs v79 all2 :: Q2) := h19.drop
        refine taken_s 0 rfl htk (by omega) hrd (h19.pick 2 rfl) fun v122 w20 h20 => ?_
        refine xt_02 (xt_12 (not_t (iff_f (inc_s (by omega) ?_))))
        exact hg2 _ _ _ _ (by omega) ⟨i + 1, N4, rfl, rfl, by omega, hI4, h20.selR [_, _, _, _] [_, _, _] [2, 0, 3] (by decide) rfl⟩
      · refine inc_s (by omega) ?_
        exact hg1 _ _ _ _ _ (by omega) ⟨j + 1, all2, N3, k + i, by omega, rfl, rfl, by omega, hI3, by omega, hseq2, hup2, h16.selR [_, _, _] [_, _, _] [2, 1, 0] (by decide) rfl⟩
    refine lnS_rd h15 5 gS hr2 ?_
    by_cases d1 : j < st.length
    · obtain ⟨s0, hs0⟩ := get_of_lt (l := st) (j := j) d1
      have hsw := wf8p (hw2 s0 (List.mem_of_getElem? hs0))
      refine lt_t (by omega) ?_
      refine J1.cut (fun t w' => t = .int .i64 ((s0 % 4).toNat : Int) ∧ w' = w14) (fun k2 hk2 => ?_) (fun t w' ⟨h1, h2⟩ => by rw [h1, h2]; exact rest _ (by omega))
      refine iff_t (ixS_rd h15 5 gS hr2 (fun _ => rfl) hs0 fun a ha => ld1_of h15 5 gS ha (v := .int .u8 s0) rfl (cv_s ?_))
      rw [wrapU8 hsw]
      refine rem_s (by omega) ?_
      rw [Int.tmod_eq_emod_of_nonneg (by omega)]
      exact hk2 _ _ ⟨by rw [Int.toNat_of_nonneg (by omega)], rfl⟩
    · refine lt_f (by omega) ?_
      refine J1.cut (fun t w' => t = .int .i64 ((1 : Nat) : Int) ∧ w' = w14) (fun k2 hk2 => iff_f (hk2 _ _ ⟨rfl, rfl⟩)) (fun t w' ⟨h1, h2⟩ => by rw [h1, h2]; exact rest 1 (by omega))
  -- the steps that are left
  have ej : j = l.length := by omega
  refine lpi2 (fun mm t8 t20 w => ∃ (i : Nat) (N : WN), t20 = .int .i64 i ∧ mm = l.length - i ∧ i ≤ l.length ∧ BInv all N ∧ (DoneB N ∨ i ≤ N.ms.length) ∧ Sat e w (IsB r N (k + i) :: ownS 37 6 Msg.cs t8 (leftB N) :: ownS 37 6 Msg.cs t9 all :: Q2)) l.length
    ⟨0, N, rfl, rfl, Nat.zero_le _, hI, .inr (Nat.zero_le _), h9.selR [_, _, _] [_, _, _] [2, 1, 0] (by decide) rfl⟩ ?_
  rintro mm t8_2 _ w g4 ⟨i, N3, rfl, rfl, hil, hI3, hd3, h10⟩ hg4
  refine lnS_rd h10 5 gS hr ?_
  refine lt_c (fun c1 => iff_t ?_) (fun c1 => iff_f ?_)
  · have hll3 := leftB_len hI3
    refine stepL_s (i := i) (by omega) (by omega) hI3 hd3 h10 fun N4 d u4 er is S4 w17 hI4 hd4 htk hisl hrd h17 => ?_
    refine xt_03 (xt_13 (xt_23 ?_))
    refine al_s (cs := Done.zero.cs) h17 rfl fun t17 w18 h18 => ?_
    refine stN_at h18 0 rfl (vs := d.cs) rfl rfl (Nat.le_of_ble_eq_true rfl) (ints_flat _) (cs' := d.cs) (by rfl) fun w19 h19 => ?_
    replace h19 : Sat e w19 (S4 :: IsB r N4 (k + i + 1) :: ownS 37 6 Msg.cs t8_2 (leftB N3) :: ownS 37 6 Msg.cs t9 all :: Q2) := h19.drop
    refine taken_s 0 rfl htk (by omega) hrd (h19.pick 2 rfl) fun v122 w20 h20 => ?_
    refine xt_02 (xt_12 (not_t (iff_f (inc_s (by omega) ?_))))
    exact hg4 _ _ _ _ (by omega) ⟨i + 1, N4, rfl, rfl, by omega, hI4, hd4, h20.selR [_, _, _, _] [_, _, _] [2, 0, 3] (by decide) rfl⟩
  have hD := done_end hI3 hd3 (by omega)
  have hW3 := warp_ok 0 h10 rfl
  have h200 := localB hD
  have hce := commit_local hI3
  -- none comes below this, and all is settled
  refine bld_s (ints [Inf, 0, 0]) (by kernel_rfl) (bld_s boundI.m.cs (by kernel_rfl) (bld_s boundI.cs (by kernel_rfl) ?_))
  refine warp_Hear_s (i := boundI) (by show In64 Inf; unfold In64 Inf; omega) h10 fun v8 w8 h11 => ?_
  rw [show hearW boldW 0 bF0 N3 2 boundI = _ from hI3.bound] at h11 ⊢
  replace h11 : Sat e w8 (IsB r (boundedB N3) (k + i) :: ownS 37 6 Msg.cs t8_2 (leftB N3) :: ownS 37 6 Msg.cs t9 all :: Q2) := h11.drop
  refine xt_02 (xt_12 ?_)
  refine warp_Local_s h11 fun w12 h12 => ?_
  refine warp_Commit_s (by omega) h12 (fun h => absurd hce h) fun _ v13 u13 w13 h13 => ?_
  refine xt_03 (xt_13 (xt_23 ?_))
  have hem : earlyM (localW (boundedB N3)) (boundedB N3).ms = N3.ms := List.filter_eq_self.2 fun y hy => decide_eq_true (by
    have h1 : y.key.T < (200 : Int) := hW3.en y (List.mem_append_right _ hy)
    omega)
  have hbase : (boundedB N3).base bF0 = (0, 0) := by
    show endE bF0 (begE bF0) N3.old = _
    rw [hI3.old]
    rfl
  have hse : settledE boldW 0 bF0 (boundedB N3) (localW (boundedB N3)) = runE boldW 0 bF0 (0, 0) N3.ms := by unfold settledE; rw [hem, hbase]
  have hpe : N3.past boldW 0 bF0 = runE boldW 0 bF0 (0, 0) N3.ms := by
    unfold WN.past
    rw [show N3.base bF0 = (0, 0) from hbase]
  have hop : openedW boldW 0 bF0 (boundedB N3) (localW (boundedB N3)) = (gateE boldW (runE boldW 0 bF0 (0, 0) N3.ms)).map Kept.m := by unfold openedW; rw [hse]
  have hlb : leftB N3 = leftE (runE boldW 0 bF0 (0, 0) N3.ms) := by unfold leftB; rw [hpe]
  have hnow : (commitWN (boundedB N3) (localW (boundedB N3))).now bF0 = endE bF0 (0, 0) N3.ms := by
    unfold WN.now
    rw [commit_base, hbase, hem]
    have : (commitWN (boundedB N3) (localW (boundedB N3))).ms = [] := List.filter_eq_nil_iff.2 fun y hy => by
      have h1 : y.key.T < (200 : Int) := hW3.en y (List.mem_append_right _ hy)
      rw [decide_eq_true (by omega)]
      decide
    rw [this]
    rfl
  have hfl : (commitWN (boundedB N3) (localW (boundedB N3))).fl = localW (boundedB N3) := rfl
  rw [hse, hop] at h13
  rw [hlb] at h13
  generalize commitWN (boundedB N3) (localW (boundedB N3)) = C at h13 hnow hfl
  generalize localW (boundedB N3) = t at hfl h200
  have hlen : N3.ms.length + N3.q.length = all.length := by rw [← hI3.line, List.length_append]
  have hmsT : ∀ y ∈ N3.ms, y.key.T < (200 : Int) := fun y hy => hW3.en y (List.mem_append_right _ hy)
  have hcls : ∀ y ∈ N3.ms, y.Class = 0 := fun y hy => hI3.cls y (by rw [← hI3.line]; exact List.mem_append_left _ hy)
  have hline := hI3.line
  have hqT : ∀ y ∈ N3.q, (200 : Int) ≤ y.key.T := hD
  have hmay := hW3.may
  clear hW3 hce hem hbase hse hpe hop hlb hd3 hI3 h12 h11 h10
  generalize N3.ms = ms at *
  generalize N3.q = q at *
  replace h13 : Sat e w13 (DD v13 ((runE boldW 0 bF0 (0, 0) ms).map doneE) :: ownS 37 6 Msg.cs u13 ((gateE boldW (runE boldW 0 bF0 (0, 0) ms)).map Kept.m) :: IsB r C (k + i) :: ownS 37 6 Msg.cs t8_2 (leftE (runE boldW 0 bF0 (0, 0) ms)) :: ownS 37 6 Msg.cs t9 all :: Q2) := h13
  refine dr_s h13 fun w14 h14 => ?_
  refine ne_f rfl (gd_ff (gd_ff (ne_f rfl (pk_f ?_))))
  refine gd_ff (gd_ff (fld_at (gd_ff (ld1_at h14 6 g5 (v := .int .i64 x.End) rfl ?_))))
  refine gd_ff (warp_Floor_s (h14.pick 2 rfl) ?_)
  refine ⟨gd_ff (ld1_at h14 6 g5 (v := .int .i64 x.End) rfl ⟨rfl, rfl⟩), ?_⟩
  rw [hXe, hfl]
  refine gd_ff (lt_f (by omega) (pk_f (iff_f ?_)))
  -- what is to come of it
  refine bsl0 h14 Done.cs fun v175 w15 h15 => ?_
  refine bsl0 h15 Msg.cs fun v176 w16 h16 => ?_
  obtain ⟨Q3, hQ3⟩ : ∃ Q3 : List HP, Q3 = ownS 37 6 Msg.cs t9 all :: DD v13 ((runE boldW 0 bF0 (0, 0) ms).map doneE) :: ownS 37 6 Msg.cs u13 ((gateE boldW (runE boldW 0 bF0 (0, 0) ms)).map Kept.m) :: IsB r C (k + i) :: ownS 37 6 Msg.cs t8_2 (leftE (runE boldW 0 bF0 (0, 0) ms)) :: Q2 := ⟨_, rfl⟩
  have h17 : Sat e w16 (ownS 37 6 Msg.cs v176 [] :: DD v175 [] :: Q3) := by rw [hQ3]; exact h16.selR [_, _, _, _, _, _, _] [_, _, _, _, _, _, _] [0, 1, 6, 2, 3, 4, 5] (by decide) rfl
  have k9 : Q3[0]? = some (ownS 37 6 Msg.cs t9 all) := by rw [hQ3]; rfl
  have k13 : Q3[1]? = some (DD v13 ((runE boldW 0 bF0 (0, 0) ms).map doneE)) := by rw [hQ3]; rfl
  have ku : Q3[2]? = some (ownS 37 6 Msg.cs u13 ((gateE boldW (runE boldW 0 bF0 (0, 0) ms)).map Kept.m)) := by rw [hQ3]; rfl
  have k8 : Q3[4]? = some (ownS 37 6 Msg.cs t8_2 (leftE (runE boldW 0 bF0 (0, 0) ms))) := by rw [hQ3]; rfl
  have k0 : Q3[5]? = some S0 := by rw [hQ3]; exact g0
  have k5 : Q3[6]? = some (blk t5 27 x.cs) := by rw [hQ3]; exact g5
  have kB : Q3[3]? = some (IsB r C (k + i)) := by rw [hQ3]; rfl
  have hfin3 : ∀ w', Sat e w' Q3 → K (.bool true) w' := fun w' h => hfin w' (by rw [hQ3] at h; exact h.drop.drop.drop.drop.drop)
  clear hQ3 h16 h15 h14 h13
  have hms30 : ms.length ≤ 30 := by omega
  refine lpi5 (fun mm t29 t30 t31 t32 t33 w => ∃ a : Nat, a ≤ ms.length ∧ t33 = .int .i64 a ∧ mm = ms.length - a ∧ t29 = .int .i64 (endE bF0 (0, 0) (ms.take a)).1 ∧ t30 = .int .i64 (endE bF0 (0, 0) (ms.take a)).2 ∧
      Sat e w (ownS 37 6 Msg.cs t32 ((runE boldW 0 bF0 (0, 0) (ms.take a)).flatMap En.outs) :: DD t31 ((runE boldW 0 bF0 (0, 0) (ms.take a)).map doneE) :: Q3)) ms.length
    ⟨0, Nat.zero_le _, rfl, rfl, rfl, rfl, h17⟩ ?_
  rintro mm _ _ t31 t32 _ w g5' ⟨a, ha, rfl, rfl, rfl, rfl, h18⟩ hg5
  refine dr_s h18 fun w19 h19 => ?_
  refine lt200_s (ms := ms) (q := q) 2 8 (by simpa using k9) (by simpa using k5) hline hmsT hqT hXe ha h19 ?_
  have hal30 : all.length ≤ 30 := by omega
  by_cases c3 : a < ms.length
  · rw [decide_eq_true c3]
    obtain ⟨m, hm⟩ := get_of_lt (l := ms) (j := a) c3
    have hma : all[a]? = some m := by rw [← hline, List.getElem?_append_left c3]; exact hm
    have hmc : m.Class = 0 := hcls m (List.mem_of_getElem? hm)
    have hf0 : x.w.Feds[0]? = some bF0 := by rw [hx]; rfl
    rw [show x.w.Feds = x.Feds.map FedX.f from rfl, List.getElem?_map] at hf0
    obtain ⟨fx, hfx, hff⟩ := Option.map_eq_some_iff.1 hf0
    have hfxm : fx ∈ x.Feds := List.mem_of_getElem? hfx
    have hsf := hs.fed fx hfxm
    have k0' : ∀ {X Y : HP}, (X :: Y :: Q3)[7]? = some S0 := fun {X Y} => by simpa using k0
    have k5' : ∀ {X Y : HP}, (X :: Y :: Q3)[8]? = some (blk t5 27 x.cs) := fun {X Y} => by simpa using k5
    have k9' : ∀ {X Y : HP}, (X :: Y :: Q3)[2]? = some (ownS 37 6 Msg.cs t9 all) := fun {X Y} => by simpa using k9
    refine iff_t (fld_at (ld1_at h19 8 k5' (v := x.fv) rfl ?_))
    refine ixS_rd h19 7 k0' (fun g hg => (hx2 g hg).feds) (fun _ => rfl) hfx fun p hp => ?_
    refine fld_of hp fun p1 hp1 => ld1_of h19 7 k0' hp1 (v := fx.rv) rfl ?_
    obtain ⟨b, hb⟩ : ∃ b, b = endE bF0 (0, 0) (ms.take a) := ⟨_, rfl⟩
    rw [← hb]
    have hb2 : 0 ≤ b.2 ∧ b.2 ≤ 90 := by
      have h1 := endE_few (f := 0) hmay (show boldW.Feds[0]? = some bF0 from rfl) (ms.take a) (0, 0)
      rw [← hb, List.length_take] at h1
      have h2 : ((0 : Int), (0 : Int)).2 = 0 := rfl
      omega
    refine ref07_Step_s (l := fx.Rules) (s := b.1) (c := 0) (h19.pick 7 k0') (fun g hg => ((hx2 g hg).fed fx hfxm).rules) hsf.rules hsf.sends fun ov w20 h20 => ?_
    replace h20 := Sat.unpick 7 k0' h20
    have hR : fx.Rules.map RuleX.r = bF0.Rules := congrArg Fed.Rules hff
    obtain ⟨so, hso⟩ : ∃ so, so = stepR bF0.Rules b.1 m.Class := ⟨_, rfl⟩
    have hso2 : stepR (fx.Rules.map RuleX.r) b.1 0 = so := by rw [hR, hso, hmc]
    rw [hso2] at h20 ⊢
    have houts := step_outs hmay (List.mem_of_getElem? (show boldW.Feds[0]? = some bF0 from rfl)) b.1 m.Class
    rw [← hso] at houts
    refine xt_02 (xt_12 ?_)
    refine dr_s h20 fun w21 h21 => ?_
    have i5 : ∀ {X Y Z : HP}, (X :: Y :: Z :: Q3)[9]? = some (blk t5 27 x.cs) := fun {X Y Z} => by simpa using k5
    have i0 : ∀ {X Y Z : HP}, (X :: Y :: Z :: Q3)[8]? = some S0 := fun {X Y Z} => by simpa using k0
    have i9 : ∀ {X Y Z : HP}, (X :: Y :: Z :: Q3)[3]? = some (ownS 37 6 Msg.cs t9 all) := fun {X Y Z} => by simpa using k9
    refine ldN_at h21 9 i5 (vs := x.cs) (by rfl) rfl ?_
    refine ixS_rd h21 3 i9 (fun g hg => own_rd hg) (fun _ => rfl) hma fun p2 hp2 => ?_
    refine fld_of hp2 fun p3 hp3 => fld_of hp3 fun p4 hp4 => ld1_of h21 3 i9 hp4 (v := .int .i64 m.key.T) rfl ?_
    refine ixS_rd h21 3 i9 (fun g hg => own_rd hg) (fun _ => rfl) hma fun p5 hp5 => ?_
    refine fld_of hp5 fun p6 hp6 => ld1_of h21 3 i9 hp6 (v := .int .i64 m.Body) rfl ?_
    have hpar : x.Parents = boldW.Parents := congrArg Wd.Parents hx
    refine ref08_Spread_s (x := x) (outs := so.2) 8 0 i0 rfl h21 hx2 (fun g hg => own_rd hg) hs (by rw [hpar]; exact hmay.tree) (fun o ho => by rw [hpar]; exact (houts.2 o ho).1) (by omega) ⟨hb2.1, by omega⟩ fun mv w22 h22 => ?_
    have hsp : spreadL x.w.Parents x.w.Feds 0 b.2 m.key.T m.Body so.2 = (entB boldW 0 bF0 b m).outs := by rw [hx, hso]; rfl
    rw [hsp] at h22
    have ho6 := outs6 b m
    have hal6 := all_len (ms.take a) (0, 0)
    rw [List.length_take] at hal6
    replace h22 : Sat e w22 (ownS 37 6 Msg.cs mv (entB boldW 0 bF0 b m).outs :: ownS 87 3 Out.cs ov so.2 :: ownS 37 6 Msg.cs t32 ((runE boldW 0 bF0 (0, 0) (ms.take a)).flatMap En.outs) :: DD t31 ((runE boldW 0 bF0 (0, 0) (ms.take a)).map doneE) :: Q3) := h22
    refine apS_own te_33 te_33.und (f := Msg.cs) (l := (runE boldW 0 bF0 (0, 0) (ms.take a)).flatMap En.outs) (m := (entB boldW 0 bF0 b m).outs) (fun _ => rfl) (fun _ => ints_flat _) (h22.selR [_, _, _, _] [_, _, _, _] [2, 0, 1, 3] (by decide) rfl) (fun g hg => own_rd hg) (by omega) fun v221 w23 h23 => ?_
    refine lnS_rd h23 2 rfl (fun g hg => own_rd hg) ?_
    refine add_s (by omega) (by omega) ?_
    have i9' : ∀ {X Y Z T : HP}, (X :: Y :: Z :: T :: Q3)[4]? = some (ownS 37 6 Msg.cs t9 all) := fun {X Y Z T} => by simpa using k9
    refine ixS_rd h23 4 i9' (fun g hg => own_rd hg) (fun _ => rfl) hma fun p7 hp7 => ldN_of h23 4 i9' hp7 rfl ?_
    refine bld_s (⟨m, so.1⟩ : Done).cs (by kernel_rfl) ?_
    have hdl : ((runE boldW 0 bF0 (0, 0) (ms.take a)).map doneE).length ≤ 30 := by rw [List.length_map, runE_len, List.length_take]; omega
    refine push1 te_52 (f := Done.cs) (fun _ => rfl) (fun _ => ints_flat _) (h23.selR [_, _, _, _] [_, _] [3, 0] (by decide) rfl) (x := ⟨m, so.1⟩) rfl (by omega) fun v235 w24 h24 => ?_
    refine inc_s (by omega) ?_
    have e1 := endE_take hm (0, 0)
    have e2 := runE_take1 hm (0, 0)
    rw [← hb] at e1 e2
    refine hg5 _ _ _ _ _ _ _ (by omega) ⟨a + 1, by omega, rfl, rfl, ?_, ?_, ?_⟩
    · rw [e1, hso]; rfl
    · rw [e1, hso]; rfl
    · rw [e2, List.flatMap_append, List.map_append, show [entB boldW 0 bF0 b m].flatMap En.outs = (entB boldW 0 bF0 b m).outs from List.append_nil _, show [entB boldW 0 bF0 b m].map doneE = [⟨m, so.1⟩] from by rw [hso]; rfl]
      exact h24.swap
  rw [decide_eq_false c3]
  have ea : a = ms.length := by omega
  rw [ea, List.take_length] at h19 ⊢
  refine iff_f ?_
  obtain ⟨B, hB⟩ : ∃ B, B = (runE boldW 0 bF0 (0, 0) ms).flatMap En.outs := ⟨_, rfl⟩
  have hBl : B.length ≤ 180 := by rw [hB]; exact Nat.le_trans (all_len _ _) (by omega)
  have hto1 := to1_is ms (0, 0)
  have hto2 := to2_is ms (0, 0)
  rw [← hB] at h19 hto1 hto2
  refine bsl0 h19 Msg.cs fun v236 w20 h20 => ?_
  refine bsl0 h20 Msg.cs fun v237 w21 h21 => ?_
  refine lpi3 (fun mm t37 t38 t39 w => ∃ c : Nat, c ≤ B.length ∧ t39 = .int .i64 c ∧ mm = B.length - c ∧
      Sat e w (ownS 37 6 Msg.cs t38 ((B.take c).filter fun m => !decide (m.To = 1)) :: ownS 37 6 Msg.cs t37 ((B.take c).filter fun m => decide (m.To = 1)) :: ownS 37 6 Msg.cs t32 B :: DD t31 ((runE boldW 0 bF0 (0, 0) ms).map doneE) :: Q3)) B.length ⟨0, Nat.zero_le _, rfl, rfl, h21⟩ ?_
  rintro mm t37 t38 _ w g6 ⟨c, hc, rfl, rfl, h22⟩ hg6
  refine lnS_rd h22 2 rfl (fun g hg => own_rd hg) ?_
  refine lt_c (fun c4 => iff_t ?_) (fun c4 => iff_f ?_)
  · obtain ⟨m, hm⟩ := get_of_lt (l := B) (j := c) (by omega)
    have f1 := filterA_snoc (p := fun m : Msg => decide (m.To = 1)) hm
    have f2 := filterA_snoc (p := fun m : Msg => !decide (m.To = 1)) hm
    have fl1 : ((B.take c).filter fun m => decide (m.To = 1)).length ≤ 180 := Nat.le_trans (List.length_filter_le _ _) (by rw [List.length_take]; omega)
    have fl2 : ((B.take c).filter fun m => !decide (m.To = 1)).length ≤ 180 := Nat.le_trans (List.length_filter_le _ _) (by rw [List.length_take]; omega)
    refine J2.cut (fun t37 t38 w => Sat e w (ownS 37 6 Msg.cs t38 ((B.take (c + 1)).filter fun m => !decide (m.To = 1)) :: ownS 37 6 Msg.cs t37 ((B.take (c + 1)).filter fun m => decide (m.To = 1)) :: ownS 37 6 Msg.cs t32 B :: DD t31 ((runE boldW 0 bF0 (0, 0) ms).map doneE) :: Q3)) (fun k7 hk7 => ?_) (fun t37' t38' w23 h23 => ?_)
    · refine ixS_rd h22 2 rfl (fun g hg => own_rd hg) (fun _ => rfl) hm fun p hp => fld_of hp fun p1 hp1 => ld1_of h22 2 rfl hp1 (v := .int .i64 m.To) rfl ?_
      refine eq_c (fun c5 => iff_t ?_) (fun c5 => iff_f ?_)
      · refine ixS_rd h22 2 rfl (fun g hg => own_rd hg) (fun _ => rfl) hm fun p hp => ldN_of h22 2 rfl hp rfl ?_
        refine push1 te_33 (f := Msg.cs) (fun _ => rfl) (fun _ => ints_flat _) h22.swap (x := m) rfl (by omega) fun v' w23 h23 => ?_
        refine hk7 _ _ _ ?_
        rw [f1, f2, if_pos (decide_eq_true c5), if_neg (by rw [decide_eq_true c5]; decide), List.append_nil]
        exact h23.swap
      · refine ixS_rd h22 2 rfl (fun g hg => own_rd hg) (fun _ => rfl) hm fun p hp => ldN_of h22 2 rfl hp rfl ?_
        refine push1 te_33 (f := Msg.cs) (fun _ => rfl) (fun _ => ints_flat _) h22 (x := m) rfl (by omega) fun v' w23 h23 => ?_
        refine hk7 _ _ _ ?_
        rw [f1, f2, decide_eq_false c5, if_neg (show ¬ false = true by decide), if_pos (show (!false) = true from rfl), List.append_nil]
        exact h23
    · refine inc_s (by omega) ?_
      exact hg6 _ _ _ _ _ (by omega) ⟨c + 1, by omega, rfl, rfl, h23⟩
  have ec : c = B.length := by omega
  rw [ec, List.take_length, hto1, hto2] at h22
  have hrl : ((runE boldW 0 bF0 (0, 0) ms).map doneE).length ≤ 1000000 := by rw [List.length_map, runE_len]; omega
  refine Same15_s 5 3 (by simpa using k13) rfl h22 (fun g hg => own_rd hg) (fun g hg => own_rd hg) hrl fun w23 h23 => ?_
  refine gd_tt (gd_tt (gd_tt ?_))
  refine same15_s 8 1 (by simpa using k8) rfl h23 (fun g hg => own_rd hg) (fun g hg => own_rd hg) (Nat.le_trans (leftE_len _ _) (by omega)) fun w24 h24 => ?_
  refine pk_t (gd_tt (gd_tt (gd_tt ?_)))
  refine same15_s 6 0 (by simpa using ku) rfl h24 (fun g hg => own_rd hg) (fun g hg => own_rd hg) (by rw [List.length_map]; exact Nat.le_trans (gate6 _ _) (by omega)) fun w25 h25 => ?_
  refine pk_t (gd_tt (gd_tt ?_))
  refine warp_State_s (h25.pick 7 (by simpa using kB)) ?_
  rw [hnow]
  refine gd_tt (gd_tt (eq_t rfl (pk_t ?_)))
  exact hfin3 _ h25.drop.drop.drop.drop
end Go.Proofs.YtbopajpmadlmhaaGreat
end
