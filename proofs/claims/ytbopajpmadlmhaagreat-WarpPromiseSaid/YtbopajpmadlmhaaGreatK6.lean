/- Texts of the proof, joined: WarpS, WarpU, WarpV, WarpW. Conditions: none. -/
import Derived.Test.YtbopajpmadlmhaaGreatK5
section
namespace Go.Proofs.YtbopajpmadlmhaaGreat
open Go Go.E
set_option maxRecDepth 100000
variable {e w : World} {L Q : List HP} {K : KV} {S S2 : HP}

def bR0 : Rule := ⟨0, 0, 1, [⟨1, 2, 1⟩]⟩
def bR1 : Rule := ⟨1, 0, 0, [⟨1, 3, 5⟩, ⟨1, 4, 7⟩]⟩
def bF0 : Fed := ⟨1, 2, 0, [bR0, bR1], [1], [0], []⟩
def bF1 : Fed := ⟨1, 1, 0, [], [0], [1], []⟩
def bF2 : Fed := ⟨0, 1, 0, [], [0], [1], []⟩
def boldW : Wd := ⟨[-1, -1], [bF0, bF1, bF2], 200⟩
theorem okRules_b : okRules [bR0, bR1] := ⟨by simp, fun r hr => by
  simp only [List.mem_cons, List.not_mem_nil, or_false] at hr
  rcases hr with rfl | rfl
  · refine ⟨by decide, by decide, by decide, by decide, by decide, by decide, by decide, fun o ho => ?_⟩
    have : o = ⟨1, 2, 1⟩ := List.mem_singleton.1 ho
    rw [this]
    exact ⟨by decide, by decide, by decide, by decide, by decide, by decide⟩
  · refine ⟨by decide, by decide, by decide, by decide, by decide, by decide, by decide, fun o ho => ?_⟩
    have : o = ⟨1, 3, 5⟩ ∨ o = ⟨1, 4, 7⟩ := by simpa [bR1] using ho
    rcases this with rfl | rfl <;> exact ⟨by decide, by decide, by decide, by decide, by decide, by decide⟩, by decide⟩
theorem okRules_00 : okRules [] := ⟨by simp, by simp, by simp⟩
theorem boldW_ok : (checkW boldW).2 = 0 := by
  have ht : treeE [-1, -1] = 0 := by
    unfold treeE
    refine if_pos ⟨by simp, by simp, fun i p hp => ?_⟩
    match i with
    | 0 => simp at hp; omega
    | 1 => simp at hp; omega
    | i + 2 => simp at hp
  have h1 : fedE bF0 2 = 0 := by
    rw [fedE_chain]
    simp [bF0, okRules_b, rising, okInit]
    simp [rulesE, sendsE, bR0, bR1]
  have h2 : fedE bF1 2 = 0 := by
    rw [fedE_chain]
    simp [bF1, okRules_00, rising, rulesE, okInit]
  have h3 : fedE bF2 2 = 0 := by
    rw [fedE_chain]
    simp [bF2, okRules_00, rising, rulesE, okInit]
  unfold checkW boldW
  rw [if_neg (by rw [ht]; decide), if_neg (by simp)]
  show (fedsE 2 0 _).2 = _
  rw [fedsE_cons, if_neg (by rw [h1]; decide), fedsE_cons, if_neg (by rw [h2]; decide), fedsE_cons, if_neg (by rw [h3]; decide)]
  rfl
theorem bw_s (hS : Sat e w Q) (hk : ∀ (x : WdX) (S : HP) w', x.w = boldW → x.wf → x.short → (∀ g, S g → RdWd x g) → Sat e w' (S :: Q) → K (.agg x.cs.toArray) w') : Cl prog 11 #[] w K := by
  refine pacelinelaw15_bold_calls ?_
  unfold pacelinelaw15_bold
  rw [zero_27]
  refine al_s (cs := [.slice none 0 0, .slice none 0 0, .int .i64 0]) hS rfl fun t0 w1 h1 => ?_
  refine bld_s (⟨1, 2, 1⟩ : Out).cs (by kernel_rfl) ?_
  refine bsl_s (⟨1, 2, 1⟩ : Out).cs h1 (by kernel_rfl) fun b3 w2 h2 => ?_
  obtain ⟨r0, hr0⟩ : ∃ r0 : RuleX, r0 = ⟨0, 0, 1, .slice (some ⟨b3, 0, none⟩) 1 1, [⟨1, 2, 1⟩]⟩ := ⟨_, rfl⟩
  refine bld_s [.int .i64 0, .int .i64 0, .int .i64 1, .slice (some ⟨b3, 0, none⟩) 1 1] (by kernel_rfl) ?_
  refine bld_s (⟨1, 3, 5⟩ : Out).cs (by kernel_rfl) (bld_s (⟨1, 4, 7⟩ : Out).cs (by kernel_rfl) ?_)
  refine bsl_s (ints [1, 3, 5, 1, 4, 7]) h2 (by kernel_rfl) fun b7 w3 h3 => ?_
  obtain ⟨r1, hr1⟩ : ∃ r1 : RuleX, r1 = ⟨1, 0, 0, .slice (some ⟨b7, 0, none⟩) 2 2, [⟨1, 3, 5⟩, ⟨1, 4, 7⟩]⟩ := ⟨_, rfl⟩
  refine bld_s [.int .i64 1, .int .i64 0, .int .i64 0, .slice (some ⟨b7, 0, none⟩) 2 2] (by kernel_rfl) ?_
  have hrc : [r0, r1].flatMap RuleX.cs = [.int .i64 0, .int .i64 0, .int .i64 1, .slice (some ⟨b3, 0, none⟩) 1 1, .int .i64 1, .int .i64 0, .int .i64 0, .slice (some ⟨b7, 0, none⟩) 2 2] := by rw [hr0, hr1]; rfl
  refine bsl_s [.int .i64 0, .int .i64 0, .int .i64 1, .slice (some ⟨b3, 0, none⟩) 1 1, .int .i64 1, .int .i64 0, .int .i64 0, .slice (some ⟨b7, 0, none⟩) 2 2] h3 (by kernel_rfl) fun b9 w4 h4 => ?_
  rw [← hrc] at h4
  refine bsl_s (ints [-1, -1]) h4 (by kernel_rfl) fun b10 w5 h5 => ?_
  refine bsl_s (ints [1]) h5 (by kernel_rfl) fun b12 w6 h6 => ?_
  refine bsl_s (ints [0]) h6 (by kernel_rfl) fun b13 w7 h7 => ?_
  obtain ⟨f0, hf0⟩ : ∃ f0 : FedX, f0 = ⟨1, 2, 0, .slice (some ⟨b9, 0, none⟩) 2 2, [r0, r1], .slice (some ⟨b12, 0, none⟩) 1 1, [1], .slice (some ⟨b13, 0, none⟩) 1 1, [0], .slice none 0 0, []⟩ := ⟨_, rfl⟩
  refine bld_s [.int .i64 1, .int .i64 2, .int .i64 0, .slice (some ⟨b9, 0, none⟩) 2 2, .slice (some ⟨b12, 0, none⟩) 1 1, .slice (some ⟨b13, 0, none⟩) 1 1, .slice none 0 0] (by kernel_rfl) ?_
  refine bsl_s (ints [0]) h7 (by kernel_rfl) fun b15 w8 h8 => ?_
  refine bsl_s (ints [1]) h8 (by kernel_rfl) fun b16 w9 h9 => ?_
  obtain ⟨f1, hf1⟩ : ∃ f1 : FedX, f1 = ⟨1, 1, 0, .slice none 0 0, [], .slice (some ⟨b15, 0, none⟩) 1 1, [0], .slice (some ⟨b16, 0, none⟩) 1 1, [1], .slice none 0 0, []⟩ := ⟨_, rfl⟩
  refine bld_s [.int .i64 1, .int .i64 1, .int .i64 0, .slice none 0 0, .slice (some ⟨b15, 0, none⟩) 1 1, .slice (some ⟨b16, 0, none⟩) 1 1, .slice none 0 0] (by kernel_rfl) ?_
  refine bsl_s (ints [0]) h9 (by kernel_rfl) fun b18 w10 h10 => ?_
  refine bsl_s (ints [1]) h10 (by kernel_rfl) fun b19 w11 h11 => ?_
  obtain ⟨f2, hf2⟩ : ∃ f2 : FedX, f2 = ⟨0, 1, 0, .slice none 0 0, [], .slice (some ⟨b18, 0, none⟩) 1 1, [0], .slice (some ⟨b19, 0, none⟩) 1 1, [1], .slice none 0 0, []⟩ := ⟨_, rfl⟩
  refine bld_s [.int .i64 0, .int .i64 1, .int .i64 0, .slice none 0 0, .slice (some ⟨b18, 0, none⟩) 1 1, .slice (some ⟨b19, 0, none⟩) 1 1, .slice none 0 0] (by kernel_rfl) ?_
  obtain ⟨fc, hfc⟩ : ∃ fc : List Value, fc = [.int .i64 1, .int .i64 2, .int .i64 0, .slice (some ⟨b9, 0, none⟩) 2 2, .slice (some ⟨b12, 0, none⟩) 1 1, .slice (some ⟨b13, 0, none⟩) 1 1, .slice none 0 0, .int .i64 1, .int .i64 1, .int .i64 0, .slice none 0 0, .slice (some ⟨b15, 0, none⟩) 1 1, .slice (some ⟨b16, 0, none⟩) 1 1, .slice none 0 0,
    .int .i64 0, .int .i64 1, .int .i64 0, .slice none 0 0, .slice (some ⟨b18, 0, none⟩) 1 1, .slice (some ⟨b19, 0, none⟩) 1 1, .slice none 0 0] := ⟨_, rfl⟩
  have hcs : [f0, f1, f2].flatMap FedX.cs = fc := by rw [hf0, hf1, hf2, hfc]; rfl
  refine bsl_s fc h11 (by rw [hfc]; kernel_rfl) fun b21 w12 h12 => ?_
  rw [← hcs] at h12
  obtain ⟨x, hx⟩ : ∃ x : WdX, x = ⟨.slice (some ⟨b10, 0, none⟩) 2 2, [-1, -1], .slice (some ⟨b21, 0, none⟩) 3 3, [f0, f1, f2], 200⟩ := ⟨_, rfl⟩
  refine bld_s [.slice (some ⟨b10, 0, none⟩) 2 2, .slice (some ⟨b21, 0, none⟩) 3 3, .int .i64 200] (by kernel_rfl) ?_
  have hxc : [.slice (some ⟨b10, 0, none⟩) 2 2, .slice (some ⟨b21, 0, none⟩) 3 3, .int .i64 200] = x.cs := by rw [hx]; rfl
  refine stN_at h12 11 rfl (vs := [.slice (some ⟨b10, 0, none⟩) 2 2, .slice (some ⟨b21, 0, none⟩) 3 3, .int .i64 200]) rfl rfl (by simp) (by simp [flat]) (cs' := [.slice (some ⟨b10, 0, none⟩) 2 2, .slice (some ⟨b21, 0, none⟩) 3 3, .int .i64 200]) (by rfl) fun w13 h13 => ?_
  refine ldN_at h13 11 (vs := [.slice (some ⟨b10, 0, none⟩) 2 2, .slice (some ⟨b21, 0, none⟩) 3 3, .int .i64 200]) rfl (by rfl) rfl ?_
  rw [hxc]
  have h14 : Sat e w13 (sepL [blk b21 66 ([f0, f1, f2].flatMap FedX.cs), blk b19 3 (ints [1]), blk b18 3 (ints [0]), blk b16 3 (ints [1]), blk b15 3 (ints [0]), blk b13 3 (ints [0]), blk b12 3 (ints [1]), blk b10 3 (ints [-1, -1]), blk b9 89 ([r0, r1].flatMap RuleX.cs), blk b7 87 (ints [1, 3, 5, 1, 4, 7]), blk b3 87 (⟨1, 2, 1⟩ : Out).cs] :: Q) :=
    Sat.join (l' := [_, _, _, _, _, _, _, _, _, _, _]) (h13.selR [_, _, _, _, _, _, _, _, _, _, _, _] [_, _, _, _, _, _, _, _, _, _, _] [0, 1, 2, 3, 4, 5, 6, 7, 8, 9, 10] (by decide) rfl)
  refine hk x _ _ ?_ ?_ ?_ ?_ h14
  · rw [hx, hf0, hf1, hf2, hr0, hr1]; rfl
  · rw [hx, hf0, hf1, hf2, hr0, hr1]
    have h0 : ∀ n ∈ [(0 : Int)], i64 n := fun n hn => by rw [List.mem_singleton.1 hn]; rfl
    have h1 : ∀ n ∈ [(1 : Int)], i64 n := fun n hn => by rw [List.mem_singleton.1 hn]; rfl
    refine ⟨fun n hn => by simp only [List.mem_cons, List.not_mem_nil, or_false, or_self] at hn; subst hn; rfl, fun f hf => ?_, rfl⟩
    simp only [List.mem_cons, List.not_mem_nil, or_false] at hf
    rcases hf with rfl | rfl | rfl
    · refine ⟨rfl, rfl, rfl, fun r hr => ?_, h1, h0, by simp⟩
      simp only [List.mem_cons, List.not_mem_nil, or_false] at hr
      rcases hr with rfl | rfl
      · refine ⟨rfl, rfl, rfl, fun o ho => ?_⟩
        have : o = ⟨1, 2, 1⟩ := List.mem_singleton.1 ho
        rw [this]
        exact ⟨rfl, rfl, rfl⟩
      · refine ⟨rfl, rfl, rfl, fun o ho => ?_⟩
        have : o = ⟨1, 3, 5⟩ ∨ o = ⟨1, 4, 7⟩ := by simpa using ho
        rcases this with rfl | rfl <;> exact ⟨rfl, rfl, rfl⟩
    · exact ⟨rfl, rfl, rfl, by simp, h0, h1, by simp⟩
    · exact ⟨rfl, rfl, rfl, by simp, h0, h1, by simp⟩
  · rw [hx, hf0, hf1, hf2, hr0, hr1]
    refine ⟨by simp, by simp, fun f hf => ?_⟩
    simp only [List.mem_cons, List.not_mem_nil, or_false] at hf
    rcases hf with rfl | rfl | rfl
    · refine ⟨by simp, by simp, by simp, by simp, fun r hr => ?_⟩
      simp only [List.mem_cons, List.not_mem_nil, or_false] at hr
      rcases hr with rfl | rfl
      · show [(⟨1, 2, 1⟩ : Out)].length ≤ _
        simp
      · show [(⟨1, 3, 5⟩ : Out), ⟨1, 4, 7⟩].length ≤ _
        simp
    · exact ⟨by simp, by simp, by simp, by simp, by simp⟩
    · exact ⟨by simp, by simp, by simp, by simp, by simp⟩
  · intro g hg
    obtain ⟨g0, k0, s0⟩ := sepL_get (i := 0) hg rfl
    obtain ⟨g1, k1, s1⟩ := sepL_get (i := 1) hg rfl
    obtain ⟨g2, k2, s2⟩ := sepL_get (i := 2) hg rfl
    obtain ⟨g3, k3, s3⟩ := sepL_get (i := 3) hg rfl
    obtain ⟨g4, k4, s4⟩ := sepL_get (i := 4) hg rfl
    obtain ⟨g5, k5, s5⟩ := sepL_get (i := 5) hg rfl
    obtain ⟨g6, k6, s6⟩ := sepL_get (i := 6) hg rfl
    obtain ⟨g7, k7, s7⟩ := sepL_get (i := 7) hg rfl
    obtain ⟨g8, k8, s8⟩ := sepL_get (i := 8) hg rfl
    obtain ⟨g9, k9, s9⟩ := sepL_get (i := 9) hg rfl
    obtain ⟨g10, k10, s10⟩ := sepL_get (i := 10) hg rfl
    have nilR : ∀ {α : Type} (size : Nat) (f : α → List Value), rdS size f (.slice none 0 0) [] g := fun _ _ => ⟨none, 0, rfl, Nat.le_refl _, fun h => absurd h (by simp)⟩
    subst hx
    refine ⟨rdS_up s7 (blk_rdn (f := intsK .i64) [-1, -1] rfl (Nat.le_refl _) g7 k7), rdS_up s0 (blk_rdn (f := FedX.cs) [f0, f1, f2] rfl (Nat.le_refl _) g0 k0), fun f hf => ?_⟩
    simp only [List.mem_cons, List.not_mem_nil, or_false] at hf
    rcases hf with rfl | rfl | rfl
    · subst hf0
      refine ⟨⟨rdS_up s8 (blk_rdn (f := RuleX.cs) [r0, r1] rfl (Nat.le_refl _) g8 k8), fun r hr => ?_⟩, rdS_up s6 (blk_rdn (f := intsK .i64) [1] rfl (Nat.le_refl _) g6 k6), rdS_up s5 (blk_rdn (f := intsK .i64) [0] rfl (Nat.le_refl _) g5 k5), nilR _ _⟩
      simp only [List.mem_cons, List.not_mem_nil, or_false] at hr
      rcases hr with rfl | rfl
      · subst hr0
        exact rdS_up s10 (blk_rdn (f := Out.cs) [⟨1, 2, 1⟩] rfl (Nat.le_refl _) g10 k10)
      · subst hr1
        exact rdS_up s9 (blk_rdn (f := Out.cs) [⟨1, 3, 5⟩, ⟨1, 4, 7⟩] rfl (Nat.le_refl _) g9 k9)
    · subst hf1
      exact ⟨⟨nilR _ _, by simp⟩, rdS_up s4 (blk_rdn (f := intsK .i64) [0] rfl (Nat.le_refl _) g4 k4), rdS_up s3 (blk_rdn (f := intsK .i64) [1] rfl (Nat.le_refl _) g3 k3), nilR _ _⟩
    · subst hf2
      exact ⟨⟨nilR _ _, by simp⟩, rdS_up s2 (blk_rdn (f := intsK .i64) [0] rfl (Nat.le_refl _) g2 k2), rdS_up s1 (blk_rdn (f := intsK .i64) [1] rfl (Nat.le_refl _) g1 k1), nilR _ _⟩
abbrev IsB (r : Nat) (N : WN) (k : Nat) : HP := IsWarp r boldW 0 bF0 N k
def B0 : WN := ⟨[], [], [], 0, [-1, -1, 0]⟩
theorem newB_s {x : WdX} {S : HP} (hx : x.w = boldW) (hwf : x.wf) (hs : x.short) (hr : ∀ g, S g → RdWd x g) (hS : Sat e w (S :: Q)) (hk : ∀ r w', Sat e w' (IsB r B0 0 :: S :: Q) → K (.tuple #[.pointer (some ⟨r, 0, none⟩), .int .i64 0]) w') : Cl prog 12 #[.agg x.cs.toArray, .int .i64 0] w K := by
  refine warp_New_s (x := x) 0 rfl hS hr hwf hs (fun hbad => absurd (by rw [hx]; exact boldW_ok) hbad) (fun _ hno => ?_) (fun _ n fd hn hfd _ r w3 h3 => ?_)
  · rw [hx] at hno
    have h3 : warpMay boldW 0 = some bF0 := rfl
    rw [h3] at hno
    cases hno
  · have hn0 : n = 0 := by omega
    subst hn0
    rw [hx] at hfd h3
    have hfd' : fd = bF0 := (Option.some.inj hfd).symm
    subst hfd'
    exact hk r _ h3
theorem startB_s (hS : Sat e w Q) (hk : ∀ r w', Sat e w' (IsB r B0 0 :: Q) → K (.tuple #[.pointer (some ⟨r, 0, none⟩), .int .i64 0]) w') : Cl prog 11 #[] w fun t w => Cl prog 12 #[t, .int .i64 0] w K :=
  bw_s hS fun _ _ _ hx hwf hs hr h2 => newB_s hx hwf hs hr h2 fun r w3 h3 => hk r w3 (h3.swap.drop)
def itM (t j s b : Int) : NItem := ⟨0, ⟨⟨t, j, s⟩, 0, 0, b⟩, 0⟩
abbrev hearB (N : WN) (j : Int) (i : NItem) : HR := hearW boldW 0 bF0 N j i
theorem shown15_s (hS : Sat e w Q) (hk : ∀ w', Sat e w' Q → K (.bool true) w') : Cl prog 10 #[] w K := by
  refine pacelinelaw15_shown_calls ?_
  unfold pacelinelaw15_shown
  refine startB_s hS fun r w1 h1 => ?_
  refine xt_02 (xt_12 (ne_f rfl (gd_ff (gd_ff (bnp_s _ (pk_f (iff_f ?_)))))))
  refine bld_s (ints [9, 1, 0]) (by kernel_rfl) (bld_s (ints [9, 1, 0, 0, 0, 0]) (by kernel_rfl) (bld_s (itM 9 1 0 0).cs (by kernel_rfl) ?_))
  refine warp_Hear_s (i := itM 9 1 0 0) (by show In64 9; unfold In64; omega) h1 fun v2 w2 h2 => ?_
  obtain ⟨N1, hN1⟩ : ∃ N1, N1 = (hearB B0 1 (itM 9 1 0 0)).N := ⟨_, rfl⟩
  rw [← hN1] at h2
  have e1 : stepWE boldW 0 bF0 N1 = 0 := by rw [hN1]; kernel_rfl
  refine warp_Step_s (by omega) h2.drop (fun h => absurd e1 h) fun _ v3 w3 h3 => ?_
  obtain ⟨m0, hm0⟩ : ∃ m0 : Msg, m0 = ⟨⟨11, 0, 0⟩, 1, 1, 1⟩ := ⟨_, rfl⟩
  have e2 : stepI boldW (stepEn boldW 0 bF0 N1) = [plainI m0] := by rw [hN1, hm0]; kernel_rfl
  rw [e2] at h3
  refine xt_03 (xt_13 (xt_23 ?_))
  rw [zero_45]
  refine al_s (cs := Done.zero.cs) h3 rfl fun t3 w4 h4 => ?_
  refine stN_at h4 0 rfl (vs := (doneE (stepEn boldW 0 bF0 N1)).cs) rfl rfl (Nat.le_of_ble_eq_true rfl) (ints_flat _) (cs' := (doneE (stepEn boldW 0 bF0 N1)).cs) (by rfl) fun w5 h5 => ?_
  replace h5 := h5.drop
  refine bld_s (ints [7, 1, 1]) (by kernel_rfl) (bld_s (ints [7, 1, 1, 0, 0, 0]) (by kernel_rfl) (bld_s (itM 7 1 1 0).cs (by kernel_rfl) ?_))
  refine warp_Hear_s (i := itM 7 1 1 0) (by show In64 7; unfold In64; omega) h5.swap fun v6 w6 h6 => ?_
  have e3 : (hearB (stepWN N1) 1 (itM 7 1 1 0)).e = 0 := by rw [hN1]; kernel_rfl
  have e4 : (hearB (stepWN N1) 1 (itM 7 1 1 0)).out = [antiI m0] := by rw [hN1, hm0]; kernel_rfl
  have e5 : (hearB (stepWN N1) 1 (itM 7 1 1 0)).N.q.length = 2 := by rw [hN1]; kernel_rfl
  rw [e3]
  rw [e4] at h6
  generalize (hearB (stepWN N1) 1 (itM 7 1 1 0)).N = N3 at h6 e5
  refine xt_02 (xt_12 (dr_s h6 fun w7 h7 => ?_))
  refine eq_t rfl (gd_tt (gd_tt (eq_t rfl (pk_t ?_))))
  refine gd_tt (gd_tt (lnS_rd h7 2 rfl (fun g hg => own_rd hg) (gd_tt (eq_t rfl (pk_t ?_)))))
  refine gd_tt (gd_tt (lnS_rd h7 0 rfl (fun g hg => own_rd hg) (gd_tt (eq_t rfl (pk_t ?_)))))
  refine gd_tt (gd_tt ?_)
  refine ixS_rd (j := 0) h7 0 rfl (fun g hg => own_rd hg) (fun _ => rfl) rfl fun p hp => ?_
  refine gd_tt (fld_of hp fun p1 hp1 => gd_tt (ld1_of h7 0 rfl hp1 (v := .int .i64 1) rfl (gd_tt (eq_t rfl (pk_t ?_)))))
  refine gd_tt (gd_tt ?_)
  refine ixS_rd (j := 0) h7 0 rfl (fun g hg => own_rd hg) (fun _ => rfl) rfl fun p2 hp2 => ?_
  refine gd_tt (fld_of hp2 fun p3 hp3 => gd_tt (ldN_sub h7 0 rfl hp3 (us := m0.cs) (by rw [hm0]; rfl) rfl ?_))
  refine gd_tt (gd_tt ?_)
  refine ixS_rd (j := 0) h7 2 rfl (fun g hg => own_rd hg) (fun _ => rfl) rfl fun p4 hp4 => ?_
  refine gd_tt (fld_of hp4 fun p5 hp5 => gd_tt (ldN_sub h7 2 rfl hp5 (us := m0.cs) (by rw [hm0]; rfl) rfl ?_))
  refine gd_tt (bO_eq (ns := m0.ns) (ms := m0.ns) eqT_37 agg_37 egt_37 (by decide) rfl ?_)
  rw [beq_self_eq_true]
  refine pk_t (gd_tt (gd_tt ?_))
  refine warp_Waiting_s (h7.pick 1 rfl) fun v8 w8 h8 => ?_
  refine gd_tt (lnS_rd h8 0 rfl (fun g hg => own_rd hg) (gd_tt (eq_t (by rw [e5]; rfl) (pk_t ?_))))
  exact hk _ (h8.selR [_, _, _, _] [] [] (by decide) rfl)
end Go.Proofs.YtbopajpmadlmhaaGreat
end
section
namespace Go.Proofs.YtbopajpmadlmhaaGreat
open Go Go.E
set_option maxRecDepth 100000
variable {e w : World} {L Q R : List HP} {K : KV} {S S2 : HP}

theorem wf8p {n : Int} (h : (Lit.int .u8 n).wf = true) : 0 ≤ n ∧ n ≤ 255 := by
  simp only [Lit.wf, IntKind.min, IntKind.max, IntKind.signed, IntKind.bits] at h
  simp at h
  omega
structure BInv (all : List Msg) (N : WN) : Prop where
  old : N.old = []
  fl : N.fl = 0
  clk : N.clk = [-1, -1, 0]
  line : N.ms ++ N.q = all
  cls : ∀ m ∈ all, m.Class = 0
theorem BInv.init : BInv [] B0 := ⟨rfl, rfl, rfl, rfl, fun m h => by cases h⟩
def heardB (N : WN) (m : Msg) : WN := ⟨N.old, lowsM m.key N.ms, insK m (highsM m.key N.ms ++ N.q), N.fl, N.clk⟩
theorem BInv.at1 {all : List Msg} {N : WN} (h : BInv all N) : N.at' 1 = -1 := by unfold WN.at'; rw [h.clk]; rfl
theorem BInv.hear {all : List Msg} {N : WN} {k : Nat} (h : BInv all N) (hW : WOk boldW 0 bF0 N k) {m : Msg} {c : Int} (hm : 0 ≤ m.key.T) (hc : m.Class = 0) (hne : ∀ y ∈ all, y.key ≠ m.key) (hl : all.length < 64) :
    hearB N 1 ⟨0, m, c⟩ = ⟨0, undoI boldW (goneE boldW 0 bF0 N m.key), heardB N m⟩ ∧ BInv (insK m all) (heardB N m) := by
  have hline := hW.line
  have hlen : N.ms.length + N.q.length = all.length := by rw [← h.line, List.length_append]
  have hh : (highsM m.key N.ms).length ≤ N.ms.length := List.length_filter_le ..
  constructor
  · unfold hearB
    rw [hear_args (by refine ⟨by omega, ?_, by omega⟩; show (1 : Int) < ((3 : Nat) : Int); omega)]
    show (if m.key.T < N.fl ∨ (0 ≤ N.at' 1 ∧ m.key.T < N.at' 1) then _ else if hasK m.key (N.ms ++ N.q) = true then _ else if 64 ≤ N.q.length + (highsM m.key N.ms).length then _ else _) = _
    have h1 := h.at1
    have h2 := h.fl
    rw [if_neg (by omega), h.line, if_neg (by rw [hasK_no.2 hne]; decide), if_neg (by omega)]
    rfl
  · refine ⟨h.old, h.fl, h.clk, ?_, fun y hy => ?_⟩
    · show lowsM m.key N.ms ++ insK m (highsM m.key N.ms ++ N.q) = _
      rw [line_ins hline, h.line]
    · rcases insK_mem.1 hy with rfl | hy
      · exact hc
      · exact h.cls y hy
theorem BInv.step {all : List Msg} {N : WN} (h : BInv all N) (he : stepWE boldW 0 bF0 N = 0) : BInv all (stepWN N) := by
  obtain ⟨⟨m, r, hq, _⟩, _, _⟩ := stepE_ok he
  rw [step_line hq]
  refine ⟨h.old, h.fl, h.clk, ?_, h.cls⟩
  rw [← h.line, hq]
  show (N.ms ++ [m]) ++ r = _
  simp
theorem endB : ∀ (l : List Msg) (s n : Int), (∀ m ∈ l, m.Class = 0) → s = 0 ∨ s = 1 → (endE bF0 (s, n) l).1 = (s + l.length) % 2
  | [], s, n, _, hs => by
    show s = (s + ((0 : Nat) : Int)) % 2
    omega
  | m :: l, s, n, hc, hs => by
    have h0 := hc m (List.mem_cons_self ..)
    rcases hs with rfl | rfl
    · have e1 : nextB bF0 (0, n) m = (1, n + 1) := by unfold nextB; rw [h0]; rfl
      show (endE bF0 (nextB bF0 (0, n) m) l).1 = _
      rw [e1, endB l 1 (n + 1) (fun m hm => hc m (List.mem_cons_of_mem _ hm)) (.inr rfl), List.length_cons]
      omega
    · have e1 : nextB bF0 (1, n) m = (0, n + 2) := by unfold nextB; rw [h0]; rfl
      show (endE bF0 (nextB bF0 (1, n) m) l).1 = _
      rw [e1, endB l 0 (n + 2) (fun m hm => hc m (List.mem_cons_of_mem _ hm)) (.inl rfl), List.length_cons]
      omega
theorem BInv.state {all : List Msg} {N : WN} (h : BInv all N) : (N.now bF0).1 = (N.ms.length : Int) % 2 := by
  unfold WN.now WN.base
  rw [h.old]
  have := endB N.ms 0 0 (fun m hm => h.cls m (by rw [← h.line]; exact List.mem_append_left _ hm)) (.inl rfl)
  rw [Int.zero_add] at this
  exact this
/-- A node's steps, whatever comes of them. -/
theorem stepB_s {r : Nat} {all : List Msg} {N : WN} {k : Nat} (hk0 : k ≤ 900) (hI : BInv all N) (hS : Sat e w (IsB r N k :: Q)) (hk : ∀ (N' : WN) v w', BInv all N' → (N' = N ∨ (stepWE boldW 0 bF0 N = 0 ∧ N' = stepWN N)) → Sat e w' (IsB r N' (k + 1) :: Q) → K v w') :
    Cl prog 15 #[.pointer (some ⟨r, 0, none⟩)] w K := by
  refine warp_Step_s (by omega) hS (fun hn w2 h2 => ?_) (fun he v w2 h2 => ?_)
  · obtain ⟨X, q, p, g, b, m, lv, hX, h3⟩ := warp_of h2
    exact hk N _ _ hI (.inl rfl) (warp_mk ⟨hX.eq, hX.short, hX.ok.mono (Nat.le_succ _), hX.map⟩ h3)
  · exact hk _ _ _ (hI.step he) (.inr ⟨he, rfl⟩) h2.drop
theorem wrapU8 {n : Int} (h : 0 ≤ n ∧ n ≤ 255) : IntKind.i64.wrap n = n := wrap_i64 (by omega) (by omega)
end Go.Proofs.YtbopajpmadlmhaaGreat
end
section
namespace Go.Proofs.YtbopajpmadlmhaaGreat
open Go Go.E
set_option maxRecDepth 100000
variable {e w : World} {L Q R : List HP} {K : KV} {S S2 : HP}

theorem leastT_ge (l : List Int) : 0 ≤ leastT l := by
  rcases (leastT_spec l).2.2 with h | ⟨x, _, h⟩
  · rw [h]; decide
  · rw [h]; exact (clampT_le x).1
def boundI : NItem := ⟨2, ⟨⟨Inf, 0, 0⟩, 0, 0, 0⟩, 0⟩
def boundedB (N : WN) : WN := ⟨N.old, N.ms, N.q, N.fl, [-1, -1, Inf]⟩
theorem BInv.bound {all : List Msg} {N : WN} (h : BInv all N) : hearB N 2 boundI = ⟨0, [], boundedB N⟩ := by
  unfold hearB
  rw [hear_args (by refine ⟨by omega, ?_, by omega⟩; show (2 : Int) < ((3 : Nat) : Int); omega)]
  have h2 : N.at' 2 = 0 := by unfold WN.at'; rw [h.clk]; rfl
  show (if N.at' 2 < 0 ∨ validT Inf = false then _ else if Inf < N.at' 2 then _ else _) = _
  rw [h2, if_neg (by decide), if_neg (by decide), h.clk]
  rfl
theorem hear_early {N : WN} (h1 : N.at' 1 = -1) {m : Msg} {c : Int} (hm : m.key.T < N.fl) : hearB N 1 ⟨0, m, c⟩ = ⟨110, [], N⟩ ∧ hearB N 1 ⟨1, m, c⟩ = ⟨110, [], N⟩ := by
  have hj : (0 : Int) ≤ 1 ∧ (1 : Int) < boldW.Feds.length ∧ (1 : Int) ≠ ((0 : Nat) : Int) := ⟨by omega, by show (1 : Int) < ((3 : Nat) : Int); omega, by omega⟩
  constructor
  · unfold hearB
    rw [hear_args hj]
    show (if m.key.T < N.fl ∨ (0 ≤ N.at' 1 ∧ m.key.T < N.at' 1) then _ else _) = _
    rw [if_pos (.inl hm)]
  · unfold hearB
    rw [hear_args hj]
    show (if 0 ≤ N.at' 1 then _ else if m.key.T < N.fl then _ else _) = _
    rw [if_neg (by omega), if_pos hm]
theorem BInv.twice {all : List Msg} {N : WN} (h : BInv all N) {m : Msg} {c : Int} (hm : 0 ≤ m.key.T) (hin : ∃ y ∈ all, y.key = m.key) : hearB N 1 ⟨0, m, c⟩ = ⟨3, [], N⟩ := by
  unfold hearB
  rw [hear_args (by refine ⟨by omega, ?_, by omega⟩; show (1 : Int) < ((3 : Nat) : Int); omega)]
  show (if m.key.T < N.fl ∨ (0 ≤ N.at' 1 ∧ m.key.T < N.at' 1) then _ else if hasK m.key (N.ms ++ N.q) = true then _ else _) = _
  have h1 := h.at1
  have h2 := h.fl
  rw [if_neg (by omega), h.line, if_pos (hasK_iff.2 hin)]
theorem commit_local {all : List Msg} {N : WN} (h : BInv all N) : commitWE (boundedB N) (localW (boundedB N)) = 0 := by
  have h1 : 0 ≤ localW (boundedB N) := leastT_ge _
  have h2 : (boundedB N).fl = 0 := h.fl
  unfold commitWE
  rw [if_neg (by omega), if_neg (by omega)]
def mT (y j b : Int) : Msg := ⟨⟨y, 1, j⟩, 0, 0, b⟩
theorem warpTwice_s {v : Value} {l : List Int} {st : Int} {S : HP} (hS : Sat e w (S :: Q)) (hr : ∀ g, S g → rdS 1 (intsK .u8) v l g) (hw : ∀ m ∈ l, (Lit.int .u8 m).wf = true) (hst : (Lit.int .u8 st).wf = true)
    (hk : ∀ w', Sat e w' (S :: Q) → K (.bool true) w') : Cl prog 5 #[v, .int .u8 st] w K := by
  have hst' := wf8p hst
  refine pacelinelaw15_WarpTwice_calls ?_
  unfold pacelinelaw15_WarpTwice
  refine lnS_rd hS 0 rfl hr ?_
  refine gt_c (fun c0 => gd_tf (gd_tf (pk_t (iff_t (shown15_s hS fun w2 h2 => hk _ h2))))) (fun c0 => gd_ff ?_)
  refine shown15_s hS fun w1 h1 => gd_ff (not_t (pk_f (iff_f ?_)))
  refine startB_s h1 fun r w2 h2 => ?_
  refine xt_02 (xt_12 (ne_f rfl (gd_ff (gd_ff (bnp_s _ (pk_f (iff_f ?_)))))))
  refine lpi1 (fun mm t w => ∃ (j : Nat) (all : List Msg) (N : WN), j ≤ l.length ∧ t = .int .i64 j ∧ mm = l.length - j ∧ BInv all N ∧ all.length = j ∧ (∀ m ∈ all, m.key.Seq < j) ∧ (∀ (i : Nat) y, i < j → l[i]? = some y → mT y i 0 ∈ all) ∧ Sat e w (IsB r N 0 :: S :: Q)) l.length
    ⟨0, [], B0, Nat.zero_le _, rfl, rfl, .init, rfl, by simp, fun i y h => absurd h (Nat.not_lt_zero _), h2⟩ ?_
  rintro mm _ w g1 ⟨j, all, N, hj, rfl, rfl, hI, hal, hseq, hall, h3⟩ hg1
  refine lnS_rd h3 1 rfl hr ?_
  have hj30 : l.length ≤ 30 := by omega
  refine lt_c (fun c => iff_t ?_) (fun c => iff_f ?_)
  · obtain ⟨y, hy⟩ := get_of_lt (l := l) (j := j) (by omega)
    have hyw := wf8p (hw y (List.mem_of_getElem? hy))
    refine ixS_rd h3 1 rfl hr (fun _ => rfl) hy fun a ha => ld1_of h3 1 rfl ha (v := .int .u8 y) rfl (cv_s ?_)
    rw [wrapU8 hyw]
    refine bld_s (ints [y, 1, j]) (by kernel_rfl) (bld_s (mT y j 0).cs (by kernel_rfl) (bld_s (⟨0, mT y j 0, 0⟩ : NItem).cs (by kernel_rfl) ?_))
    have hW := warp_ok 0 h3 rfl
    have hne : ∀ z ∈ all, z.key ≠ (mT y j 0).key := fun z hz he => by
      have := hseq z hz
      rw [he] at this
      exact Int.lt_irrefl _ this
    obtain ⟨hhe, hI2⟩ := hI.hear hW (m := mT y j 0) (c := 0) hyw.1 rfl hne (by omega)
    refine warp_Hear_s (i := ⟨0, mT y j 0, 0⟩) (by show In64 y; unfold In64; omega) h3 fun v59 w4 h4 => ?_
    rw [show hearW boldW 0 bF0 N 1 ⟨0, mT y j 0, 0⟩ = _ from hhe] at h4
    refine inc_s (by omega) ?_
    refine hg1 _ _ _ (by omega) ⟨j + 1, insK (mT y j 0) all, heardB N (mT y j 0), by omega, rfl, rfl, hI2, by rw [insK_len, hal], fun z hz => ?_, fun i y' hi' hy' => ?_, h4.drop⟩
    · rcases insK_mem.1 hz with rfl | hz
      · show (j : Int) < _; omega
      · have := hseq z hz; omega
    · rw [insK_mem]
      by_cases hij : i = j
      · subst hij
        rw [hy] at hy'
        cases hy'
        exact .inl rfl
      · exact .inr (hall i y' (by omega) hy')
  -- some steps
  obtain ⟨lim, hlim⟩ : ∃ lim : Nat, st % 40 = lim := ⟨(st % 40).toNat, by omega⟩
  refine lpi1 (fun mm t w => ∃ (i : Nat) (N : WN), t = .int .i64 i ∧ mm = lim - i ∧ i ≤ lim ∧ BInv all N ∧ Sat e w (IsB r N i :: S :: Q)) lim ⟨0, N, rfl, rfl, Nat.zero_le _, hI, h3⟩ ?_
  rintro mm _ w g2 ⟨i, N2, rfl, rfl, hi, hI2, h4⟩ hg2
  refine cv_s ?_
  rw [wrapU8 hst']
  refine rem_s (by omega) ?_
  rw [Int.tmod_eq_emod_of_nonneg (by omega), hlim]
  refine lt_c (fun c1 => iff_t ?_) (fun c1 => iff_f ?_)
  · refine stepB_s (by omega) hI2 h4 fun N3 v' w5 hI3 _ h5 => ?_
    refine inc_s (by omega) ?_
    exact hg2 _ _ _ (by omega) ⟨i + 1, N3, rfl, rfl, by omega, hI3, h5⟩
  -- each again
  have ej : j = l.length := by omega
  refine lpi1 (fun mm t w => ∃ a : Nat, t = .int .i64 a ∧ mm = l.length - a ∧ a ≤ l.length ∧ Sat e w (IsB r N2 i :: S :: Q)) l.length ⟨0, rfl, rfl, Nat.zero_le _, h4⟩ ?_
  rintro mm _ w g3 ⟨a, rfl, rfl, ha, h5⟩ hg3
  refine lnS_rd h5 1 rfl hr ?_
  refine lt_c (fun c2 => iff_t ?_) (fun c2 => iff_f ?_)
  · obtain ⟨y, hy⟩ := get_of_lt (l := l) (j := a) (by omega)
    have hyw := wf8p (hw y (List.mem_of_getElem? hy))
    refine ixS_rd h5 1 rfl hr (fun _ => rfl) hy fun p hp => ld1_of h5 1 rfl hp (v := .int .u8 y) rfl (cv_s ?_)
    rw [wrapU8 hyw]
    refine bld_s (ints [y, 1, a]) (by kernel_rfl) (bld_s (mT y a 5).cs (by kernel_rfl) (bld_s (⟨0, mT y a 5, 0⟩ : NItem).cs (by kernel_rfl) ?_))
    have hhe := hI2.twice (m := mT y a 5) (c := 0) hyw.1 ⟨mT y a 0, hall a y (by omega) hy, rfl⟩
    refine warp_Hear_s (i := ⟨0, mT y a 5, 0⟩) (by show In64 y; unfold In64; omega) h5 fun v59 w6 h6 => ?_
    rw [show hearW boldW 0 bF0 N2 1 ⟨0, mT y a 5, 0⟩ = _ from hhe] at h6 ⊢
    refine xt_02 (xt_12 (ne_f rfl (iff_f (inc_s (by omega) ?_))))
    exact hg3 _ _ _ (by omega) ⟨a + 1, rfl, rfl, by omega, h6.drop⟩
  refine bld_s (ints [Inf, 0, 0]) (by kernel_rfl) (bld_s boundI.m.cs (by kernel_rfl) (bld_s boundI.cs (by kernel_rfl) ?_))
  refine warp_Hear_s (i := boundI) (by show In64 Inf; unfold In64 Inf; omega) h5 fun v6 w6 h6 => ?_
  rw [show hearW boldW 0 bF0 N2 2 boundI = _ from hI2.bound] at h6
  refine warp_Local_s h6.drop fun w7 h7 => ?_
  obtain ⟨t, ht⟩ : ∃ t, t = localW (boundedB N2) := ⟨_, rfl⟩
  have hce := commit_local hI2
  have ht0 : 0 ≤ t := by rw [ht]; exact leastT_ge _
  have ht1 : t ≤ Inf := by rw [ht]; exact leastT_inf _
  rw [← ht] at hce ⊢
  refine warp_Commit_s (by omega) h7 (fun h => absurd hce h) fun _ v8 u8 w8 h8 => ?_
  replace h8 : Sat e w8 (IsB r (commitWN (boundedB N2) t) i :: S :: Q) := h8.drop.drop
  refine warp_Floor_s h8 ?_
  have hfl3 : (commitWN (boundedB N2) t).fl = t := rfl
  have hat3 : (commitWN (boundedB N2) t).at' 1 = -1 := rfl
  rw [hfl3]
  generalize commitWN (boundedB N2) t = N3 at h8 hfl3 hat3
  unfold Inf at ht1
  refine sub_s (by omega) (by omega) ?_
  obtain ⟨h110, ha110⟩ := hear_early hat3 (m := mT (t - 1) 99 0) (c := 0) (by show t - 1 < _; omega)
  refine bld_s (ints [t - 1, 1, 99]) (by kernel_rfl) (bld_s (mT (t - 1) 99 0).cs (by kernel_rfl) (bld_s (⟨0, mT (t - 1) 99 0, 0⟩ : NItem).cs (by kernel_rfl) ?_))
  refine warp_Hear_s (i := ⟨0, mT (t - 1) 99 0, 0⟩) (by show In64 (t - 1); unfold In64; omega) h8 fun v9 w9 h9 => ?_
  rw [show hearW boldW 0 bF0 N3 1 ⟨0, mT (t - 1) 99 0, 0⟩ = _ from h110] at h9 ⊢
  refine xt_02 (xt_12 (sub_s (by omega) (by omega) ?_))
  refine bld_s (ints [t - 1, 1, 99]) (by kernel_rfl) (bld_s (mT (t - 1) 99 0).cs (by kernel_rfl) (bld_s (⟨1, mT (t - 1) 99 0, 0⟩ : NItem).cs (by kernel_rfl) ?_))
  refine warp_Hear_s (i := ⟨1, mT (t - 1) 99 0, 0⟩) (by show In64 (t - 1); unfold In64; omega) h9.drop fun v10 w10 h10 => ?_
  rw [show hearW boldW 0 bF0 N3 1 ⟨1, mT (t - 1) 99 0, 0⟩ = _ from ha110] at h10 ⊢
  refine xt_02 (xt_12 (eq_t rfl (gd_tt (gd_tt (eq_t rfl (pk_t ?_))))))
  exact hk _ h10.drop.drop
end Go.Proofs.YtbopajpmadlmhaaGreat
end
section
namespace Go.Proofs.YtbopajpmadlmhaaGreat
open Go Go.E
set_option maxRecDepth 100000
variable {e w : World} {L Q R : List HP} {K : KV} {S S2 : HP}

structure WOp where
  Kind : Int
  From' : Int
  T : Int
  I : NItem
def WOp.ns (o : WOp) : List Int := [o.Kind, o.From', o.T, o.I.Kind, o.I.m.key.T, o.I.m.key.From, o.I.m.key.Seq, o.I.m.To, o.I.m.Class, o.I.m.Body, o.I.Colour]
abbrev WOp.cs (o : WOp) : List Value := ints o.ns
def WOp.of (l : List Int) : WOp := ⟨l.getD 0 0, l.getD 1 0, l.getD 2 0, ⟨l.getD 3 0, ⟨⟨l.getD 4 0, l.getD 5 0, l.getD 6 0⟩, l.getD 7 0, l.getD 8 0, l.getD 9 0⟩, l.getD 10 0⟩⟩
theorem WOp.of_ns {l : List Int} (h : l.length = 11) : (WOp.of l).ns = l := by
  match l, h with
  | [_, _, _, _, _, _, _, _, _, _, _], _ => rfl
theorem WOp.of_cs {l : List Int} (h : l.length = 11) : (WOp.of l).cs = ints l := congrArg ints (WOp.of_ns h)
def WOp.wf (o : WOp) : Prop := ∀ m ∈ o.ns, (Lit.int .i64 m).wf = true
theorem WOp.wf.t {o : WOp} (h : o.wf) : In64 o.I.m.key.T := In64.of_wf (h _ (by simp [WOp.ns]))

section
variable {wd : Wd} {f : Nat} {fd : Fed} {N : WN} {k : Nat}
theorem hear_fl (j : Int) (i : NItem) : (hearW wd f fd N j i).N.fl = N.fl := by
  unfold hearW
  repeat' split
  all_goals rfl
theorem hear_old (j : Int) (i : NItem) : (hearW wd f fd N j i).N.old = N.old := by
  unfold hearW
  repeat' split
  all_goals rfl
theorem hear_ok_T {j : Int} {i : NItem} (he : (hearW wd f fd N j i).e = 0) (hk : i.Kind ≠ 2) : N.fl ≤ i.m.key.T := by
  unfold hearW at he
  split at he
  · cases he
  · split at he
    · split at he
      · cases he
      · rename_i h
        have : ¬ i.m.key.T < N.fl := fun h0 => h (.inl h0)
        omega
    · split at he
      · split at he
        · cases he
        · split at he
          · cases he
          · omega
      · cases he
theorem clampT_mono {a b : Int} (h : a ≤ b) : clampT a ≤ clampT b := by unfold clampT Inf MaxT; split <;> split <;> (try split) <;> (try split) <;> omega
theorem addT_mono {a b c d : Int} (h1 : a ≤ b) (h2 : c ≤ d) : addT a c ≤ addT b d := by
  have h3 := clampT_mono h1
  have h4 := clampT_mono h2
  exact clampT_mono (by omega)
end
theorem opened_fine {N : WN} {k : Nat} (hW : WOk boldW 0 bF0 N k) {t : Int} {m : Msg} (hm : m ∈ openedW boldW 0 bF0 N t) : promiseW bF0 N ≤ m.key.T ∧ m.To = 2 := by
  unfold openedW at hm
  obtain ⟨y, hy, rfl⟩ := List.mem_map.1 hm
  obtain ⟨x, hx, hy⟩ := List.mem_flatMap.1 hy
  obtain ⟨hc, ho, hb⟩ := kept_cause hy
  obtain ⟨hxm, b, hxe⟩ := runE_mem hx
  have hfl := hW.ms_hi x.m (early_mem.1 hxm).1
  rw [hxe] at ho
  have hto := (ent_outs hW.may hW.hfd b x.m).2 y.m ho
  obtain ⟨i, o, to, h1, _, h3⟩ := spread_mem ho
  have hod : 2 ≤ o.Delay := by
    have hom := List.mem_of_getElem? h1
    rcases stepR_cases bF0.Rules b.1 x.m.Class with ⟨r, hr, _, _, he⟩ | ⟨_, he⟩
    · rw [he] at hom
      have hr' : r = bR0 ∨ r = bR1 := by simpa [bF0] using hr
      rcases hr' with rfl | rfl
      · have : o = ⟨1, 2, 1⟩ := by simpa [bR0] using hom
        rw [this]; decide
      · have : o = ⟨1, 3, 5⟩ ∨ o = ⟨1, 4, 7⟩ := by simpa [bR1] using hom
        rcases this with rfl | rfl <;> decide
    · rw [he] at hom
      cases hom
  constructor
  · have ht : y.m.key.T = addT x.m.key.T o.Delay := by rw [h3]; rfl
    rw [ht]
    exact addT_mono hfl hod
  · have h4 : y.m.To < 3 := hto.2.1
    have h5 : y.m.To ≠ 0 := hto.2.2
    have h6 : y.m.To ≠ 1 := fun h => by rw [h] at hb; revert hb; decide
    omega
theorem warpPromise_s {v : Value} {l : List WOp} {S : HP} (hS : Sat e w (S :: Q)) (hr : ∀ g, S g → rdS 11 WOp.cs v l g) (hw : ∀ x ∈ l, ∀ m ∈ x.ns, (Lit.int .i64 m).wf = true)
    (hk : ∀ w', Sat e w' (S :: Q) → K (.bool true) w') : Cl prog 7 #[v] w K := by
  refine pacelinelaw15_WarpPromise_calls ?_
  unfold pacelinelaw15_WarpPromise
  refine lnS_rd hS 0 rfl hr ?_
  refine gt_c (fun c0 => gd_tf (gd_tf (pk_t (iff_t (shown15_s hS fun w2 h2 => hk _ h2))))) (fun c0 => gd_ff ?_)
  refine shown15_s hS fun w1 h1 => gd_ff (not_t (pk_f (iff_f ?_)))
  refine startB_s h1 fun r w2 h2 => ?_
  refine xt_02 (xt_12 (ne_f rfl (gd_ff (gd_ff (bnp_s _ (pk_f (iff_f ?_)))))))
  rw [zero_70]
  refine lpi3 (fun mm t5 t6 t7 w => ∃ (j : Nat) (N : WN) (k : Nat) (pr nl : Int), j ≤ l.length ∧ t7 = .int .i64 j ∧ mm = l.length - j ∧ t5 = .int .i64 pr ∧ t6 = .int .i64 nl ∧ pr ≤ promiseW bF0 N ∧ nl ≤ N.old.length ∧ k ≤ j ∧ Sat e w (IsB r N k :: S :: Q)) l.length
    ⟨0, B0, 0, 0, 0, Nat.zero_le _, rfl, rfl, rfl, rfl, by decide, by decide, Nat.le_refl _, h2⟩ ?_
  rintro mm _ _ _ w g1 ⟨j, N, k, pr, nl, hj, rfl, rfl, rfl, rfl, hpr, hnl, hkj, h3⟩ hg1
  have hlog : ∀ (N : WN), (N.log boldW 0 bF0).length = N.old.length := fun N => by unfold WN.log; rw [List.length_map, runE_len]
  refine lnS_rd h3 1 rfl hr ?_
  refine lt_c (fun c => iff_t ?_) (fun c => iff_f ?_)
  · obtain ⟨o, ho⟩ := get_of_lt (l := l) (j := j) (by omega)
    have hom := List.mem_of_getElem? ho
    have hwf : o.wf := hw o hom
    have hW := warp_ok 0 h3 rfl
    refine ixS_rd h3 1 rfl hr (fun _ => rfl) ho fun a ha => ldN_of h3 1 rfl ha rfl ?_
    refine al_s (cs := ints [0, 0, 0, 0, 0, 0, 0, 0, 0, 0, 0]) h3 rfl fun t8 w4 h4 => ?_
    refine stN_at h4 0 rfl (vs := o.cs) rfl rfl (by simp [ints]) (ints_flat _) (cs' := o.cs) (by rfl) fun w5 h5 => ?_
    replace h5 : Sat e w5 (blk t8 70 o.cs :: IsB r N k :: S :: Q) := h5
    refine fld_at (ld1_at h5 0 rfl (v := .int .i64 o.Kind) rfl ?_)
    refine J0.cut (fun w' => ∃ (N' : WN) (k' : Nat), N.fl ≤ N'.fl ∧ N.old.length ≤ N'.old.length ∧ k' ≤ k + 1 ∧ Sat e w' (IsB r N' k' :: S :: Q)) (fun k2 hk2 => ?_) ?_
    · refine eq_c (fun c1 => iff_t ?_) (fun c1 => iff_f ?_)
      · refine fld_at (ld1_at h5 0 rfl (v := .int .i64 o.From') rfl (fld_at (ldN_at h5 0 (vs := o.I.cs) rfl (by rfl) rfl ?_)))
        refine warp_Hear_s (i := o.I) hwf.t h5.swap fun v6 w6 h6 => ?_
        obtain ⟨R, hR⟩ : ∃ R, R = hearW boldW 0 bF0 N o.From' o.I := ⟨_, rfl⟩
        have hRf : R.N.fl = N.fl := by rw [hR]; exact hear_fl ..
        have hRo : R.N.old = N.old := by rw [hR]; exact hear_old ..
        have hRT : R.e = 0 → o.I.Kind ≠ 2 → N.fl ≤ o.I.m.key.T := fun h1 h2 => by rw [hR] at h1; exact hear_ok_T h1 h2
        rw [← hR] at h6 ⊢
        replace h6 : Sat e w6 (IsB r R.N k :: blk t8 70 o.cs :: S :: Q) := h6.drop
        refine xt_02 (xt_12 (dr_s h6 fun w7 h7 => ?_))
        have done : ∀ w', Sat e w' (IsB r R.N k :: blk t8 70 o.cs :: S :: Q) → k2 w' := fun w' h => hk2 _ ⟨R.N, k, by rw [hRf]; exact Int.le_refl _, by rw [hRo]; exact Nat.le_refl _, by omega, h.selR [_, _, _] [_, _] [0, 2] (by decide) rfl⟩
        refine eq_c (fun d1 => gd_tt (fld_at (gd_tt (fld_at (gd_tt (ld1_at h7 1 rfl (v := .int .i64 o.I.Kind) rfl (gd_tt ?_))))))) (fun d1 => ?_)
        · refine ne_c (fun d2 => pk_t ?_) (fun d2 => pk_t ?_)
          · have hTT := hRT d1 d2
            refine gd_tt (fld_at (gd_tt (fld_at (gd_tt (fld_at (gd_tt (fld_at (gd_tt (ld1_at h7 1 rfl (v := .int .i64 o.I.m.key.T) rfl ?_)))))))))
            refine gd_tt (gd_tt (warp_Floor_s h7 ?_))
            refine ⟨gd_tt (ld1_at h7 1 rfl (v := .int .i64 o.I.m.key.T) rfl ⟨rfl, rfl⟩), gd_tt ?_⟩
            rw [hRf]
            exact lt_f (by omega) (pk_t (iff_f (done _ h7)))
          · refine gd_ft (gd_ft (gd_ft (gd_ft (gd_ft (gd_ft (gd_ft ?_))))))
            exact ⟨gd_ft ⟨rfl, rfl⟩, gd_ft (pk_f (iff_f (done _ h7)))⟩
        · refine gd_ft (gd_ft (gd_ft (gd_ft (pk_f ?_))))
          refine gd_ft (gd_ft (gd_ft (gd_ft (gd_ft (gd_ft (gd_ft ?_))))))
          exact ⟨gd_ft ⟨rfl, rfl⟩, gd_ft (pk_f (iff_f (done _ h7)))⟩
      refine eq_c (fun c2 => iff_t ?_) (fun c2 => iff_f ?_)
      · refine warp_Step_s (by omega) h5.swap (fun hn w6 h6 => ?_) (fun he v6 w6 h6 => ?_)
        · exact hk2 _ ⟨N, k, Int.le_refl _, Nat.le_refl _, by omega, h6.selR [_, _, _] [_, _] [0, 2] (by decide) rfl⟩
        · exact hk2 _ ⟨stepWN N, k + 1, Int.le_refl _, Nat.le_refl _, Nat.le_refl _, h6.selR [_, _, _, _] [_, _] [1, 3] (by decide) rfl⟩
      refine eq_c (fun c3 => iff_t ?_) (fun c3 => iff_f ?_)
      · refine fld_at (ld1_at h5 0 rfl (v := .int .i64 o.T) rfl ?_)
        have loop : ∀ (msgs : List Msg) (v89 : Value) (er : Int) (N' : WN) (w6 : World), (∀ m ∈ msgs, promiseW bF0 N ≤ m.key.T ∧ m.To = 2) → msgs.length ≤ 1000000 → (er = 0 → N'.fl = o.T) → N.fl ≤ N'.fl → N.old.length ≤ N'.old.length → Sat e w6 (ownS 37 6 Msg.cs v89 msgs :: IsB r N' k :: blk t8 70 o.cs :: S :: Q) →
            lp [(Value.int IntKind.i64 0)] w6 (b1 fun t14 w g3 => lnS v89 w fun t93 w => bi .lss .i64 t14 t93 w fun t94 w => iff' t94
            (ixS 6 v89 t14 w fun t99 w => fld 0 t99 w fun t100 w => fld 0 t100 w fun t101 w => ld1 t101 w fun t102 w => bi .lss .i64 t102 (.int .i64 pr) w fun t104 w => gd t104 false (fun k => k v89 w) w fun t106 w => gd t104 false (fun k => k t14 w) w fun t107 w => gd t104 false (fun k => ixS 6 t106 t107 w k) w fun t108 w =>
              gd t104 false (fun k => fld 3 t108 w k) w fun t109 w => gd t104 false (fun k => ld1 t109 w k) w fun t110 w => gd t104 false (fun k => bi .neq .i64 t110 (Value.int IntKind.i64 2) w k) w fun t111 w => pk t104 (Value.bool true) t111 w fun t112 w => iff' t112 (K (Value.bool false) w) (bi .add .i64 t14 (Value.int IntKind.i64 1) w fun t96 w => g3 [t96] w))
            (dr w fun w => bi .eql .i64 (.int .i64 er) (Value.int IntKind.i64 0) w fun t114 _ => gd t114 true (fun k => k (.pointer (some ⟨r, 0, none⟩)) w) w fun t116 _ => gd t114 true (fun k => fld 2 (.pointer (some ⟨t8, 0, none⟩)) w k) w fun t118 _ => gd t114 true (fun k => ld1 t118 w k) w fun t119 _ => gd t114 true (fun k => Cl prog 19 #[t116] w k) w fun t117 w =>
              (gd t114 true (fun k => ld1 t118 w k) w (fun v' w'' => v' = t119 ∧ w'' = w)) ∧ (gd t114 true (fun k => bi .neq .i64 t117 t119 w k) w fun t120 _ => pk t114 t120 (Value.bool false) w fun t121 _ => iff' t121 (K (Value.bool false) w) (k2 w)))) := by
          intro msgs v89 er N' w6 hms hml her hfl' hol' h6
          refine lpi1 (fun mm t14 w => ∃ a : Nat, a ≤ msgs.length ∧ t14 = .int .i64 a ∧ mm = msgs.length - a ∧ Sat e w (ownS 37 6 Msg.cs v89 msgs :: IsB r N' k :: blk t8 70 o.cs :: S :: Q)) msgs.length ⟨0, Nat.zero_le _, rfl, rfl, h6⟩ ?_
          rintro mm _ w g3 ⟨a, ha, rfl, rfl, h7⟩ hg3
          refine lnS_rd h7 0 rfl (fun g hg => own_rd hg) ?_
          refine lt_c (fun d1 => iff_t ?_) (fun d1 => iff_f ?_)
          · obtain ⟨m, hm⟩ := get_of_lt (l := msgs) (j := a) (by omega)
            have hmf := hms m (List.mem_of_getElem? hm)
            refine ixS_rd h7 0 rfl (fun g hg => own_rd hg) (fun _ => rfl) hm fun p hp => ?_
            refine fld_of hp fun p1 hp1 => fld_of hp1 fun p2 hp2 => ld1_of h7 0 rfl hp2 (v := .int .i64 m.key.T) rfl ?_
            refine lt_f (by omega) (gd_ff (gd_ff (gd_ff ?_)))
            refine ixS_rd h7 0 rfl (fun g hg => own_rd hg) (fun _ => rfl) hm fun p3 hp3 => ?_
            refine gd_ff (fld_of hp3 fun p4 hp4 => gd_ff (ld1_of h7 0 rfl hp4 (v := .int .i64 m.To) rfl (gd_ff (ne_f hmf.2 (pk_f (iff_f (inc_s (by omega) ?_)))))))
            exact hg3 _ _ _ (by omega) ⟨a + 1, by omega, rfl, rfl, h7⟩
          · refine dr_s h7 fun w8 h8 => ?_
            have done : ∀ w', Sat e w' (IsB r N' k :: ownS 37 6 Msg.cs v89 msgs :: blk t8 70 o.cs :: S :: Q) → k2 w' := fun w' h => hk2 _ ⟨N', k, hfl', hol', by omega, h.selR [_, _, _, _] [_, _] [0, 3] (by decide) rfl⟩
            refine eq_c (fun d2 => ?_) (fun d2 => ?_)
            · refine gd_tt (gd_tt (fld_at (gd_tt (ld1_at h8 2 rfl (v := .int .i64 o.T) rfl (gd_tt (warp_Floor_s h8.swap ?_))))))
              refine ⟨gd_tt (ld1_at h8 2 rfl (v := .int .i64 o.T) rfl ⟨rfl, rfl⟩), gd_tt (ne_f (her d2) (pk_t (iff_f (done _ h8.swap))))⟩
            · refine gd_ft (gd_ft (gd_ft (gd_ft ?_)))
              exact ⟨gd_ft ⟨rfl, rfl⟩, gd_ft (pk_f (iff_f (done _ h8.swap)))⟩
        refine warp_Commit_s (by omega) h5.swap (fun hn w6 h6 => ?_) (fun he v6 u6 w6 h6 => ?_)
        · refine xt_03 (xt_13 (xt_23 ?_))
          exact loop [] _ _ N w6 (fun m hm => by cases hm) (by simp) (fun h => absurd h hn) (Int.le_refl _) (Nat.le_refl _) (h6.own_nil 37 6 Msg.cs)
        · refine xt_03 (xt_13 (xt_23 ?_))
          have hft := (commitE_ok he).1
          have hgl := gate_le hW.may hW.hfd (earlyM o.T N.ms) (N.base bF0)
          have hel : (earlyM o.T N.ms).length ≤ N.ms.length := List.length_filter_le ..
          have hml := hW.ml
          refine loop (openedW boldW 0 bF0 N o.T) _ _ (commitWN N o.T) w6 (fun m hm => opened_fine hW hm) ?_ (fun _ => rfl) hft ?_ h6.drop
          · unfold openedW settledE
            rw [List.length_map]
            omega
          · show N.old.length ≤ (N.old ++ earlyM o.T N.ms).length
            rw [List.length_append]
            omega
      · exact hk2 _ ⟨N, k, Int.le_refl _, Nat.le_refl _, by omega, h5.drop⟩
    · rintro w6 ⟨N', k', hfl', hol', hk', h6⟩
      have hpm : promiseW bF0 N ≤ promiseW bF0 N' := addT_mono hfl' (Int.le_refl _)
      refine warp_Promise_s h6 fun w7 h7 => ?_
      refine lt_f (by omega) (gd_ff (gd_ff ?_))
      refine warp_Log_s (by omega) h7 fun v8 w8 h8 => ?_
      refine gd_ff (lnS_rd h8 0 rfl (fun g hg => own_rd hg) (gd_ff (gd_ff ?_)))
      rw [hlog]
      refine lt_f (by omega) (pk_f (iff_f ?_))
      refine warp_Promise_s h8.drop fun w9 h9 => ?_
      refine warp_Log_s (by omega) h9 fun v10 w10 h10 => ?_
      refine lnS_rd h10 0 rfl (fun g hg => own_rd hg) ?_
      rw [hlog]
      refine inc_s (by omega) ?_
      exact hg1 _ _ _ _ _ (by omega) ⟨j + 1, N', k', promiseW bF0 N', N'.old.length, by omega, rfl, rfl, rfl, rfl, Int.le_refl _, Int.le_refl _, by omega, h10.drop⟩
  · have hW := warp_ok 0 h3 rfl
    refine warp_Log_s (by omega) h3 fun v4 w4 h4 => ?_
    obtain ⟨lg, hlg⟩ : ∃ lg, lg = N.log boldW 0 bF0 := ⟨_, rfl⟩
    have hkeys : lg.map (fun d => d.m) = N.old := by
      rw [hlg]
      unfold WN.log
      rw [List.map_map]
      exact runE_map boldW 0 bF0 N.old (begE bF0)
    have hup : Upk N.old := hW.up.left
    have hlen : lg.length = N.old.length := by rw [← hkeys, List.length_map]
    have hcnt := hW.cnt
    rw [← hlg] at h4
    refine lpi1 (fun mm t16 w => ∃ a : Nat, 1 ≤ a ∧ t16 = .int .i64 a ∧ mm = lg.length + 1 - a ∧ a ≤ lg.length + 1 ∧ Sat e w (DD v4 lg :: IsB r N k :: S :: Q)) lg.length ⟨1, Nat.le_refl _, rfl, by omega, by omega, h4⟩ ?_
    rintro mm _ w g4 ⟨a, ha, rfl, rfl, ha2, h5⟩ hg4
    refine lnS_rd h5 0 rfl (fun g hg => own_rd hg) ?_
    refine lt_c (fun d1 => iff_t ?_) (fun d1 => iff_f ?_)
    · obtain ⟨x, hx⟩ := get_of_lt (l := lg) (j := a - 1) (by omega)
      obtain ⟨y, hy⟩ := get_of_lt (l := lg) (j := a) (by omega)
      have hxy : KeyLt x.m.key y.m.key := by
        rw [← hkeys] at hup
        have h1 := List.pairwise_map.1 hup
        obtain ⟨hi', rfl⟩ := List.getElem?_eq_some_iff.1 hx
        obtain ⟨hj', rfl⟩ := List.getElem?_eq_some_iff.1 hy
        exact List.pairwise_iff_getElem.1 h1 (a - 1) a hi' hj' (by omega)
      refine dr_s h5 fun w6 h6 => ?_
      refine sub_s (by omega) (by omega) ?_
      rw [show (a : Int) - 1 = ((a - 1 : Nat) : Int) from by omega]
      refine ixS_rd h6 0 rfl (fun g hg => own_rd hg) (fun _ => rfl) hx fun p hp => ?_
      refine fld_of hp fun p1 hp1 => fld_of hp1 fun p2 hp2 => ldN_sub h6 0 rfl hp2 (us := x.m.key.cs) rfl rfl ?_
      refine ixS_rd h6 0 rfl (fun g hg => own_rd hg) (fun _ => rfl) hy fun p3 hp3 => ?_
      refine fld_of hp3 fun p4 hp4 => fld_of hp4 fun p5 hp5 => ldN_sub h6 0 rfl hp5 (us := y.m.key.cs) rfl rfl ?_
      refine ref01_Cmp_s h6 fun w7 h7 => ?_
      have hlt := cmpK_lt.2 hxy
      refine ge_f (by omega) (iff_f (inc_s (by omega) ?_))
      exact hg4 _ _ _ (by omega) ⟨a + 1, by omega, rfl, rfl, by omega, h7⟩
    · exact hk _ (h5.selR [_, _, _] [_] [2] (by decide) rfl)
end Go.Proofs.YtbopajpmadlmhaaGreat
end
