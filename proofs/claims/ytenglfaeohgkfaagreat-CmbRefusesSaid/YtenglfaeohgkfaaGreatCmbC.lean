/- The laws' small federation, and what is shown of it. Conditions: none. -/
import Derived.Test.YtenglfaeohgkfaaGreatCmbB
namespace Go.Proofs.YtenglfaeohgkfaaGreat
open Go Go.E
set_option maxRecDepth 100000
variable {e w : World} {L Q : List HP} {K : KV} {S S2 : HP}

def echoR : Rule := ⟨0, 0, 0, [⟨0, 2, 1⟩]⟩
def echoF : Fed := ⟨0, 2, 0, [echoR], [0], [0], []⟩
def echoW : Wd := ⟨[-1], [echoF, ⟨0, 1, 0, [], [0], [0], []⟩, ⟨0, 1, 0, [], [], [], []⟩], 100⟩
def N0 : ND := nodeI 3 0 echoF
theorem okRules_e : okRules [echoR] := ⟨by simp, fun r hr => by
  rw [List.mem_singleton.1 hr]
  refine ⟨by decide, by decide, by decide, by decide, by decide, by decide, by decide, fun o ho => ?_⟩
  have : o = ⟨0, 2, 1⟩ := List.mem_singleton.1 ho
  rw [this]
  exact ⟨by decide, by decide, by decide, by decide, by decide, by decide⟩, by simp⟩
theorem okRules_0 : okRules [] := ⟨by simp, by simp, by simp⟩
theorem echo_ok : (checkW echoW).2 = 0 := by
  have ht : treeE [-1] = 0 := by
    unfold treeE
    refine if_pos ⟨by simp, by simp, fun i p hp => ?_⟩
    match i with
    | 0 => simp at hp; omega
    | i + 1 => simp at hp
  have h1 : fedE echoF 1 = 0 := by
    rw [fedE_chain]
    simp [echoF, okRules_e, rising, okInit]
    simp [rulesE, sendsE, echoR]
  have h2 : fedE ⟨0, 1, 0, [], [0], [0], []⟩ 1 = 0 := by
    rw [fedE_chain]
    simp [okRules_0, rising, rulesE, okInit]
  have h3 : fedE ⟨0, 1, 0, [], [], [], []⟩ 1 = 0 := by
    rw [fedE_chain]
    simp [okRules_0, rising, rulesE, okInit]
  unfold checkW echoW
  rw [if_neg (by rw [ht]; decide), if_neg (by simp)]
  show (fedsE 1 0 _).2 = _
  rw [fedsE_cons, if_neg (by rw [h1]; decide), fedsE_cons, if_neg (by rw [h2]; decide), fedsE_cons, if_neg (by rw [h3]; decide)]
  rfl
theorem echo_s (hS : Sat e w Q) (hk : ∀ (x : WdX) (S : HP) w', x.w = echoW → x.wf → x.short → (∀ g, S g → RdWd x g) → Sat e w' (S :: Q) → K (.agg x.cs.toArray) w') : Cl prog 7 #[] w K := by
  refine pacelinelaw12_echo_calls ?_
  unfold pacelinelaw12_echo
  rw [zero_39]
  refine al_s (cs := [.slice none 0 0, .slice none 0 0, .int .i64 0]) hS rfl fun t0 w1 h1 => ?_
  refine bld_s (⟨0, 2, 1⟩ : Out).cs (by kernel_rfl) ?_
  refine bsl_s (⟨0, 2, 1⟩ : Out).cs h1 (by kernel_rfl) fun b3 w2 h2 => ?_
  obtain ⟨r0, hr0⟩ : ∃ r0 : RuleX, r0 = ⟨0, 0, 0, .slice (some ⟨b3, 0, none⟩) 1 1, [⟨0, 2, 1⟩]⟩ := ⟨_, rfl⟩
  refine bld_s [.int .i64 0, .int .i64 0, .int .i64 0, .slice (some ⟨b3, 0, none⟩) 1 1] (by kernel_rfl) ?_
  have hrc : [r0].flatMap RuleX.cs = [.int .i64 0, .int .i64 0, .int .i64 0, .slice (some ⟨b3, 0, none⟩) 1 1] := by rw [hr0]; rfl
  refine bsl_s [.int .i64 0, .int .i64 0, .int .i64 0, .slice (some ⟨b3, 0, none⟩) 1 1] h2 (by kernel_rfl) fun b5 w3 h3 => ?_
  rw [← hrc] at h3
  refine bsl_s (ints [-1]) h3 (by kernel_rfl) fun b6 w4 h4 => ?_
  refine bsl_s (ints [0]) h4 (by kernel_rfl) fun b8 w5 h5 => ?_
  refine bsl_s (ints [0]) h5 (by kernel_rfl) fun b9 w6 h6 => ?_
  obtain ⟨f0, hf0⟩ : ∃ f0 : FedX, f0 = ⟨0, 2, 0, .slice (some ⟨b5, 0, none⟩) 1 1, [r0], .slice (some ⟨b8, 0, none⟩) 1 1, [0], .slice (some ⟨b9, 0, none⟩) 1 1, [0], .slice none 0 0, []⟩ := ⟨_, rfl⟩
  refine bld_s [.int .i64 0, .int .i64 2, .int .i64 0, .slice (some ⟨b5, 0, none⟩) 1 1, .slice (some ⟨b8, 0, none⟩) 1 1, .slice (some ⟨b9, 0, none⟩) 1 1, .slice none 0 0] (by kernel_rfl) ?_
  refine bsl_s (ints [0]) h6 (by kernel_rfl) fun b11 w7 h7 => ?_
  refine bsl_s (ints [0]) h7 (by kernel_rfl) fun b12 w8 h8 => ?_
  obtain ⟨f1, hf1⟩ : ∃ f1 : FedX, f1 = ⟨0, 1, 0, .slice none 0 0, [], .slice (some ⟨b11, 0, none⟩) 1 1, [0], .slice (some ⟨b12, 0, none⟩) 1 1, [0], .slice none 0 0, []⟩ := ⟨_, rfl⟩
  refine bld_s [.int .i64 0, .int .i64 1, .int .i64 0, .slice none 0 0, .slice (some ⟨b11, 0, none⟩) 1 1, .slice (some ⟨b12, 0, none⟩) 1 1, .slice none 0 0] (by kernel_rfl) ?_
  obtain ⟨f2, hf2⟩ : ∃ f2 : FedX, f2 = ⟨0, 1, 0, .slice none 0 0, [], .slice none 0 0, [], .slice none 0 0, [], .slice none 0 0, []⟩ := ⟨_, rfl⟩
  refine bld_s [.int .i64 0, .int .i64 1, .int .i64 0, .slice none 0 0, .slice none 0 0, .slice none 0 0, .slice none 0 0] (by kernel_rfl) ?_
  obtain ⟨fc, hfc⟩ : ∃ fc : List Value, fc = [.int .i64 0, .int .i64 2, .int .i64 0, .slice (some ⟨b5, 0, none⟩) 1 1, .slice (some ⟨b8, 0, none⟩) 1 1, .slice (some ⟨b9, 0, none⟩) 1 1, .slice none 0 0, .int .i64 0, .int .i64 1, .int .i64 0, .slice none 0 0, .slice (some ⟨b11, 0, none⟩) 1 1, .slice (some ⟨b12, 0, none⟩) 1 1, .slice none 0 0, .int .i64 0, .int .i64 1, .int .i64 0, .slice none 0 0, .slice none 0 0, .slice none 0 0, .slice none 0 0] := ⟨_, rfl⟩
  have hcs : [f0, f1, f2].flatMap FedX.cs = fc := by rw [hf0, hf1, hf2, hfc]; rfl
  refine bsl_s fc h8 (by rw [hfc]; kernel_rfl) fun b15 w9 h9 => ?_
  rw [← hcs] at h9
  obtain ⟨x, hx⟩ : ∃ x : WdX, x = ⟨.slice (some ⟨b6, 0, none⟩) 1 1, [-1], .slice (some ⟨b15, 0, none⟩) 3 3, [f0, f1, f2], 100⟩ := ⟨_, rfl⟩
  refine bld_s [.slice (some ⟨b6, 0, none⟩) 1 1, .slice (some ⟨b15, 0, none⟩) 3 3, .int .i64 100] (by kernel_rfl) ?_
  have hxc : [.slice (some ⟨b6, 0, none⟩) 1 1, .slice (some ⟨b15, 0, none⟩) 3 3, .int .i64 100] = x.cs := by rw [hx]; rfl
  refine stN_at h9 8 rfl (vs := [.slice (some ⟨b6, 0, none⟩) 1 1, .slice (some ⟨b15, 0, none⟩) 3 3, .int .i64 100]) rfl rfl (by simp) (by simp [flat]) (cs' := [.slice (some ⟨b6, 0, none⟩) 1 1, .slice (some ⟨b15, 0, none⟩) 3 3, .int .i64 100]) (by rfl) fun w10 h10 => ?_
  refine ldN_at h10 8 (vs := [.slice (some ⟨b6, 0, none⟩) 1 1, .slice (some ⟨b15, 0, none⟩) 3 3, .int .i64 100]) rfl (by rfl) rfl ?_
  rw [hxc]
  have h11 : Sat e w10 (sepL [blk b15 72 ([f0, f1, f2].flatMap FedX.cs), blk b12 3 (ints [0]), blk b11 3 (ints [0]), blk b9 3 (ints [0]), blk b8 3 (ints [0]), blk b6 3 (ints [-1]), blk b5 80 ([r0].flatMap RuleX.cs), blk b3 78 (⟨0, 2, 1⟩ : Out).cs] :: Q) :=
    Sat.join (l' := [_, _, _, _, _, _, _, _]) (h10.selR [_, _, _, _, _, _, _, _, _] [_, _, _, _, _, _, _, _] [0, 1, 2, 3, 4, 5, 6, 7] (by decide) rfl)
  refine hk x _ _ ?_ ?_ ?_ ?_ h11
  · rw [hx, hf0, hf1, hf2, hr0]; rfl
  · rw [hx, hf0, hf1, hf2, hr0]
    refine ⟨by simp [i64, Lit.wf]; decide, fun f hf => ?_, rfl⟩
    simp only [List.mem_cons, List.not_mem_nil, or_false] at hf
    have h0 : ∀ n ∈ [(0 : Int)], i64 n := fun n hn => by rw [List.mem_singleton.1 hn]; rfl
    rcases hf with rfl | rfl | rfl
    · refine ⟨rfl, rfl, rfl, fun r hr => ?_, h0, h0, by simp⟩
      rw [List.mem_singleton.1 hr]
      refine ⟨rfl, rfl, rfl, fun o ho => ?_⟩
      have : o = ⟨0, 2, 1⟩ := List.mem_singleton.1 ho
      rw [this]
      exact ⟨rfl, rfl, rfl⟩
    · exact ⟨rfl, rfl, rfl, by simp, h0, h0, by simp⟩
    · exact ⟨rfl, rfl, rfl, by simp, by simp, by simp, by simp⟩
  · rw [hx, hf0, hf1, hf2, hr0]
    refine ⟨by simp, by simp, fun f hf => ?_⟩
    simp only [List.mem_cons, List.not_mem_nil, or_false] at hf
    rcases hf with rfl | rfl | rfl
    · refine ⟨by simp, by simp, by simp, by simp, fun r hr => ?_⟩
      rw [List.mem_singleton.1 hr]
      show [(⟨0, 2, 1⟩ : Out)].length ≤ _
      simp
    · exact ⟨by simp, by simp, by simp, by simp, by simp⟩
    · exact ⟨by simp, by simp, by simp, by simp, by simp⟩
  · intro g hg
    obtain ⟨g0, k0, s0⟩ := sepL_get (i := 0) hg rfl
    obtain ⟨g1, k1, s1⟩ := sepL_get (i := 1) hg rfl
    obtain ⟨g2, k2, s2⟩ := sepL_get (i := 2) hg rfl
    obtain ⟨g3, k3, s3⟩ := sepL_get (i := 3) hg rfl
    obtain ⟨g4, k4, s4⟩ := sepL_get (i := 4) hg rfl
    obtain ⟨g5, k5, s5⟩ := sepL_get (i := 5) hg rfl
    obtain ⟨g6, k6, s6⟩ := sepL_get (i := 6) hg rfl
    obtain ⟨g7, k7, s7⟩ := sepL_get (i := 7) hg rfl
    have nilR : ∀ {α : Type} (size : Nat) (f : α → List Value), rdS size f (.slice none 0 0) [] g := fun _ _ => ⟨none, 0, rfl, Nat.le_refl _, fun h => absurd h (by simp)⟩
    subst hx
    refine ⟨rdS_up s5 (blk_rdn (f := intsK .i64) [-1] rfl (Nat.le_refl _) g5 k5), rdS_up s0 (blk_rdn (f := FedX.cs) [f0, f1, f2] rfl (Nat.le_refl _) g0 k0), fun f hf => ?_⟩
    simp only [List.mem_cons, List.not_mem_nil, or_false] at hf
    rcases hf with rfl | rfl | rfl
    · subst hf0
      refine ⟨⟨rdS_up s6 (blk_rdn (f := RuleX.cs) [r0] rfl (Nat.le_refl _) g6 k6), fun r hr => ?_⟩, rdS_up s4 (blk_rdn (f := intsK .i64) [0] rfl (Nat.le_refl _) g4 k4), rdS_up s3 (blk_rdn (f := intsK .i64) [0] rfl (Nat.le_refl _) g3 k3), nilR _ _⟩
      rw [List.mem_singleton.1 hr]
      subst hr0
      exact rdS_up s7 (blk_rdn (f := Out.cs) [⟨0, 2, 1⟩] rfl (Nat.le_refl _) g7 k7)
    · subst hf1
      exact ⟨⟨nilR _ _, by simp⟩, rdS_up s2 (blk_rdn (f := intsK .i64) [0] rfl (Nat.le_refl _) g2 k2), rdS_up s1 (blk_rdn (f := intsK .i64) [0] rfl (Nat.le_refl _) g1 k1), nilR _ _⟩
    · subst hf2
      exact ⟨⟨nilR _ _, by simp⟩, nilR _ _, nilR _ _, nilR _ _⟩
theorem start_s (hS : Sat e w Q) (hk : ∀ r w', Sat e w' (IsNode r echoW 0 N0 0 :: Q) → K (.tuple #[.pointer (some ⟨r, 0, none⟩), .int .i64 0]) w') : Cl prog 7 #[] w fun t w => Cl prog 6 #[t, .int .i64 0] w K := by
  refine echo_s hS fun x S w2 hx hwf hs hr h2 => ?_
  refine node_New_s (x := x) 0 rfl h2 hr hwf hs (fun hbad => absurd (by rw [hx]; exact echo_ok) hbad) (fun _ hno => ?_) (fun _ n fd hn hfd _ r w3 h3 => ?_)
  · rw [hx] at hno
    have h3 : nodeMay echoW 0 = some echoF := rfl
    rw [h3] at hno
    cases hno
  · have hn0 : n = 0 := by omega
    subst hn0
    rw [hx] at hfd h3
    have hfd' : fd = echoF := (Option.some.inj hfd).symm
    subst hfd'
    exact hk r _ (h3.swap.drop)
def itP (t j s b : Int) : NItem := ⟨0, ⟨⟨t, j, s⟩, 0, 0, b⟩, 0⟩
def itB (t : Int) : NItem := ⟨2, ⟨⟨t, 0, 0⟩, 0, 0, 0⟩, 0⟩
theorem shown12_s (hS : Sat e w Q) (hk : ∀ w', Sat e w' Q → K (.bool true) w') : Cl prog 5 #[] w K := by
  refine pacelinelaw12_shown_calls ?_
  unfold pacelinelaw12_shown
  refine start_s hS fun r w1 h1 => ?_
  refine xt_02 (xt_12 (ne_f rfl (gd_ff (gd_ff (bnp_s _ (pk_f (gd_ff (gd_ff ?_))))))))
  refine bld_s (ints [5, 1, 0]) (by kernel_rfl) (gd_ff (bld_s (ints [5, 1, 0, 0, 0, 0]) (by kernel_rfl) (gd_ff (bld_s (itP 5 1 0 0).cs (by kernel_rfl) (gd_ff ?_)))))
  refine node_Hear_s (i := itP 5 1 0 0) (by show In64 5; unfold In64; omega) h1 fun w2 h2 => ?_
  rw [show hearE N0 1 (itP 5 1 0 0) = 0 from by kernel_rfl]
  refine gd_ff (ne_f rfl (pk_f (gd_ff (gd_ff (node_Safe_s h2 fun w3 h3 => ?_)))))
  rw [show safeN echoW (hearN N0 1 (itP 5 1 0 0)) = false from by kernel_rfl]
  refine pk_f (iff_f ?_)
  refine bld_s (ints [6, 0, 0]) (by kernel_rfl) (bld_s (ints [6, 0, 0, 0, 0, 0]) (by kernel_rfl) (bld_s (itB 6).cs (by kernel_rfl) ?_))
  refine node_Hear_s (i := itB 6) (by show In64 6; unfold In64; omega) h3 fun w4 h4 => ?_
  refine bld_s (ints [6, 0, 0]) (by kernel_rfl) (bld_s (ints [6, 0, 0, 0, 0, 0]) (by kernel_rfl) (bld_s (itB 6).cs (by kernel_rfl) ?_))
  refine node_Hear_s (i := itB 6) (by show In64 6; unfold In64; omega) h4 fun w5 h5 => ?_
  generalize hN : hearN (hearN (hearN N0 1 (itP 5 1 0 0)) 1 (itB 6)) 2 (itB 6) = N at h5
  have hs : safeN echoW N = true := by rw [← hN]; kernel_rfl
  have ho : outsN echoW 0 echoF N = [⟨⟨7, 0, 0⟩, 1, 0, 1⟩] := by rw [← hN]; kernel_rfl
  have hl : (stepN echoF N).log.length = 1 := by rw [← hN]; kernel_rfl
  refine node_Step_s (fd := echoF) (by decide) rfl h5 (fun h => by rw [hs] at h; cases h) (fun _ v w6 h6 => ?_)
  rw [ho] at h6
  refine xt_03 (xt_13 (xt_23 ?_))
  rw [zero_46]
  refine al_s (cs := Done.zero.cs) h6 rfl fun t3 w7 h7 => ?_
  refine stN_at h7 0 rfl (vs := (doneN echoF N).cs) rfl rfl (Nat.le_of_ble_eq_true rfl) (ints_flat _) (cs' := (doneN echoF N).cs) (by rfl) fun w8 h8 => ?_
  refine eq_t rfl (gd_tt (gd_tt (lnS_rd h8 1 rfl (fun g hg => own_rd hg) (gd_tt (eq_t (by simp) (pk_t (gd_tt (gd_tt ?_))))))))
  refine ixS_rd (j := 0) h8 1 rfl (fun g hg => own_rd hg) (fun _ => rfl) rfl fun p hp => ?_
  refine gd_tt (fld_of hp fun p1 hp1 => gd_tt (fld_of hp1 fun p2 hp2 => gd_tt (ld1_of h8 1 rfl hp2 (v := .int .i64 7) rfl ?_)))
  refine gd_tt (eq_t rfl (pk_t (gd_tt (gd_tt ?_))))
  refine node_Log_s (by decide) (h8.pick 2 rfl) fun lv w9 h9 => ?_
  refine gd_tt (lnS_rd h9 0 rfl (fun g hg => own_rd hg) (gd_tt (eq_t (by rw [hl]; rfl) (pk_t ?_))))
  exact hk _ (h9.selR [_, _, _, _] [] [] (by decide) rfl)
end Go.Proofs.YtenglfaeohgkfaaGreat
