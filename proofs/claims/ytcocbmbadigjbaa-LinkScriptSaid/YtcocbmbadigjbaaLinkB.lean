/- Links: Send, First, Recv, Len, Room. Conditions: the net is one that New made. -/
import Derived.Test.YtcocbmbadigjbaaLinkA
namespace Go.Proofs.Ytcocbmbadigjbaa
open Go Go.E
set_option maxRecDepth 100000
variable {e w : World} {R : List HP} {K : KV}

def sendBad (n a b : Int) (x : Item) : Prop := ¬ okL n a b ∨ x.Kind < 0 ∨ 2 < x.Kind ∨ x.Colour / 2 ≠ 0
theorem link_Send_bad {g : Nat} {n room : Int} {Q : Nat → Nat → List Item} {a b : Int} {x : Item} (hb : sendBad n a b x) (hS : Sat e w (IsNet g n room Q :: R)) (hk : ∀ w', Sat e w' (IsNet g n room Q :: R) → K (.int .i64 1) w') :
    Cl prog 7 #[.pointer (some ⟨g, 0, none⟩), .int .i64 a, .int .i64 b, .agg x.cs.toArray] w K := by
  refine link_Net_Send_calls ?_
  unfold link_Net_Send
  refine al_s (cs := x.cs) hS rfl fun c w1 h1 => ?_
  have hend : ∀ t13 : Value, (bn .eql t13 w1 fun t16 w => True) → True := fun _ _ => trivial
  clear hend
  by_cases ho : okL n a b
  · obtain ⟨a, rfl⟩ : ∃ m : Nat, a = m := ⟨a.toNat, by have := ho.1; omega⟩
    obtain ⟨b, rfl⟩ : ∃ m : Nat, b = m := ⟨b.toNat, by have := ho.2.1; omega⟩
    refine link_of_s ho h1.swap ?_
    refine bnp_s _ ?_
    repeat (first | refine gd_tt ?_ | refine gd_ff ?_ | refine gd_tf ?_ | refine gd_ft ?_ | refine gd_u ?_ | refine pk_t ?_ | refine pk_f ?_ | refine iff_t ?_ | refine iff_f ?_ | refine not_t ?_ | refine not_f ?_ | refine beq_s ?_ | refine bne_s ?_ | refine ncP_p ?_ | refine nc_p ?_ | refine fld_at ?_ | refine xt_02 ?_ | refine xt_12 ?_ | refine xt_03 ?_ | refine xt_13 ?_ | refine xt_23 ?_ | refine eq_t (by omega) ?_ | refine eq_f (by omega) ?_ | refine ne_t (by omega) ?_ | refine ne_f (by omega) ?_ | refine lt_t (by omega) ?_ | refine lt_f (by omega) ?_ | refine gt_t (by omega) ?_ | refine gt_f (by omega) ?_ | refine ge_t (by omega) ?_ | refine ge_f (by omega) ?_ | refine le_t (by omega) ?_ | refine le_f (by omega) ?_)
    refine ld1_at h1 0 rfl (v := .int .i64 x.Kind) rfl ?_
    refine gd_ff (lt_c (fun c1 => ?_) (fun c1 => ?_))
    · repeat (first | refine gd_tt ?_ | refine gd_ff ?_ | refine gd_tf ?_ | refine gd_ft ?_ | refine gd_u ?_ | refine pk_t ?_ | refine pk_f ?_ | refine iff_t ?_ | refine iff_f ?_ | refine not_t ?_ | refine not_f ?_ | refine beq_s ?_ | refine bne_s ?_ | refine ncP_p ?_ | refine nc_p ?_ | refine fld_at ?_ | refine xt_02 ?_ | refine xt_12 ?_ | refine xt_03 ?_ | refine xt_13 ?_ | refine xt_23 ?_ | refine eq_t (by omega) ?_ | refine eq_f (by omega) ?_ | refine ne_t (by omega) ?_ | refine ne_f (by omega) ?_ | refine lt_t (by omega) ?_ | refine lt_f (by omega) ?_ | refine gt_t (by omega) ?_ | refine gt_f (by omega) ?_ | refine ge_t (by omega) ?_ | refine ge_f (by omega) ?_ | refine le_t (by omega) ?_ | refine le_f (by omega) ?_)
      exact hk _ h1.drop
    · repeat (first | refine gd_tt ?_ | refine gd_ff ?_ | refine gd_tf ?_ | refine gd_ft ?_ | refine gd_u ?_ | refine pk_t ?_ | refine pk_f ?_ | refine iff_t ?_ | refine iff_f ?_ | refine not_t ?_ | refine not_f ?_ | refine beq_s ?_ | refine bne_s ?_ | refine ncP_p ?_ | refine nc_p ?_ | refine fld_at ?_ | refine xt_02 ?_ | refine xt_12 ?_ | refine xt_03 ?_ | refine xt_13 ?_ | refine xt_23 ?_ | refine eq_t (by omega) ?_ | refine eq_f (by omega) ?_ | refine ne_t (by omega) ?_ | refine ne_f (by omega) ?_ | refine lt_t (by omega) ?_ | refine lt_f (by omega) ?_ | refine gt_t (by omega) ?_ | refine gt_f (by omega) ?_ | refine ge_t (by omega) ?_ | refine ge_f (by omega) ?_ | refine le_t (by omega) ?_ | refine le_f (by omega) ?_)
      refine ld1_at h1 0 rfl (v := .int .i64 x.Kind) rfl ?_
      refine gd_ff (gt_c (fun c2 => ?_) (fun c2 => ?_))
      · repeat (first | refine gd_tt ?_ | refine gd_ff ?_ | refine gd_tf ?_ | refine gd_ft ?_ | refine gd_u ?_ | refine pk_t ?_ | refine pk_f ?_ | refine iff_t ?_ | refine iff_f ?_ | refine not_t ?_ | refine not_f ?_ | refine beq_s ?_ | refine bne_s ?_ | refine ncP_p ?_ | refine nc_p ?_ | refine fld_at ?_ | refine xt_02 ?_ | refine xt_12 ?_ | refine xt_03 ?_ | refine xt_13 ?_ | refine xt_23 ?_ | refine eq_t (by omega) ?_ | refine eq_f (by omega) ?_ | refine ne_t (by omega) ?_ | refine ne_f (by omega) ?_ | refine lt_t (by omega) ?_ | refine lt_f (by omega) ?_ | refine gt_t (by omega) ?_ | refine gt_f (by omega) ?_ | refine ge_t (by omega) ?_ | refine ge_f (by omega) ?_ | refine le_t (by omega) ?_ | refine le_f (by omega) ?_)
        exact hk _ h1.drop
      · repeat (first | refine gd_tt ?_ | refine gd_ff ?_ | refine gd_tf ?_ | refine gd_ft ?_ | refine gd_u ?_ | refine pk_t ?_ | refine pk_f ?_ | refine iff_t ?_ | refine iff_f ?_ | refine not_t ?_ | refine not_f ?_ | refine beq_s ?_ | refine bne_s ?_ | refine ncP_p ?_ | refine nc_p ?_ | refine fld_at ?_ | refine xt_02 ?_ | refine xt_12 ?_ | refine xt_03 ?_ | refine xt_13 ?_ | refine xt_23 ?_ | refine eq_t (by omega) ?_ | refine eq_f (by omega) ?_ | refine ne_t (by omega) ?_ | refine ne_f (by omega) ?_ | refine lt_t (by omega) ?_ | refine lt_f (by omega) ?_ | refine gt_t (by omega) ?_ | refine gt_f (by omega) ?_ | refine ge_t (by omega) ?_ | refine ge_f (by omega) ?_ | refine le_t (by omega) ?_ | refine le_f (by omega) ?_)
        refine ld1_at h1 0 rfl (v := .int .i64 x.Colour) rfl ?_
        refine gd_ff (shr1_s ?_)
        have hc : x.Colour / 2 ≠ 0 := by
          rcases hb with h | h | h | h
          · exact absurd ho h
          · exact absurd h c1
          · exact absurd h c2
          · exact h
        refine gd_ff (ne_t hc ?_)
        repeat (first | refine gd_tt ?_ | refine gd_ff ?_ | refine gd_tf ?_ | refine gd_ft ?_ | refine gd_u ?_ | refine pk_t ?_ | refine pk_f ?_ | refine iff_t ?_ | refine iff_f ?_ | refine not_t ?_ | refine not_f ?_ | refine beq_s ?_ | refine bne_s ?_ | refine ncP_p ?_ | refine nc_p ?_ | refine fld_at ?_ | refine xt_02 ?_ | refine xt_12 ?_ | refine xt_03 ?_ | refine xt_13 ?_ | refine xt_23 ?_ | refine eq_t (by omega) ?_ | refine eq_f (by omega) ?_ | refine ne_t (by omega) ?_ | refine ne_f (by omega) ?_ | refine lt_t (by omega) ?_ | refine lt_f (by omega) ?_ | refine gt_t (by omega) ?_ | refine gt_f (by omega) ?_ | refine ge_t (by omega) ?_ | refine ge_f (by omega) ?_ | refine le_t (by omega) ?_ | refine le_f (by omega) ?_)
        exact hk _ h1.drop
  · refine link_of_bad ho h1.swap ?_
    refine bnp_n ?_
    repeat (first | refine gd_tt ?_ | refine gd_ff ?_ | refine gd_tf ?_ | refine gd_ft ?_ | refine gd_u ?_ | refine pk_t ?_ | refine pk_f ?_ | refine iff_t ?_ | refine iff_f ?_ | refine not_t ?_ | refine not_f ?_ | refine beq_s ?_ | refine bne_s ?_ | refine ncP_p ?_ | refine nc_p ?_ | refine fld_at ?_ | refine xt_02 ?_ | refine xt_12 ?_ | refine xt_03 ?_ | refine xt_13 ?_ | refine xt_23 ?_ | refine eq_t (by omega) ?_ | refine eq_f (by omega) ?_ | refine ne_t (by omega) ?_ | refine ne_f (by omega) ?_ | refine lt_t (by omega) ?_ | refine lt_f (by omega) ?_ | refine gt_t (by omega) ?_ | refine gt_f (by omega) ?_ | refine ge_t (by omega) ?_ | refine ge_f (by omega) ?_ | refine le_t (by omega) ?_ | refine le_f (by omega) ?_)
    exact hk _ h1.drop
theorem link_Send_s {g : Nat} {n room : Int} {Q : Nat → Nat → List Item} {a b : Nat} {x : Item} (hb : ¬ sendBad n a b x) (hS : Sat e w (IsNet g n room Q :: R))
    (hfull : ((Q a b).length : Int) = room → ∀ w', Sat e w' (IsNet g n room Q :: R) → K (.int .i64 2) w')
    (hk : ((Q a b).length : Int) < room → ∀ w', Sat e w' (IsNet g n room (updQ Q a b (Q a b ++ [x])) :: R) → K (.int .i64 0) w') :
    Cl prog 7 #[.pointer (some ⟨g, 0, none⟩), .int .i64 a, .int .i64 b, .agg x.cs.toArray] w K := by
  have ho : okL n a b := by by_cases h : okL n a b; exact h; exact absurd (Or.inl h) hb
  have c1 : ¬ x.Kind < 0 := fun h => hb (.inr (.inl h))
  have c2 : ¬ 2 < x.Kind := fun h => hb (.inr (.inr (.inl h)))
  have c3 : x.Colour / 2 = 0 := by by_cases h : x.Colour / 2 = 0; exact h; exact absurd (Or.inr (.inr (.inr h))) hb
  refine link_Net_Send_calls ?_
  unfold link_Net_Send
  refine al_s (cs := x.cs) hS rfl fun c w1 h1 => ?_
  refine link_of_s ho h1.swap ?_
  refine bnp_s _ ?_
  repeat (first | refine gd_tt ?_ | refine gd_ff ?_ | refine gd_tf ?_ | refine gd_ft ?_ | refine gd_u ?_ | refine pk_t ?_ | refine pk_f ?_ | refine iff_t ?_ | refine iff_f ?_ | refine not_t ?_ | refine not_f ?_ | refine beq_s ?_ | refine bne_s ?_ | refine ncP_p ?_ | refine nc_p ?_ | refine fld_at ?_ | refine xt_02 ?_ | refine xt_12 ?_ | refine xt_03 ?_ | refine xt_13 ?_ | refine xt_23 ?_ | refine eq_t (by omega) ?_ | refine eq_f (by omega) ?_ | refine ne_t (by omega) ?_ | refine ne_f (by omega) ?_ | refine lt_t (by omega) ?_ | refine lt_f (by omega) ?_ | refine gt_t (by omega) ?_ | refine gt_f (by omega) ?_ | refine ge_t (by omega) ?_ | refine ge_f (by omega) ?_ | refine le_t (by omega) ?_ | refine le_f (by omega) ?_)
  refine ld1_at h1 0 rfl (v := .int .i64 x.Kind) rfl ?_
  repeat (first | refine gd_tt ?_ | refine gd_ff ?_ | refine gd_tf ?_ | refine gd_ft ?_ | refine gd_u ?_ | refine pk_t ?_ | refine pk_f ?_ | refine iff_t ?_ | refine iff_f ?_ | refine not_t ?_ | refine not_f ?_ | refine beq_s ?_ | refine bne_s ?_ | refine ncP_p ?_ | refine nc_p ?_ | refine fld_at ?_ | refine xt_02 ?_ | refine xt_12 ?_ | refine xt_03 ?_ | refine xt_13 ?_ | refine xt_23 ?_ | refine eq_t (by omega) ?_ | refine eq_f (by omega) ?_ | refine ne_t (by omega) ?_ | refine ne_f (by omega) ?_ | refine lt_t (by omega) ?_ | refine lt_f (by omega) ?_ | refine gt_t (by omega) ?_ | refine gt_f (by omega) ?_ | refine ge_t (by omega) ?_ | refine ge_f (by omega) ?_ | refine le_t (by omega) ?_ | refine le_f (by omega) ?_)
  refine ld1_at h1 0 rfl (v := .int .i64 x.Kind) rfl ?_
  repeat (first | refine gd_tt ?_ | refine gd_ff ?_ | refine gd_tf ?_ | refine gd_ft ?_ | refine gd_u ?_ | refine pk_t ?_ | refine pk_f ?_ | refine iff_t ?_ | refine iff_f ?_ | refine not_t ?_ | refine not_f ?_ | refine beq_s ?_ | refine bne_s ?_ | refine ncP_p ?_ | refine nc_p ?_ | refine fld_at ?_ | refine xt_02 ?_ | refine xt_12 ?_ | refine xt_03 ?_ | refine xt_13 ?_ | refine xt_23 ?_ | refine eq_t (by omega) ?_ | refine eq_f (by omega) ?_ | refine ne_t (by omega) ?_ | refine ne_f (by omega) ?_ | refine lt_t (by omega) ?_ | refine lt_f (by omega) ?_ | refine gt_t (by omega) ?_ | refine gt_f (by omega) ?_ | refine ge_t (by omega) ?_ | refine ge_f (by omega) ?_ | refine le_t (by omega) ?_ | refine le_f (by omega) ?_)
  refine ld1_at h1 0 rfl (v := .int .i64 x.Colour) rfl ?_
  refine gd_ff (shr1_s ?_)
  refine gd_ff (ne_f c3 ?_)
  repeat (first | refine gd_tt ?_ | refine gd_ff ?_ | refine gd_tf ?_ | refine gd_ft ?_ | refine gd_u ?_ | refine pk_t ?_ | refine pk_f ?_ | refine iff_t ?_ | refine iff_f ?_ | refine not_t ?_ | refine not_f ?_ | refine beq_s ?_ | refine bne_s ?_ | refine ncP_p ?_ | refine nc_p ?_ | refine fld_at ?_ | refine xt_02 ?_ | refine xt_12 ?_ | refine xt_03 ?_ | refine xt_13 ?_ | refine xt_23 ?_ | refine eq_t (by omega) ?_ | refine eq_f (by omega) ?_ | refine ne_t (by omega) ?_ | refine ne_f (by omega) ?_ | refine lt_t (by omega) ?_ | refine lt_f (by omega) ?_ | refine gt_t (by omega) ?_ | refine gt_f (by omega) ?_ | refine ge_t (by omega) ?_ | refine ge_f (by omega) ?_ | refine le_t (by omega) ?_ | refine le_f (by omega) ?_)
  obtain ⟨D, hD, h2⟩ := IsNet.open h1.swap
  have hn8 := hD.hn
  have hr16 := hD.hr
  have hab : a < 8 ∧ b < 8 := by obtain ⟨o1, o2, o3, o4, o5⟩ := ho; omega
  obtain ⟨f, hf⟩ := hD.ring a b hab.1 hab.2
  have hlr := hD.room a b hab.1 hab.2
  have hoff : offL a b + 130 ≤ 8322 := by unfold offL; omega
  have hf16 := hf.hf
  have h3 := h2.drew
  have hlen := hf.len
  refine ld1_at h3 0 rfl (funL_get (by omega)) ?_
  repeat (first | refine gd_tt ?_ | refine gd_ff ?_ | refine gd_tf ?_ | refine gd_ft ?_ | refine gd_u ?_ | refine pk_t ?_ | refine pk_f ?_ | refine iff_t ?_ | refine iff_f ?_ | refine not_t ?_ | refine not_f ?_ | refine beq_s ?_ | refine bne_s ?_ | refine ncP_p ?_ | refine nc_p ?_ | refine fld_at ?_ | refine xt_02 ?_ | refine xt_12 ?_ | refine xt_03 ?_ | refine xt_13 ?_ | refine xt_23 ?_ | refine eq_t (by omega) ?_ | refine eq_f (by omega) ?_ | refine ne_t (by omega) ?_ | refine ne_f (by omega) ?_ | refine lt_t (by omega) ?_ | refine lt_f (by omega) ?_ | refine gt_t (by omega) ?_ | refine gt_f (by omega) ?_ | refine ge_t (by omega) ?_ | refine ge_f (by omega) ?_ | refine le_t (by omega) ?_ | refine le_f (by omega) ?_)
  refine ld1_at h3 0 rfl (funL_get (by omega)) ?_
  rw [show (0 + 1 : Nat) = 1 from rfl, hD.dr, hf.dm]
  refine eq_c (fun c4 => iff_t (hfull c4 _ (IsNet.close hD (h3.selR [_, _] [_] [0] (by decide) rfl)))) (fun c4 => iff_f ?_)
  refine dr_s h3 fun w4 h4 => ?_
  repeat (first | refine gd_tt ?_ | refine gd_ff ?_ | refine gd_tf ?_ | refine gd_ft ?_ | refine gd_u ?_ | refine pk_t ?_ | refine pk_f ?_ | refine iff_t ?_ | refine iff_f ?_ | refine not_t ?_ | refine not_f ?_ | refine beq_s ?_ | refine bne_s ?_ | refine ncP_p ?_ | refine nc_p ?_ | refine fld_at ?_ | refine xt_02 ?_ | refine xt_12 ?_ | refine xt_03 ?_ | refine xt_13 ?_ | refine xt_23 ?_ | refine eq_t (by omega) ?_ | refine eq_f (by omega) ?_ | refine ne_t (by omega) ?_ | refine ne_f (by omega) ?_ | refine lt_t (by omega) ?_ | refine lt_f (by omega) ?_ | refine gt_t (by omega) ?_ | refine gt_f (by omega) ?_ | refine ge_t (by omega) ?_ | refine ge_f (by omega) ?_ | refine le_t (by omega) ?_ | refine le_f (by omega) ?_)
  refine ld1_at h4 0 rfl (funL_get (by omega)) ?_
  repeat (first | refine gd_tt ?_ | refine gd_ff ?_ | refine gd_tf ?_ | refine gd_ft ?_ | refine gd_u ?_ | refine pk_t ?_ | refine pk_f ?_ | refine iff_t ?_ | refine iff_f ?_ | refine not_t ?_ | refine not_f ?_ | refine beq_s ?_ | refine bne_s ?_ | refine ncP_p ?_ | refine nc_p ?_ | refine fld_at ?_ | refine xt_02 ?_ | refine xt_12 ?_ | refine xt_03 ?_ | refine xt_13 ?_ | refine xt_23 ?_ | refine eq_t (by omega) ?_ | refine eq_f (by omega) ?_ | refine ne_t (by omega) ?_ | refine ne_f (by omega) ?_ | refine lt_t (by omega) ?_ | refine lt_f (by omega) ?_ | refine gt_t (by omega) ?_ | refine gt_f (by omega) ?_ | refine ge_t (by omega) ?_ | refine ge_f (by omega) ?_ | refine le_t (by omega) ?_ | refine le_f (by omega) ?_)
  refine ld1_at h4 0 rfl (funL_get (by omega)) ?_
  rw [hf.df, hf.dm]
  refine add_s (by omega) (by omega) ?_
  refine rem_s (by decide) ?_
  rw [Int.tmod_eq_emod_of_nonneg (by omega)]
  refine ldN_at h4 1 (vs := x.cs) rfl (by rfl) rfl ?_
  repeat (first | refine gd_tt ?_ | refine gd_ff ?_ | refine gd_tf ?_ | refine gd_ft ?_ | refine gd_u ?_ | refine pk_t ?_ | refine pk_f ?_ | refine iff_t ?_ | refine iff_f ?_ | refine not_t ?_ | refine not_f ?_ | refine beq_s ?_ | refine bne_s ?_ | refine ncP_p ?_ | refine nc_p ?_ | refine fld_at ?_ | refine xt_02 ?_ | refine xt_12 ?_ | refine xt_03 ?_ | refine xt_13 ?_ | refine xt_23 ?_ | refine eq_t (by omega) ?_ | refine eq_f (by omega) ?_ | refine ne_t (by omega) ?_ | refine ne_f (by omega) ?_ | refine lt_t (by omega) ?_ | refine lt_f (by omega) ?_ | refine gt_t (by omega) ?_ | refine gt_f (by omega) ?_ | refine ge_t (by omega) ?_ | refine ge_f (by omega) ?_ | refine le_t (by omega) ?_ | refine le_f (by omega) ?_)
  rw [show ((f : Int) + ((Q a b).length : Int)) % 16 = (((f + (Q a b).length) % 16 : Nat) : Int) from by omega]
  have hm := Nat.mod_lt (f + (Q a b).length) (show 0 < 16 by omega)
  refine ixA_at hm ?_
  refine stN_at h4 0 rfl (vs := x.cs) rfl rfl (by rw [funL_len]; omega) (ints_flat _) (funL_set (by show _ + 8 ≤ 8322; omega)) fun w5 h5 => ?_
  repeat (first | refine gd_tt ?_ | refine gd_ff ?_ | refine gd_tf ?_ | refine gd_ft ?_ | refine gd_u ?_ | refine pk_t ?_ | refine pk_f ?_ | refine iff_t ?_ | refine iff_f ?_ | refine not_t ?_ | refine not_f ?_ | refine beq_s ?_ | refine bne_s ?_ | refine ncP_p ?_ | refine nc_p ?_ | refine fld_at ?_ | refine xt_02 ?_ | refine xt_12 ?_ | refine xt_03 ?_ | refine xt_13 ?_ | refine xt_23 ?_ | refine eq_t (by omega) ?_ | refine eq_f (by omega) ?_ | refine ne_t (by omega) ?_ | refine ne_f (by omega) ?_ | refine lt_t (by omega) ?_ | refine lt_f (by omega) ?_ | refine gt_t (by omega) ?_ | refine gt_f (by omega) ?_ | refine ge_t (by omega) ?_ | refine ge_f (by omega) ?_ | refine le_t (by omega) ?_ | refine le_f (by omega) ?_)
  have hx8 : x.ns.length = 8 := rfl
  refine ld1_at h5 0 rfl (funL_get (by omega)) ?_
  rw [updR_out (by rw [hx8]; omega), hf.dm]
  refine add_s (by omega) (by omega) ?_
  repeat (first | refine gd_tt ?_ | refine gd_ff ?_ | refine gd_tf ?_ | refine gd_ft ?_ | refine gd_u ?_ | refine pk_t ?_ | refine pk_f ?_ | refine iff_t ?_ | refine iff_f ?_ | refine not_t ?_ | refine not_f ?_ | refine beq_s ?_ | refine bne_s ?_ | refine ncP_p ?_ | refine nc_p ?_ | refine fld_at ?_ | refine xt_02 ?_ | refine xt_12 ?_ | refine xt_03 ?_ | refine xt_13 ?_ | refine xt_23 ?_ | refine eq_t (by omega) ?_ | refine eq_f (by omega) ?_ | refine ne_t (by omega) ?_ | refine ne_f (by omega) ?_ | refine lt_t (by omega) ?_ | refine lt_f (by omega) ?_ | refine gt_t (by omega) ?_ | refine gt_f (by omega) ?_ | refine ge_t (by omega) ?_ | refine ge_f (by omega) ?_ | refine le_t (by omega) ?_ | refine le_f (by omega) ?_)
  refine stN_at h5 0 rfl (vs := ints [((Q a b).length : Int) + 1]) rfl rfl (by rw [funL_len]; omega) (ints_flat _) (funL_set (by show _ + 1 ≤ 8322; omega)) fun w6 h6 => ?_
  have hlt : (Q a b).length < 16 := by omega
  refine hk (by omega) _ (IsNet.close (hD.upd hab.1 hab.2 (hf.push hlt x) (by rw [List.length_append]; simp; omega) fun i hi => ?_) (h6.selR [_, _] [_] [0] (by decide) rfl))
  rw [updR_out (by simp; omega), updR_out (by rw [hx8]; omega)]

theorem link_First_bad {g : Nat} {n room : Int} {Q : Nat → Nat → List Item} {a b : Int} (hb : ¬ okL n a b ∨ Q a.toNat b.toNat = []) (hS : Sat e w (IsNet g n room Q :: R)) (hk : ∀ w', Sat e w' (IsNet g n room Q :: R) → K (.tuple #[.agg Item.zero.cs.toArray, .bool false]) w') :
    Cl prog 15 #[.pointer (some ⟨g, 0, none⟩), .int .i64 a, .int .i64 b] w K := by
  refine link_Net_First_calls ?_
  unfold link_Net_First
  rw [zero_33]
  refine al_s (cs := Item.zero.cs) hS rfl fun c w1 h1 => ?_
  by_cases ho : okL n a b
  · obtain ⟨a, rfl⟩ : ∃ m : Nat, a = m := ⟨a.toNat, by have := ho.1; omega⟩
    obtain ⟨b, rfl⟩ : ∃ m : Nat, b = m := ⟨b.toNat, by have := ho.2.1; omega⟩
    have hq : Q a b = [] := by
      have := hb.resolve_left (fun h => h ho)
      simpa using this
    refine link_of_s ho h1.swap ?_
    refine bnp_s _ ?_
    repeat (first | refine gd_tt ?_ | refine gd_ff ?_ | refine gd_tf ?_ | refine gd_ft ?_ | refine gd_u ?_ | refine pk_t ?_ | refine pk_f ?_ | refine iff_t ?_ | refine iff_f ?_ | refine not_t ?_ | refine not_f ?_ | refine beq_s ?_ | refine bne_s ?_ | refine ncP_p ?_ | refine nc_p ?_ | refine fld_at ?_ | refine xt_02 ?_ | refine xt_12 ?_ | refine xt_03 ?_ | refine xt_13 ?_ | refine xt_23 ?_ | refine eq_t (by omega) ?_ | refine eq_f (by omega) ?_ | refine ne_t (by omega) ?_ | refine ne_f (by omega) ?_ | refine lt_t (by omega) ?_ | refine lt_f (by omega) ?_ | refine gt_t (by omega) ?_ | refine gt_f (by omega) ?_ | refine ge_t (by omega) ?_ | refine ge_f (by omega) ?_ | refine le_t (by omega) ?_ | refine le_f (by omega) ?_)
    obtain ⟨D, hD, h2⟩ := IsNet.open h1.swap
    have hn8 := hD.hn
    have hab : a < 8 ∧ b < 8 := by obtain ⟨o1, o2, o3, o4, o5⟩ := ho; omega
    obtain ⟨f, hf⟩ := hD.ring a b hab.1 hab.2
    have hoff : offL a b + 130 ≤ 8322 := by unfold offL; omega
    refine ld1_at h2 0 rfl (funL_get (by omega)) ?_
    rw [hf.dm, hq]
    refine gd_ff (eq_t rfl ?_)
    repeat (first | refine gd_tt ?_ | refine gd_ff ?_ | refine gd_tf ?_ | refine gd_ft ?_ | refine gd_u ?_ | refine pk_t ?_ | refine pk_f ?_ | refine iff_t ?_ | refine iff_f ?_ | refine not_t ?_ | refine not_f ?_ | refine beq_s ?_ | refine bne_s ?_ | refine ncP_p ?_ | refine nc_p ?_ | refine fld_at ?_ | refine xt_02 ?_ | refine xt_12 ?_ | refine xt_03 ?_ | refine xt_13 ?_ | refine xt_23 ?_ | refine eq_t (by omega) ?_ | refine eq_f (by omega) ?_ | refine ne_t (by omega) ?_ | refine ne_f (by omega) ?_ | refine lt_t (by omega) ?_ | refine lt_f (by omega) ?_ | refine gt_t (by omega) ?_ | refine gt_f (by omega) ?_ | refine ge_t (by omega) ?_ | refine ge_f (by omega) ?_ | refine le_t (by omega) ?_ | refine le_f (by omega) ?_)
    refine bld_s Item.zero.cs (by kernel_rfl) ?_
    refine stN_at h1 0 rfl (vs := Item.zero.cs) rfl rfl (by decide) (ints_flat _) (cs' := Item.zero.cs) (by kernel_rfl) fun w3 h3 => ?_
    refine ldN_at h3 0 (vs := Item.zero.cs) rfl (by rfl) rfl ?_
    exact hk _ h3.drop
  · refine link_of_bad ho h1.swap ?_
    refine bnp_n ?_
    repeat (first | refine gd_tt ?_ | refine gd_ff ?_ | refine gd_tf ?_ | refine gd_ft ?_ | refine gd_u ?_ | refine pk_t ?_ | refine pk_f ?_ | refine iff_t ?_ | refine iff_f ?_ | refine not_t ?_ | refine not_f ?_ | refine beq_s ?_ | refine bne_s ?_ | refine ncP_p ?_ | refine nc_p ?_ | refine fld_at ?_ | refine xt_02 ?_ | refine xt_12 ?_ | refine xt_03 ?_ | refine xt_13 ?_ | refine xt_23 ?_ | refine eq_t (by omega) ?_ | refine eq_f (by omega) ?_ | refine ne_t (by omega) ?_ | refine ne_f (by omega) ?_ | refine lt_t (by omega) ?_ | refine lt_f (by omega) ?_ | refine gt_t (by omega) ?_ | refine gt_f (by omega) ?_ | refine ge_t (by omega) ?_ | refine ge_f (by omega) ?_ | refine le_t (by omega) ?_ | refine le_f (by omega) ?_)
    refine bld_s Item.zero.cs (by kernel_rfl) ?_
    refine stN_at h1 0 rfl (vs := Item.zero.cs) rfl rfl (by decide) (ints_flat _) (cs' := Item.zero.cs) (by kernel_rfl) fun w3 h3 => ?_
    refine ldN_at h3 0 (vs := Item.zero.cs) rfl (by rfl) rfl ?_
    exact hk _ h3.drop
theorem link_First_s {g : Nat} {n room : Int} {Q : Nat → Nat → List Item} {a b : Nat} {x : Item} {q : List Item} (ho : okL n a b) (hq : Q a b = x :: q) (hS : Sat e w (IsNet g n room Q :: R)) (hk : ∀ w', Sat e w' (IsNet g n room Q :: R) → K (.tuple #[.agg x.cs.toArray, .bool true]) w') :
    Cl prog 15 #[.pointer (some ⟨g, 0, none⟩), .int .i64 a, .int .i64 b] w K := by
  refine link_Net_First_calls ?_
  unfold link_Net_First
  rw [zero_33]
  refine al_s (cs := Item.zero.cs) hS rfl fun c w1 h1 => ?_
  refine link_of_s ho h1.swap ?_
  refine bnp_s _ ?_
  repeat (first | refine gd_tt ?_ | refine gd_ff ?_ | refine gd_tf ?_ | refine gd_ft ?_ | refine gd_u ?_ | refine pk_t ?_ | refine pk_f ?_ | refine iff_t ?_ | refine iff_f ?_ | refine not_t ?_ | refine not_f ?_ | refine beq_s ?_ | refine bne_s ?_ | refine ncP_p ?_ | refine nc_p ?_ | refine fld_at ?_ | refine xt_02 ?_ | refine xt_12 ?_ | refine xt_03 ?_ | refine xt_13 ?_ | refine xt_23 ?_ | refine eq_t (by omega) ?_ | refine eq_f (by omega) ?_ | refine ne_t (by omega) ?_ | refine ne_f (by omega) ?_ | refine lt_t (by omega) ?_ | refine lt_f (by omega) ?_ | refine gt_t (by omega) ?_ | refine gt_f (by omega) ?_ | refine ge_t (by omega) ?_ | refine ge_f (by omega) ?_ | refine le_t (by omega) ?_ | refine le_f (by omega) ?_)
  obtain ⟨D, hD, h2⟩ := IsNet.open h1.swap
  have hn8 := hD.hn
  have hab : a < 8 ∧ b < 8 := by obtain ⟨o1, o2, o3, o4, o5⟩ := ho; omega
  obtain ⟨f, hf⟩ := hD.ring a b hab.1 hab.2
  have hf16 := hf.hf
  have hoff : offL a b + 130 ≤ 8322 := by unfold offL; omega
  refine ld1_at h2 0 rfl (funL_get (by omega)) ?_
  rw [hf.dm, hq]
  refine gd_ff (eq_f (by simp; omega) ?_)
  repeat (first | refine gd_tt ?_ | refine gd_ff ?_ | refine gd_tf ?_ | refine gd_ft ?_ | refine gd_u ?_ | refine pk_t ?_ | refine pk_f ?_ | refine iff_t ?_ | refine iff_f ?_ | refine not_t ?_ | refine not_f ?_ | refine beq_s ?_ | refine bne_s ?_ | refine ncP_p ?_ | refine nc_p ?_ | refine fld_at ?_ | refine xt_02 ?_ | refine xt_12 ?_ | refine xt_03 ?_ | refine xt_13 ?_ | refine xt_23 ?_ | refine eq_t (by omega) ?_ | refine eq_f (by omega) ?_ | refine ne_t (by omega) ?_ | refine ne_f (by omega) ?_ | refine lt_t (by omega) ?_ | refine lt_f (by omega) ?_ | refine gt_t (by omega) ?_ | refine gt_f (by omega) ?_ | refine ge_t (by omega) ?_ | refine ge_f (by omega) ?_ | refine le_t (by omega) ?_ | refine le_f (by omega) ?_)
  have h3 := h2.drew
  refine ld1_at h3 0 rfl (funL_get (by omega)) ?_
  rw [hf.df]
  repeat (first | refine gd_tt ?_ | refine gd_ff ?_ | refine gd_tf ?_ | refine gd_ft ?_ | refine gd_u ?_ | refine pk_t ?_ | refine pk_f ?_ | refine iff_t ?_ | refine iff_f ?_ | refine not_t ?_ | refine not_f ?_ | refine beq_s ?_ | refine bne_s ?_ | refine ncP_p ?_ | refine nc_p ?_ | refine fld_at ?_ | refine xt_02 ?_ | refine xt_12 ?_ | refine xt_03 ?_ | refine xt_13 ?_ | refine xt_23 ?_ | refine eq_t (by omega) ?_ | refine eq_f (by omega) ?_ | refine ne_t (by omega) ?_ | refine ne_f (by omega) ?_ | refine lt_t (by omega) ?_ | refine lt_f (by omega) ?_ | refine gt_t (by omega) ?_ | refine gt_f (by omega) ?_ | refine ge_t (by omega) ?_ | refine ge_f (by omega) ?_ | refine le_t (by omega) ?_ | refine le_f (by omega) ?_)
  refine ixA_at hf16 ?_
  refine ldN_at h3 0 (vs := x.cs) rfl ?_ rfl ?_
  · rw [funL_sub (by omega), Nat.add_zero]
    exact congrArg ints (hf.sub (by rw [hq]; rfl))
  refine stN_at h3 1 rfl (vs := x.cs) rfl rfl (by decide) (ints_flat _) (cs' := x.cs) (by kernel_rfl) fun w4 h4 => ?_
  refine ldN_at h4 1 (vs := x.cs) rfl (by rfl) rfl ?_
  exact hk _ (IsNet.close hD (h4.selR [_, _] [_] [0] (by decide) rfl))

theorem link_Recv_bad {g : Nat} {n room : Int} {Q : Nat → Nat → List Item} {a b : Int} (hb : ¬ okL n a b ∨ Q a.toNat b.toNat = []) (hS : Sat e w (IsNet g n room Q :: R)) (hk : ∀ w', Sat e w' (IsNet g n room Q :: R) → K (.tuple #[.agg Item.zero.cs.toArray, .bool false]) w') :
    Cl prog 8 #[.pointer (some ⟨g, 0, none⟩), .int .i64 a, .int .i64 b] w K := by
  refine link_Net_Recv_calls ?_
  unfold link_Net_Recv
  rw [zero_33]
  refine al_s (cs := Item.zero.cs) hS rfl fun c w1 h1 => ?_
  refine link_First_bad hb h1.swap fun w2 h2 => ?_
  repeat (first | refine gd_tt ?_ | refine gd_ff ?_ | refine gd_tf ?_ | refine gd_ft ?_ | refine gd_u ?_ | refine pk_t ?_ | refine pk_f ?_ | refine iff_t ?_ | refine iff_f ?_ | refine not_t ?_ | refine not_f ?_ | refine beq_s ?_ | refine bne_s ?_ | refine ncP_p ?_ | refine nc_p ?_ | refine fld_at ?_ | refine xt_02 ?_ | refine xt_12 ?_ | refine xt_03 ?_ | refine xt_13 ?_ | refine xt_23 ?_ | refine eq_t (by omega) ?_ | refine eq_f (by omega) ?_ | refine ne_t (by omega) ?_ | refine ne_f (by omega) ?_ | refine lt_t (by omega) ?_ | refine lt_f (by omega) ?_ | refine gt_t (by omega) ?_ | refine gt_f (by omega) ?_ | refine ge_t (by omega) ?_ | refine ge_f (by omega) ?_ | refine le_t (by omega) ?_ | refine le_f (by omega) ?_)
  refine al_s (cs := Item.zero.cs) h2 rfl fun d w3 h3 => ?_
  refine stN_at h3 0 rfl (vs := Item.zero.cs) rfl rfl (by decide) (ints_flat _) (cs' := Item.zero.cs) (by kernel_rfl) fun w4 h4 => ?_
  refine J0.cut (fun w => w = w4) (fun k1 hcut => iff_f (hcut _ rfl)) ?_
  rintro _ rfl
  refine ldN_at h4 0 (vs := Item.zero.cs) rfl (by rfl) rfl ?_
  refine stN_at h4 2 rfl (vs := Item.zero.cs) rfl rfl (by decide) (ints_flat _) (cs' := Item.zero.cs) (by kernel_rfl) fun w5 h5 => ?_
  refine ldN_at h5 2 (vs := Item.zero.cs) rfl (by rfl) rfl ?_
  exact hk _ (h5.selR [_, _, _] [_] [1] (by decide) rfl)
theorem link_Recv_s {g : Nat} {n room : Int} {Q : Nat → Nat → List Item} {a b : Nat} {x : Item} {q : List Item} (ho : okL n a b) (hq : Q a b = x :: q) (hS : Sat e w (IsNet g n room Q :: R)) (hk : ∀ w', Sat e w' (IsNet g n room (updQ Q a b q) :: R) → K (.tuple #[.agg x.cs.toArray, .bool true]) w') :
    Cl prog 8 #[.pointer (some ⟨g, 0, none⟩), .int .i64 a, .int .i64 b] w K := by
  refine link_Net_Recv_calls ?_
  unfold link_Net_Recv
  rw [zero_33]
  refine al_s (cs := Item.zero.cs) hS rfl fun c w1 h1 => ?_
  refine link_First_s ho hq h1.swap fun w2 h2 => ?_
  repeat (first | refine gd_tt ?_ | refine gd_ff ?_ | refine gd_tf ?_ | refine gd_ft ?_ | refine gd_u ?_ | refine pk_t ?_ | refine pk_f ?_ | refine iff_t ?_ | refine iff_f ?_ | refine not_t ?_ | refine not_f ?_ | refine beq_s ?_ | refine bne_s ?_ | refine ncP_p ?_ | refine nc_p ?_ | refine fld_at ?_ | refine xt_02 ?_ | refine xt_12 ?_ | refine xt_03 ?_ | refine xt_13 ?_ | refine xt_23 ?_ | refine eq_t (by omega) ?_ | refine eq_f (by omega) ?_ | refine ne_t (by omega) ?_ | refine ne_f (by omega) ?_ | refine lt_t (by omega) ?_ | refine lt_f (by omega) ?_ | refine gt_t (by omega) ?_ | refine gt_f (by omega) ?_ | refine ge_t (by omega) ?_ | refine ge_f (by omega) ?_ | refine le_t (by omega) ?_ | refine le_f (by omega) ?_)
  refine al_s (cs := Item.zero.cs) h2 rfl fun d w3 h3 => ?_
  refine stN_at h3 0 rfl (vs := x.cs) rfl rfl (by decide) (ints_flat _) (cs' := x.cs) (by kernel_rfl) fun w4 h4 => ?_
  refine J0.cut (fun w => Sat e w (blk d 33 x.cs :: IsNet g n room (updQ Q a b q) :: blk c 33 Item.zero.cs :: R)) (fun k1 hcut => iff_t ?_) (fun w5 h5 => ?_)
  · refine link_of_s ho (h4.pick 1 rfl) ?_
    obtain ⟨D, hD, h5⟩ := IsNet.open (h4.pick 1 rfl)
    have hn8 := hD.hn
    have hab : a < 8 ∧ b < 8 := by obtain ⟨o1, o2, o3, o4, o5⟩ := ho; omega
    obtain ⟨f, hf⟩ := hD.ring a b hab.1 hab.2
    have hf16 := hf.hf
    have hlr := hD.room a b hab.1 hab.2
    rw [hq] at hlr hf
    have hlen := hf.len
    simp only [List.length_cons] at hlr hlen
    have hoff : offL a b + 130 ≤ 8322 := by unfold offL; omega
    repeat (first | refine gd_tt ?_ | refine gd_ff ?_ | refine gd_tf ?_ | refine gd_ft ?_ | refine gd_u ?_ | refine pk_t ?_ | refine pk_f ?_ | refine iff_t ?_ | refine iff_f ?_ | refine not_t ?_ | refine not_f ?_ | refine beq_s ?_ | refine bne_s ?_ | refine ncP_p ?_ | refine nc_p ?_ | refine fld_at ?_ | refine xt_02 ?_ | refine xt_12 ?_ | refine xt_03 ?_ | refine xt_13 ?_ | refine xt_23 ?_ | refine eq_t (by omega) ?_ | refine eq_f (by omega) ?_ | refine ne_t (by omega) ?_ | refine ne_f (by omega) ?_ | refine lt_t (by omega) ?_ | refine lt_f (by omega) ?_ | refine gt_t (by omega) ?_ | refine gt_f (by omega) ?_ | refine ge_t (by omega) ?_ | refine ge_f (by omega) ?_ | refine le_t (by omega) ?_ | refine le_f (by omega) ?_)
    refine ld1_at h5 0 rfl (funL_get (by omega)) ?_
    rw [hf.df]
    refine add_s (by omega) (by omega) ?_
    refine rem_s (by decide) ?_
    rw [Int.tmod_eq_emod_of_nonneg (by omega), show ((f : Int) + 1) % 16 = (((f + 1) % 16 : Nat) : Int) from by omega]
    repeat (first | refine gd_tt ?_ | refine gd_ff ?_ | refine gd_tf ?_ | refine gd_ft ?_ | refine gd_u ?_ | refine pk_t ?_ | refine pk_f ?_ | refine iff_t ?_ | refine iff_f ?_ | refine not_t ?_ | refine not_f ?_ | refine beq_s ?_ | refine bne_s ?_ | refine ncP_p ?_ | refine nc_p ?_ | refine fld_at ?_ | refine xt_02 ?_ | refine xt_12 ?_ | refine xt_03 ?_ | refine xt_13 ?_ | refine xt_23 ?_ | refine eq_t (by omega) ?_ | refine eq_f (by omega) ?_ | refine ne_t (by omega) ?_ | refine ne_f (by omega) ?_ | refine lt_t (by omega) ?_ | refine lt_f (by omega) ?_ | refine gt_t (by omega) ?_ | refine gt_f (by omega) ?_ | refine ge_t (by omega) ?_ | refine ge_f (by omega) ?_ | refine le_t (by omega) ?_ | refine le_f (by omega) ?_)
    refine stN_at h5 0 rfl (vs := ints [(((f + 1) % 16 : Nat) : Int)]) rfl rfl (by rw [funL_len]; omega) (ints_flat _) (funL_set (by show _ + 1 ≤ 8322; omega)) fun w6 h6 => ?_
    repeat (first | refine gd_tt ?_ | refine gd_ff ?_ | refine gd_tf ?_ | refine gd_ft ?_ | refine gd_u ?_ | refine pk_t ?_ | refine pk_f ?_ | refine iff_t ?_ | refine iff_f ?_ | refine not_t ?_ | refine not_f ?_ | refine beq_s ?_ | refine bne_s ?_ | refine ncP_p ?_ | refine nc_p ?_ | refine fld_at ?_ | refine xt_02 ?_ | refine xt_12 ?_ | refine xt_03 ?_ | refine xt_13 ?_ | refine xt_23 ?_ | refine eq_t (by omega) ?_ | refine eq_f (by omega) ?_ | refine ne_t (by omega) ?_ | refine ne_f (by omega) ?_ | refine lt_t (by omega) ?_ | refine lt_f (by omega) ?_ | refine gt_t (by omega) ?_ | refine gt_f (by omega) ?_ | refine ge_t (by omega) ?_ | refine ge_f (by omega) ?_ | refine le_t (by omega) ?_ | refine le_f (by omega) ?_)
    refine ld1_at h6 0 rfl (funL_get (by omega)) ?_
    rw [updR_out (by simp), hf.dm]
    simp only [List.length_cons]
    refine sub_s (by omega) (by omega) ?_
    rw [show ((q.length + 1 : Nat) : Int) - 1 = (q.length : Int) from by omega]
    repeat (first | refine gd_tt ?_ | refine gd_ff ?_ | refine gd_tf ?_ | refine gd_ft ?_ | refine gd_u ?_ | refine pk_t ?_ | refine pk_f ?_ | refine iff_t ?_ | refine iff_f ?_ | refine not_t ?_ | refine not_f ?_ | refine beq_s ?_ | refine bne_s ?_ | refine ncP_p ?_ | refine nc_p ?_ | refine fld_at ?_ | refine xt_02 ?_ | refine xt_12 ?_ | refine xt_03 ?_ | refine xt_13 ?_ | refine xt_23 ?_ | refine eq_t (by omega) ?_ | refine eq_f (by omega) ?_ | refine ne_t (by omega) ?_ | refine ne_f (by omega) ?_ | refine lt_t (by omega) ?_ | refine lt_f (by omega) ?_ | refine gt_t (by omega) ?_ | refine gt_f (by omega) ?_ | refine ge_t (by omega) ?_ | refine ge_f (by omega) ?_ | refine le_t (by omega) ?_ | refine le_f (by omega) ?_)
    refine stN_at h6 0 rfl (vs := ints [(q.length : Int)]) rfl rfl (by rw [funL_len]; omega) (ints_flat _) (funL_set (by show _ + 1 ≤ 8322; omega)) fun w7 h7 => ?_
    refine hcut _ (Sat.swap (IsNet.close (hD.upd hab.1 hab.2 hf.pop (by omega) fun i hi => ?_) h7))
    rw [updR_out (by simp; omega), updR_out (by simp; omega)]
  · refine ldN_at h5 0 (vs := x.cs) rfl (by rfl) rfl ?_
    refine stN_at h5 2 rfl (vs := x.cs) rfl rfl (by decide) (ints_flat _) (cs' := x.cs) (by kernel_rfl) fun w6 h6 => ?_
    refine ldN_at h6 2 (vs := x.cs) rfl (by rfl) rfl ?_
    exact hk _ (h6.selR [_, _, _] [_] [1] (by decide) rfl)

theorem link_Len_s {g : Nat} {n room : Int} {Q : Nat → Nat → List Item} {a b : Int} (hS : Sat e w (IsNet g n room Q :: R)) (hk : K (.int .i64 (if okL n a b then (Q a.toNat b.toNat).length else 0)) w) :
    Cl prog 18 #[.pointer (some ⟨g, 0, none⟩), .int .i64 a, .int .i64 b] w K := by
  refine link_Net_Len_calls ?_
  unfold link_Net_Len
  by_cases ho : okL n a b
  · rw [if_pos ho] at hk
    obtain ⟨a, rfl⟩ : ∃ m : Nat, a = m := ⟨a.toNat, by have := ho.1; omega⟩
    obtain ⟨b, rfl⟩ : ∃ m : Nat, b = m := ⟨b.toNat, by have := ho.2.1; omega⟩
    refine link_of_s ho hS ?_
    refine bnn_s _ ?_
    obtain ⟨D, hD, h2⟩ := IsNet.open hS
    have hn8 := hD.hn
    have hab : a < 8 ∧ b < 8 := by obtain ⟨o1, o2, o3, o4, o5⟩ := ho; omega
    obtain ⟨f, hf⟩ := hD.ring a b hab.1 hab.2
    have hoff : offL a b + 130 ≤ 8322 := by unfold offL; omega
    repeat (first | refine gd_tt ?_ | refine gd_ff ?_ | refine gd_tf ?_ | refine gd_ft ?_ | refine gd_u ?_ | refine pk_t ?_ | refine pk_f ?_ | refine iff_t ?_ | refine iff_f ?_ | refine not_t ?_ | refine not_f ?_ | refine beq_s ?_ | refine bne_s ?_ | refine ncP_p ?_ | refine nc_p ?_ | refine fld_at ?_ | refine xt_02 ?_ | refine xt_12 ?_ | refine xt_03 ?_ | refine xt_13 ?_ | refine xt_23 ?_ | refine eq_t (by omega) ?_ | refine eq_f (by omega) ?_ | refine ne_t (by omega) ?_ | refine ne_f (by omega) ?_ | refine lt_t (by omega) ?_ | refine lt_f (by omega) ?_ | refine gt_t (by omega) ?_ | refine gt_f (by omega) ?_ | refine ge_t (by omega) ?_ | refine ge_f (by omega) ?_ | refine le_t (by omega) ?_ | refine le_f (by omega) ?_)
    refine ld1_at h2 0 rfl (funL_get (by omega)) ?_
    rw [hf.dm]
    exact hk
  · rw [if_neg ho] at hk
    refine link_of_bad ho hS ?_
    refine bnn_n ?_
    repeat (first | refine gd_tt ?_ | refine gd_ff ?_ | refine gd_tf ?_ | refine gd_ft ?_ | refine gd_u ?_ | refine pk_t ?_ | refine pk_f ?_ | refine iff_t ?_ | refine iff_f ?_ | refine not_t ?_ | refine not_f ?_ | refine beq_s ?_ | refine bne_s ?_ | refine ncP_p ?_ | refine nc_p ?_ | refine fld_at ?_ | refine xt_02 ?_ | refine xt_12 ?_ | refine xt_03 ?_ | refine xt_13 ?_ | refine xt_23 ?_ | refine eq_t (by omega) ?_ | refine eq_f (by omega) ?_ | refine ne_t (by omega) ?_ | refine ne_f (by omega) ?_ | refine lt_t (by omega) ?_ | refine lt_f (by omega) ?_ | refine gt_t (by omega) ?_ | refine gt_f (by omega) ?_ | refine ge_t (by omega) ?_ | refine ge_f (by omega) ?_ | refine le_t (by omega) ?_ | refine le_f (by omega) ?_)
    exact hk
theorem link_Room_s {g : Nat} {n room : Int} {Q : Nat → Nat → List Item} {a b : Int} (hS : Sat e w (IsNet g n room Q :: R)) (hk : ∀ w', Sat e w' (IsNet g n room Q :: R) → K (.int .i64 (if okL n a b then room - (Q a.toNat b.toNat).length else 0)) w') :
    Cl prog 12 #[.pointer (some ⟨g, 0, none⟩), .int .i64 a, .int .i64 b] w K := by
  refine link_Net_Room_calls ?_
  unfold link_Net_Room
  by_cases ho : okL n a b
  · rw [if_pos ho] at hk
    obtain ⟨a, rfl⟩ : ∃ m : Nat, a = m := ⟨a.toNat, by have := ho.1; omega⟩
    obtain ⟨b, rfl⟩ : ∃ m : Nat, b = m := ⟨b.toNat, by have := ho.2.1; omega⟩
    refine link_of_s ho hS ?_
    refine bnn_s _ ?_
    obtain ⟨D, hD, h2⟩ := IsNet.open hS
    have hn8 := hD.hn
    have hr16 := hD.hr
    have hab : a < 8 ∧ b < 8 := by obtain ⟨o1, o2, o3, o4, o5⟩ := ho; omega
    obtain ⟨f, hf⟩ := hD.ring a b hab.1 hab.2
    have hlen := hf.len
    have hoff : offL a b + 130 ≤ 8322 := by unfold offL; omega
    refine iff_t ?_
    refine dr_s h2 fun w3 h3 => ?_
    repeat (first | refine gd_tt ?_ | refine gd_ff ?_ | refine gd_tf ?_ | refine gd_ft ?_ | refine gd_u ?_ | refine pk_t ?_ | refine pk_f ?_ | refine iff_t ?_ | refine iff_f ?_ | refine not_t ?_ | refine not_f ?_ | refine beq_s ?_ | refine bne_s ?_ | refine ncP_p ?_ | refine nc_p ?_ | refine fld_at ?_ | refine xt_02 ?_ | refine xt_12 ?_ | refine xt_03 ?_ | refine xt_13 ?_ | refine xt_23 ?_ | refine eq_t (by omega) ?_ | refine eq_f (by omega) ?_ | refine ne_t (by omega) ?_ | refine ne_f (by omega) ?_ | refine lt_t (by omega) ?_ | refine lt_f (by omega) ?_ | refine gt_t (by omega) ?_ | refine gt_f (by omega) ?_ | refine ge_t (by omega) ?_ | refine ge_f (by omega) ?_ | refine le_t (by omega) ?_ | refine le_f (by omega) ?_)
    refine ld1_at h3 0 rfl (funL_get (by omega)) ?_
    repeat (first | refine gd_tt ?_ | refine gd_ff ?_ | refine gd_tf ?_ | refine gd_ft ?_ | refine gd_u ?_ | refine pk_t ?_ | refine pk_f ?_ | refine iff_t ?_ | refine iff_f ?_ | refine not_t ?_ | refine not_f ?_ | refine beq_s ?_ | refine bne_s ?_ | refine ncP_p ?_ | refine nc_p ?_ | refine fld_at ?_ | refine xt_02 ?_ | refine xt_12 ?_ | refine xt_03 ?_ | refine xt_13 ?_ | refine xt_23 ?_ | refine eq_t (by omega) ?_ | refine eq_f (by omega) ?_ | refine ne_t (by omega) ?_ | refine ne_f (by omega) ?_ | refine lt_t (by omega) ?_ | refine lt_f (by omega) ?_ | refine gt_t (by omega) ?_ | refine gt_f (by omega) ?_ | refine ge_t (by omega) ?_ | refine ge_f (by omega) ?_ | refine le_t (by omega) ?_ | refine le_f (by omega) ?_)
    refine ld1_at h3 0 rfl (funL_get (by omega)) ?_
    rw [show (0 + 1 : Nat) = 1 from rfl, hD.dr, hf.dm]
    refine sub_s (by omega) (by omega) ?_
    exact hk _ (IsNet.close hD h3)
  · rw [if_neg ho] at hk
    refine link_of_bad ho hS ?_
    refine bnn_n ?_
    repeat (first | refine gd_tt ?_ | refine gd_ff ?_ | refine gd_tf ?_ | refine gd_ft ?_ | refine gd_u ?_ | refine pk_t ?_ | refine pk_f ?_ | refine iff_t ?_ | refine iff_f ?_ | refine not_t ?_ | refine not_f ?_ | refine beq_s ?_ | refine bne_s ?_ | refine ncP_p ?_ | refine nc_p ?_ | refine fld_at ?_ | refine xt_02 ?_ | refine xt_12 ?_ | refine xt_03 ?_ | refine xt_13 ?_ | refine xt_23 ?_ | refine eq_t (by omega) ?_ | refine eq_f (by omega) ?_ | refine ne_t (by omega) ?_ | refine ne_f (by omega) ?_ | refine lt_t (by omega) ?_ | refine lt_f (by omega) ?_ | refine gt_t (by omega) ?_ | refine gt_f (by omega) ?_ | refine ge_t (by omega) ?_ | refine ge_f (by omega) ?_ | refine le_t (by omega) ?_ | refine le_f (by omega) ?_)
    exact hk _ hS
end Go.Proofs.Ytcocbmbadigjbaa
