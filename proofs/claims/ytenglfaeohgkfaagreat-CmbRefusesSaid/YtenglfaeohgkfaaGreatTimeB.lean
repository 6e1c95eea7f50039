/- Keys: their order, and the document's comparison. Conditions: none. -/
import Derived.Test.YtenglfaeohgkfaaGreatTimeA
namespace Go.Proofs.YtenglfaeohgkfaaGreat
open Go Go.E
set_option maxRecDepth 100000
variable {e w : World} {R : List HP} {K : KV}

def KeyLt (a b : Key) : Prop := a.T < b.T ∨ (a.T = b.T ∧ (a.From < b.From ∨ (a.From = b.From ∧ a.Seq < b.Seq)))
theorem cmpK_cases (a b : Key) : (KeyLt a b ∧ cmpK a b = -1) ∨ (a = b ∧ cmpK a b = 0) ∨ (KeyLt b a ∧ cmpK a b = 1) := by
  obtain ⟨a1, a2, a3⟩ := a
  obtain ⟨b1, b2, b3⟩ := b
  unfold KeyLt cmpK cmpI
  simp only [Key.mk.injEq]
  rcases Int.lt_trichotomy a1 b1 with h | h | h
  · left
    rw [if_pos h]
    simp [h]
  · subst h
    rcases Int.lt_trichotomy a2 b2 with h | h | h
    · left; simp [h]
    · subst h
      rcases Int.lt_trichotomy a3 b3 with h | h | h
      · left; simp [h]
      · subst h; right; left; simp
      · right; right
        have : ¬ a3 < b3 := by omega
        simp [h, this]
    · right; right
      have : ¬ a2 < b2 := by omega
      simp [h, this]
  · right; right
    have : ¬ a1 < b1 := by omega
    simp [h, this]
theorem KeyLt.asymm {a b : Key} (h : KeyLt a b) : ¬ KeyLt b a := by unfold KeyLt at *; omega
theorem KeyLt.trans {a b c : Key} (h : KeyLt a b) (k : KeyLt b c) : KeyLt a c := by unfold KeyLt at *; omega
theorem KeyLt.irrefl (a : Key) : ¬ KeyLt a a := by unfold KeyLt; omega
theorem cmpK_lt {a b : Key} : cmpK a b < 0 ↔ KeyLt a b := by
  rcases cmpK_cases a b with ⟨h, e⟩ | ⟨h, e⟩ | ⟨h, e⟩ <;> rw [e]
  · exact ⟨fun _ => h, fun _ => by decide⟩
  · subst h; exact ⟨fun h => by omega, fun h => absurd h (KeyLt.irrefl a)⟩
  · exact ⟨fun h => by omega, fun k => absurd k h.asymm⟩
theorem cmpK_gt {a b : Key} : 0 < cmpK a b ↔ KeyLt b a := by
  rcases cmpK_cases a b with ⟨h, e⟩ | ⟨h, e⟩ | ⟨h, e⟩ <;> rw [e]
  · exact ⟨fun h => by omega, fun k => absurd k h.asymm⟩
  · subst h; exact ⟨fun h => by omega, fun h => absurd h (KeyLt.irrefl a)⟩
  · exact ⟨fun _ => h, fun _ => by decide⟩
theorem cmpK_eq {a b : Key} : cmpK a b = 0 ↔ a = b := by
  rcases cmpK_cases a b with ⟨h, e⟩ | ⟨h, e⟩ | ⟨h, e⟩ <;> rw [e]
  · exact ⟨fun h => by omega, fun k => by subst k; exact absurd h (KeyLt.irrefl a)⟩
  · exact ⟨fun _ => h, fun _ => rfl⟩
  · exact ⟨fun h => by omega, fun k => by subst k; exact absurd h (KeyLt.irrefl a)⟩
theorem KeyLt.tri (a b : Key) : KeyLt a b ∨ a = b ∨ KeyLt b a := by
  rcases cmpK_cases a b with ⟨h, _⟩ | ⟨h, _⟩ | ⟨h, _⟩
  · exact .inl h
  · exact .inr (.inl h)
  · exact .inr (.inr h)

theorem ref01_Cmp_s {a b : Key} (hS : Sat e w R) (hk : ∀ w', Sat e w' R → K (.int .i64 (cmpK a b)) w') : Cl prog 102 #[.agg a.cs.toArray, .agg b.cs.toArray] w K := by
  refine pacelineref01_Cmp_calls ?_
  unfold pacelineref01_Cmp
  refine al_s (cs := a.cs) hS rfl fun b2 w1 h1 => ?_
  refine al_s (cs := b.cs) h1 rfl fun b3 w2 h2 => ?_
  refine ldN_at h2 1 (vs := a.cs) rfl (by rfl) rfl ?_
  refine ldN_at h2 0 (vs := b.cs) rfl (by rfl) rfl ?_
  refine bO_eq (ns := a.ns) (ms := b.ns) eqT_24 agg_24 egt_24 (by decide) rfl ?_
  rw [Key.eq_ns]
  have h3 := hk _ h2.drop.drop
  by_cases hab : a = b
  · rw [decide_eq_true hab]
    rw [cmpK_eq.2 hab] at h3
    exact iff_t h3
  · rw [decide_eq_false hab]
    refine iff_f ?_
    rcases cmpK_cases a b with ⟨h, e1⟩ | ⟨h, _⟩ | ⟨h, e1⟩
    · rw [e1] at h3
      rcases h with h | ⟨h0, h | ⟨h1', h⟩⟩
      · repeat (first | refine gd_tt ?_ | refine gd_ff ?_ | refine gd_tf ?_ | refine gd_ft ?_ | refine gd_u ?_ | refine pk_t ?_ | refine pk_f ?_ | refine iff_t ?_ | refine iff_f ?_ | refine not_t ?_ | refine not_f ?_ | refine beq_s ?_ | refine bne_s ?_ | refine ncP_p ?_ | refine nc_p ?_ | refine fld_at ?_ | refine xt_02 ?_ | refine xt_12 ?_ | refine xt_03 ?_ | refine xt_13 ?_ | refine xt_23 ?_ | refine eq_t (by omega) ?_ | refine eq_f (by omega) ?_ | refine ne_t (by omega) ?_ | refine ne_f (by omega) ?_ | refine lt_t (by omega) ?_ | refine lt_f (by omega) ?_ | refine gt_t (by omega) ?_ | refine gt_f (by omega) ?_ | refine ge_t (by omega) ?_ | refine ge_f (by omega) ?_ | refine le_t (by omega) ?_ | refine le_f (by omega) ?_ | refine ld1_at h2 0 rfl rfl ?_ | refine ld1_at h2 1 rfl rfl ?_ | refine ld1_at h2 2 rfl rfl ?_)
        exact h3
      · repeat (first | refine gd_tt ?_ | refine gd_ff ?_ | refine gd_tf ?_ | refine gd_ft ?_ | refine gd_u ?_ | refine pk_t ?_ | refine pk_f ?_ | refine iff_t ?_ | refine iff_f ?_ | refine not_t ?_ | refine not_f ?_ | refine beq_s ?_ | refine bne_s ?_ | refine ncP_p ?_ | refine nc_p ?_ | refine fld_at ?_ | refine xt_02 ?_ | refine xt_12 ?_ | refine xt_03 ?_ | refine xt_13 ?_ | refine xt_23 ?_ | refine eq_t (by omega) ?_ | refine eq_f (by omega) ?_ | refine ne_t (by omega) ?_ | refine ne_f (by omega) ?_ | refine lt_t (by omega) ?_ | refine lt_f (by omega) ?_ | refine gt_t (by omega) ?_ | refine gt_f (by omega) ?_ | refine ge_t (by omega) ?_ | refine ge_f (by omega) ?_ | refine le_t (by omega) ?_ | refine le_f (by omega) ?_ | refine ld1_at h2 0 rfl rfl ?_ | refine ld1_at h2 1 rfl rfl ?_ | refine ld1_at h2 2 rfl rfl ?_)
        exact h3
      · repeat (first | refine gd_tt ?_ | refine gd_ff ?_ | refine gd_tf ?_ | refine gd_ft ?_ | refine gd_u ?_ | refine pk_t ?_ | refine pk_f ?_ | refine iff_t ?_ | refine iff_f ?_ | refine not_t ?_ | refine not_f ?_ | refine beq_s ?_ | refine bne_s ?_ | refine ncP_p ?_ | refine nc_p ?_ | refine fld_at ?_ | refine xt_02 ?_ | refine xt_12 ?_ | refine xt_03 ?_ | refine xt_13 ?_ | refine xt_23 ?_ | refine eq_t (by omega) ?_ | refine eq_f (by omega) ?_ | refine ne_t (by omega) ?_ | refine ne_f (by omega) ?_ | refine lt_t (by omega) ?_ | refine lt_f (by omega) ?_ | refine gt_t (by omega) ?_ | refine gt_f (by omega) ?_ | refine ge_t (by omega) ?_ | refine ge_f (by omega) ?_ | refine le_t (by omega) ?_ | refine le_f (by omega) ?_ | refine ld1_at h2 0 rfl rfl ?_ | refine ld1_at h2 1 rfl rfl ?_ | refine ld1_at h2 2 rfl rfl ?_)
        exact h3
    · exact absurd h hab
    · rw [e1] at h3
      rcases h with h | ⟨h0, h | ⟨h1', h⟩⟩
      · repeat (first | refine gd_tt ?_ | refine gd_ff ?_ | refine gd_tf ?_ | refine gd_ft ?_ | refine gd_u ?_ | refine pk_t ?_ | refine pk_f ?_ | refine iff_t ?_ | refine iff_f ?_ | refine not_t ?_ | refine not_f ?_ | refine beq_s ?_ | refine bne_s ?_ | refine ncP_p ?_ | refine nc_p ?_ | refine fld_at ?_ | refine xt_02 ?_ | refine xt_12 ?_ | refine xt_03 ?_ | refine xt_13 ?_ | refine xt_23 ?_ | refine eq_t (by omega) ?_ | refine eq_f (by omega) ?_ | refine ne_t (by omega) ?_ | refine ne_f (by omega) ?_ | refine lt_t (by omega) ?_ | refine lt_f (by omega) ?_ | refine gt_t (by omega) ?_ | refine gt_f (by omega) ?_ | refine ge_t (by omega) ?_ | refine ge_f (by omega) ?_ | refine le_t (by omega) ?_ | refine le_f (by omega) ?_ | refine ld1_at h2 0 rfl rfl ?_ | refine ld1_at h2 1 rfl rfl ?_ | refine ld1_at h2 2 rfl rfl ?_)
        exact h3
      · repeat (first | refine gd_tt ?_ | refine gd_ff ?_ | refine gd_tf ?_ | refine gd_ft ?_ | refine gd_u ?_ | refine pk_t ?_ | refine pk_f ?_ | refine iff_t ?_ | refine iff_f ?_ | refine not_t ?_ | refine not_f ?_ | refine beq_s ?_ | refine bne_s ?_ | refine ncP_p ?_ | refine nc_p ?_ | refine fld_at ?_ | refine xt_02 ?_ | refine xt_12 ?_ | refine xt_03 ?_ | refine xt_13 ?_ | refine xt_23 ?_ | refine eq_t (by omega) ?_ | refine eq_f (by omega) ?_ | refine ne_t (by omega) ?_ | refine ne_f (by omega) ?_ | refine lt_t (by omega) ?_ | refine lt_f (by omega) ?_ | refine gt_t (by omega) ?_ | refine gt_f (by omega) ?_ | refine ge_t (by omega) ?_ | refine ge_f (by omega) ?_ | refine le_t (by omega) ?_ | refine le_f (by omega) ?_ | refine ld1_at h2 0 rfl rfl ?_ | refine ld1_at h2 1 rfl rfl ?_ | refine ld1_at h2 2 rfl rfl ?_)
        exact h3
      · repeat (first | refine gd_tt ?_ | refine gd_ff ?_ | refine gd_tf ?_ | refine gd_ft ?_ | refine gd_u ?_ | refine pk_t ?_ | refine pk_f ?_ | refine iff_t ?_ | refine iff_f ?_ | refine not_t ?_ | refine not_f ?_ | refine beq_s ?_ | refine bne_s ?_ | refine ncP_p ?_ | refine nc_p ?_ | refine fld_at ?_ | refine xt_02 ?_ | refine xt_12 ?_ | refine xt_03 ?_ | refine xt_13 ?_ | refine xt_23 ?_ | refine eq_t (by omega) ?_ | refine eq_f (by omega) ?_ | refine ne_t (by omega) ?_ | refine ne_f (by omega) ?_ | refine lt_t (by omega) ?_ | refine lt_f (by omega) ?_ | refine gt_t (by omega) ?_ | refine gt_f (by omega) ?_ | refine ge_t (by omega) ?_ | refine ge_f (by omega) ?_ | refine le_t (by omega) ?_ | refine le_f (by omega) ?_ | refine ld1_at h2 0 rfl rfl ?_ | refine ld1_at h2 1 rfl rfl ?_ | refine ld1_at h2 2 rfl rfl ?_)
        exact h3
end Go.Proofs.YtenglfaeohgkfaaGreat
