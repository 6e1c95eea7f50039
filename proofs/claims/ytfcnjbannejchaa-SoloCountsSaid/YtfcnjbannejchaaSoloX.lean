/- What is sent, by the document: Above, Routes, Sent, Spread, Starts, Step. Conditions: the federation may be. The document's run: ahead, Put; what memory holds; New. Conditions: the federation's lists are short. The document's run: New, Next, Steps. Conditions: the federation's lists are short; at most a thousand steps. -/
import Derived.Test.YtfcnjbannejchaaSoloS
import Derived.Test.YtfcnjbannejchaaSoloU
namespace Go.Proofs.Ytfcnjbannejchaa
open Go Go.E
set_option maxRecDepth 100000
variable {e w : World} {L R : List HP} {K : KV} {S S2 : HP}

theorem ref05_Above_s {v : Value} {ps : List Int} {a : Int} (i : Nat) (hi : L[i]? = some S) (hS : Sat e w L) (hr : ∀ g, S g → rdS 1 (intsK .i64) v ps g) (ht : okTree ps) (ha : 0 ≤ a ∧ a < ps.length)
    (hk : ∀ v w', Sat e w' (ownS 3 1 (intsK .i64) v (above ps a) :: L) → K v w') : Cl prog 106 #[v, .int .i64 a] w K := by
  refine pacelineref05_Above_calls ?_
  unfold pacelineref05_Above
  refine bsl0 hS (intsK .i64) fun v0 w1 h1 => ?_
  have hi1 : ∀ X : HP, (X :: L)[i + 1]? = some S := fun X => by simpa using hi
  refine ref05_Check_s (i + 1) (hi1 _) h1 hr ?_
  have htE : treeE ps = 0 := by unfold treeE; exact if_pos ht
  rw [htE]
  refine ne_f rfl (gd_ff (gd_ff (lt_f (by omega) (pk_f (gd_ff (gd_ff (gd_ff (lnS_rd h1 (i + 1) (hi1 _) hr ?_))))))))
  refine gd_ff (ge_f (by omega) (pk_f (iff_f ?_)))
  have hpl := ht.2.1
  refine lpi2 (fun q t1 t5 w => ∃ (z : Int) (acc : List Int), t1 = .int .i64 z ∧ q = (z + 1).toNat ∧ -1 ≤ z ∧ z < ps.length ∧ acc.length + (z + 1).toNat ≤ 17 ∧ (∃ n : Nat, z < n ∧ acc ++ upL ps n z = above ps a) ∧ Sat e w (ownS 3 1 (intsK .i64) t5 acc :: L)) (a + 1).toNat
    ⟨a, [], rfl, rfl, by omega, ha.2, by simp; omega, ⟨a.toNat + 1, by omega, rfl⟩, h1⟩ ?_
  rintro q _ t5 w g ⟨z, acc, rfl, rfl, hz1, hzl, hacc, ⟨n, hzn, heq⟩, h2⟩ hg
  refine ge_c (fun c1 => iff_t ?_) (fun c1 => iff_f ?_)
  · obtain ⟨m, rfl⟩ : ∃ m, n = m + 1 := ⟨n - 1, by omega⟩
    rw [upL_succ, if_neg (by omega)] at heq
    obtain ⟨y, hy⟩ := get_of_lt (l := ps) (j := z.toNat) (by omega)
    have hzN : z = ((z.toNat : Nat) : Int) := by omega
    have hp := ht.2.2 z.toNat y hy
    have hgd : ps.getD z.toNat (-1) = y := by rw [List.getD_eq_getElem?_getD, hy]; rfl
    rw [hgd] at heq
    refine push1 te_22 (f := intsK .i64) (fun _ => rfl) (fun _ _ h => by simp [intsK] at h; subst h; rfl) h2 (x := z) rfl (by omega) fun v' w8 h8 => ?_
    rw [show Value.int .i64 z = .int .i64 ((z.toNat : Nat) : Int) from by rw [← hzN]]
    refine ixS_rd h8 (i + 1) (hi1 _) hr (fun _ => rfl) hy fun q hq => ?_
    refine ld1_of h8 (i + 1) (hi1 _) hq (v := .int .i64 y) rfl ?_
    refine hg (y + 1).toNat _ _ _ (by omega) ⟨y, acc ++ [z], rfl, rfl, by omega, by omega, by rw [List.length_append, List.length_singleton]; omega, ⟨m, by omega, ?_⟩, h8⟩
    rw [List.append_assoc]
    exact heq
  · rw [upL_neg ps (by omega), List.append_nil] at heq
    refine hk _ _ ?_
    rw [← heq]
    exact h2
theorem hears_above (ps : List Int) (c : Int) (f : Fed) : hearsB ps c f = (above ps c).any fun s => decide (s ∈ f.Subs) := by
  unfold hearsB
  rw [Bool.eq_iff_iff, List.any_eq_true, List.any_eq_true]
  constructor
  · rintro ⟨s, h1, h2⟩
    exact ⟨s, of_decide_eq_true h2, decide_eq_true h1⟩
  · rintro ⟨s, h1, h2⟩
    exact ⟨s, of_decide_eq_true h2, decide_eq_true h1⟩
theorem upL_len (ps : List Int) : ∀ (n : Nat) (a : Int), (upL ps n a).length ≤ n
  | 0, _ => Nat.le_refl _
  | n + 1, a => by
    rw [upL_succ]
    split
    · simp
    · have := upL_len ps n (ps.getD a.toNat (-1))
      rw [List.length_cons]
      omega
theorem ref08_Routes_s {x : WdX} {f c : Int} (i : Nat) (hi : L[i]? = some S) (hS : Sat e w L) (hr : ∀ g, S g → RdWd x g) (hs : x.short) (ht : okTree x.Parents) (hc : 0 ≤ c ∧ c < x.Parents.length)
    (hk : ∀ v w', Sat e w' (ownS 3 1 (intsK .i64) v (routesL x.w.Parents f c x.w.Feds) :: L) → K v w') : Cl prog 85 #[.agg x.cs.toArray, .int .i64 f, .int .i64 c] w K := by
  refine pacelineref08_Routes_calls ?_
  unfold pacelineref08_Routes
  refine al_s (cs := x.cs) hS rfl fun b w1 h1 => ?_
  refine fld_at (ld1_at h1 0 rfl (v := x.pv) rfl ?_)
  refine ref05_Above_s (i + 1) (by simpa using hi) h1 (fun g hg => (hr g hg).par) ht hc fun av w2 h2 => ?_
  have hal : (above x.Parents c).length ≤ 1000 := by
    have h3 := upL_len x.Parents (c.toNat + 1) c
    have h4 := ht.2.1
    unfold above
    omega
  have hab := fun f => hears_above x.Parents c f
  generalize above x.Parents c = ab at h2 hal hab
  refine bsl0 h2 (intsK .i64) fun v0 w3 h3 => ?_
  have hfl := hs.feds
  refine lpi2 (fun q t7 t13 w => ∃ j : Nat, j ≤ x.Feds.length ∧ t13 = .int .i64 j ∧ q = x.Feds.length - j ∧ Sat e w (ownS 3 1 (intsK .i64) t7 (routesL x.Parents f c ((x.Feds.take j).map FedX.f)) :: ownS 3 1 (intsK .i64) av ab :: blk b 25 x.cs :: L)) x.Feds.length
    ⟨0, Nat.zero_le _, rfl, rfl, h3⟩ ?_
  rintro q t7 _ w g ⟨j, hj, rfl, rfl, h4⟩ hg
  have hi3 : (ownS 3 1 (intsK .i64) t7 (routesL x.Parents f c ((x.Feds.take j).map FedX.f)) :: ownS 3 1 (intsK .i64) av ab :: blk b 25 x.cs :: L)[i + 3]? = some S := by simpa using hi
  refine fld_at (ld1_at h4 2 rfl (v := x.fv) rfl ?_)
  refine lnS_rd h4 (i + 3) hi3 (fun g hg => (hr g hg).feds) ?_
  refine lt_c (fun c0 => iff_t ?_) (fun c0 => iff_f ?_)
  · obtain ⟨fd, hf⟩ := get_of_lt (l := x.Feds) (j := j) (by omega)
    have hfm := List.mem_of_getElem? hf
    have hlen : ((x.Feds.take j).map FedX.f).length = j := by rw [List.length_map, List.length_take]; omega
    have hsn : routesL x.Parents f c ((x.Feds.take (j + 1)).map FedX.f) = routesL x.Parents f c ((x.Feds.take j).map FedX.f) ++ if (j : Int) ≠ f ∧ hearsB x.Parents c fd.f = true then [(j : Int)] else [] := by
      rw [take_snoc hf, List.map_append, List.map_singleton, routesL_snoc, hlen]
    have hrl := routesL_len x.Parents f c ((x.Feds.take j).map FedX.f)
    rw [hlen] at hrl
    refine J1.cut (fun t7 w => Sat e w (ownS 3 1 (intsK .i64) t7 (routesL x.Parents f c ((x.Feds.take (j + 1)).map FedX.f)) :: ownS 3 1 (intsK .i64) av ab :: blk b 25 x.cs :: L)) (fun k2 hcut => ?_) (fun t7 w h5 => ?_)
    · rw [hsn, hab] at hcut
      refine lpi2 (fun q t10 t11 w => ∃ n : Nat, n ≤ ab.length ∧ t11 = .int .i64 n ∧ q = ab.length - n ∧ t10 = .bool ((ab.take n).any fun s => decide (s ∈ fd.f.Subs)) ∧ Sat e w (ownS 3 1 (intsK .i64) t7 (routesL x.Parents f c ((x.Feds.take j).map FedX.f)) :: ownS 3 1 (intsK .i64) av ab :: blk b 25 x.cs :: L)) ab.length
        ⟨0, Nat.zero_le _, rfl, rfl, by simp, h4⟩ ?_
      rintro q _ _ w g2 ⟨n, hn, rfl, rfl, rfl, h5⟩ hg2
      refine lnS_rd h5 1 rfl (fun g hg => own_rd hg) ?_
      refine lt_c (fun c1 => iff_t ?_) (fun c1 => iff_f ?_)
      · obtain ⟨s, hsn2⟩ := get_of_lt (l := ab) (j := n) (by omega)
        refine dr_s h5 fun w6 h6 => ?_
        have hgo : ∀ w', Sat e w' (ownS 3 1 (intsK .i64) t7 (routesL x.Parents f c ((x.Feds.take j).map FedX.f)) :: ownS 3 1 (intsK .i64) av ab :: blk b 25 x.cs :: L) → bi .add .i64 (.int .i64 n) (.int .i64 1) w' fun t29 w => g2 [.bool ((ab.take (n + 1)).any fun s => decide (s ∈ fd.f.Subs)), t29] w := fun w' h' => by
          refine inc_s (by omega) ?_
          exact hg2 _ _ _ _ (by omega) ⟨n + 1, by omega, rfl, rfl, rfl, h'⟩
        have hst : ((ab.take (n + 1)).any fun s => decide (s ∈ fd.f.Subs)) = (((ab.take n).any fun s => decide (s ∈ fd.f.Subs)) || decide (s ∈ fd.f.Subs)) := by
          rw [take_snoc hsn2, List.any_append]
          simp
        rw [hst] at hgo
        cases hb : (ab.take n).any fun s => decide (s ∈ fd.f.Subs) with
        | true =>
          rw [hb] at hgo
          repeat (first | refine gd_tt ?_ | refine gd_ff ?_ | refine gd_tf ?_ | refine gd_ft ?_ | refine gd_u ?_ | refine pk_t ?_ | refine pk_f ?_ | refine iff_t ?_ | refine iff_f ?_ | refine not_t ?_ | refine not_f ?_ | refine beq_s ?_ | refine bne_s ?_ | refine ncP_p ?_ | refine nc_p ?_ | refine fld_at ?_ | refine xt_02 ?_ | refine xt_12 ?_ | refine xt_03 ?_ | refine xt_13 ?_ | refine xt_23 ?_ | refine eq_t (by omega) ?_ | refine eq_f (by omega) ?_ | refine ne_t (by omega) ?_ | refine ne_f (by omega) ?_ | refine lt_t (by omega) ?_ | refine lt_f (by omega) ?_ | refine gt_t (by omega) ?_ | refine gt_f (by omega) ?_ | refine ge_t (by omega) ?_ | refine ge_f (by omega) ?_ | refine le_t (by omega) ?_ | refine le_f (by omega) ?_)
          exact hgo _ h6
        | false =>
          rw [hb] at hgo
          refine gd_ff (fld_at (gd_ff (ld1_at h6 2 rfl (v := x.fv) rfl (gd_ff ?_))))
          refine gd_ff (ixS_rd h6 (i + 3) hi3 (fun g hg => (hr g hg).feds) (fun _ => rfl) hf fun a ha => ?_)
          refine gd_ff (fld_of ha fun a1 ha1 => gd_ff (ld1_of h6 (i + 3) hi3 ha1 (v := fd.sv) rfl ?_))
          refine gd_ff (gd_ff (gd_ff (ixS_rd h6 1 rfl (fun g hg => own_rd hg) (fun _ => rfl) hsn2 fun a ha => ?_)))
          refine gd_ff (ld1_of h6 1 rfl ha (v := .int .i64 s) rfl (gd_ff ?_))
          refine ref05_Has_s (i + 3) hi3 h6 (fun g hg => ((hr g hg).fed fd hfm).subs) (by have := (hs.fed fd hfm).subs; omega) ?_
          refine pk_f ?_
          exact hgo _ h6
      · have en : n = ab.length := by omega
        rw [en, List.take_length]
        have hskip : ¬ ((j : Int) ≠ f ∧ (ab.any fun s => decide (s ∈ fd.f.Subs)) = true) → k2 t7 w := fun h => by
          rw [if_neg h, List.append_nil] at hcut
          exact hcut _ _ h5
        refine ne_c (fun c2 => ?_) (fun c2 => ?_)
        · refine gd_tt ?_
          cases hb : ab.any fun s => decide (s ∈ fd.f.Subs) with
          | true =>
            refine pk_t (iff_t ?_)
            refine push1 te_22 (f := intsK .i64) (fun _ => rfl) (fun _ _ h => by simp [intsK] at h; subst h; rfl) h5 (x := (j : Int)) rfl (by omega) fun v' w8 h8 => ?_
            refine hcut _ _ ?_
            rw [if_pos ⟨c2, hb⟩]
            exact h8
          | false =>
            refine pk_t (iff_f (hskip fun h => ?_))
            rw [hb] at h
            cases h.2
        · repeat (first | refine gd_tt ?_ | refine gd_ff ?_ | refine gd_tf ?_ | refine gd_ft ?_ | refine gd_u ?_ | refine pk_t ?_ | refine pk_f ?_ | refine iff_t ?_ | refine iff_f ?_ | refine not_t ?_ | refine not_f ?_ | refine beq_s ?_ | refine bne_s ?_ | refine ncP_p ?_ | refine nc_p ?_ | refine fld_at ?_ | refine xt_02 ?_ | refine xt_12 ?_ | refine xt_03 ?_ | refine xt_13 ?_ | refine xt_23 ?_ | refine eq_t (by omega) ?_ | refine eq_f (by omega) ?_ | refine ne_t (by omega) ?_ | refine ne_f (by omega) ?_ | refine lt_t (by omega) ?_ | refine lt_f (by omega) ?_ | refine gt_t (by omega) ?_ | refine gt_f (by omega) ?_ | refine ge_t (by omega) ?_ | refine ge_f (by omega) ?_ | refine le_t (by omega) ?_ | refine le_f (by omega) ?_)
          exact hskip fun h => h.1 c2
    · refine inc_s (by omega) ?_
      exact hg _ _ _ _ (by omega) ⟨j + 1, by omega, rfl, rfl, h5⟩
  · have ej : j = x.Feds.length := by omega
    rw [ej, List.take_length] at h4
    exact hk _ _ (h4.selR [_, _, _] [_] [0] (by decide) rfl)

theorem ref07_Sent_s {f seq now body : Int} {o : Out} (hb : 0 ≤ body) (hA : 0 ≤ o.Add) (hS : Sat e w L) (hk : ∀ w', Sat e w' L → K (.agg (sentM f seq now body o).cs.toArray) w') :
    Cl prog 84 #[.int .i64 f, .int .i64 seq, .int .i64 now, .int .i64 body, .agg o.cs.toArray] w K := by
  refine pacelineref07_Sent_calls ?_
  unfold pacelineref07_Sent
  refine al_s (cs := o.cs) hS rfl fun t9 w1 h1 => ?_
  rw [zero_37]
  refine al_s (cs := Msg.zero.cs) h1 rfl fun t10 w2 h2 => ?_
  refine rem_s (by decide) ?_
  rw [Int.tmod_eq_emod_of_nonneg hb]
  refine fld_at (ld1_at h2 1 rfl (v := .int .i64 o.Add) rfl ?_)
  refine rem_s (by decide) ?_
  rw [Int.tmod_eq_emod_of_nonneg hA]
  refine add_s (by omega) (by omega) ?_
  refine rem_s (by decide) ?_
  rw [Int.tmod_eq_emod_of_nonneg (by omega)]
  refine add_s (by omega) (by omega) ?_
  refine dr_s h2 fun w3 h3 => ?_
  refine fld_at (ld1_at h3 1 rfl (v := .int .i64 o.Delay) rfl ?_)
  refine fld_at (ld1_at h3 1 rfl (v := .int .i64 o.Class) rfl ?_)
  refine rem_s (by decide) ?_
  rw [Int.tmod_eq_emod_of_nonneg (by omega)]
  refine ref01_Add_s ?_
  have oC : ld1 (.pointer (some ⟨t9, 0 + 0, none⟩)) w3 (fun v' w'' => v' = .int .i64 o.Class ∧ w'' = w3) := ld1_at h3 1 rfl (v := .int .i64 o.Class) rfl ⟨rfl, rfl⟩
  refine ⟨oC, bld_s (ints [addT now o.Delay, f, seq]) (by kernel_rfl) ⟨oC, ?_⟩⟩
  rw [show ((body % 1000 + o.Add % 1000) % 1000 + 1000) % 1000 = (body + o.Add) % 1000 from by omega]
  refine bld_s (sentM f seq now body o).cs (by kernel_rfl) ?_
  refine stN_at h3 0 rfl (vs := (sentM f seq now body o).cs) rfl rfl (by simp [ints, Msg.ns, Msg.zero]) (ints_flat _) (cs' := (sentM f seq now body o).cs) (by rfl) fun w4 h4 => ?_
  refine ldN_at h4 0 (vs := (sentM f seq now body o).cs) rfl (by rfl) rfl ?_
  exact hk _ h4.drop.drop

theorem ref08_Spread_s {x : WdX} {f seq now body : Int} {v : Value} {outs : List Out} (i k : Nat) (hi : L[i]? = some S) (hk2 : L[k]? = some S2) (hS : Sat e w L) (hr : ∀ g, S g → RdWd x g) (hr2 : ∀ g, S2 g → rdS 3 Out.cs v outs g) (hs : x.short) (ht : okTree x.Parents)
    (ho : ∀ o ∈ outs, okSend x.Parents.length o) (hl : outs.length ≤ 1000) (hb : 0 ≤ body) (hq : 0 ≤ seq ∧ seq ≤ 1125899906842624)
    (hk : ∀ v w', Sat e w' (ownS 37 6 Msg.cs v (spreadL x.w.Parents x.w.Feds f seq now body outs) :: L) → K v w') : Cl prog 59 #[.agg x.cs.toArray, .int .i64 f, .int .i64 seq, .int .i64 now, .int .i64 body, v] w K := by
  refine pacelineref08_Spread_calls ?_
  unfold pacelineref08_Spread
  refine al_s (cs := x.cs) hS rfl fun b w1 h1 => ?_
  have hi1 : (blk b 25 x.cs :: L)[i + 1]? = some S := by simpa using hi
  have hk1 : (blk b 25 x.cs :: L)[k + 1]? = some S2 := by simpa using hk2
  have hfl := hs.feds
  rw [zero_37]
  refine bsl0 h1 Msg.cs fun v0 w1b h1b => ?_
  have hflat := wd_cells i hi hS hr
  refine lpi2 (fun q t13 t21 w => ∃ j : Nat, j ≤ outs.length ∧ t21 = .int .i64 j ∧ q = outs.length - j ∧ Sat e w (ownS 37 6 Msg.cs t13 (spreadL x.w.Parents x.w.Feds f seq now body (outs.take j)) :: blk b 25 x.cs :: L)) outs.length
    ⟨0, Nat.zero_le _, rfl, rfl, h1b⟩ ?_
  rintro q t13 _ w g ⟨j, hj, rfl, rfl, h2⟩ hg
  refine lnS_rd h2 (k + 2) (by simpa using hk2) hr2 ?_
  refine lt_c (fun c0 => iff_t ?_) (fun c0 => iff_f ?_)
  · obtain ⟨o, hoj⟩ := get_of_lt (l := outs) (j := j) (by omega)
    obtain ⟨o1, o2, o3⟩ := ho o (List.mem_of_getElem? hoj)
    have hlen : (outs.take j).length = j := by rw [List.length_take]; omega
    have hsn : spreadL x.w.Parents x.w.Feds f seq now body (outs.take (j + 1)) = spreadL x.w.Parents x.w.Feds f seq now body (outs.take j) ++ (routesL x.w.Parents f o.Class x.w.Feds).map fun to => { sentM f (seq + j) now body o with To := to } := by
      rw [take_snoc hoj, spreadL_snoc, hlen]
    have hsl := spreadL_len x.w.Parents x.w.Feds f seq now body (outs.take j)
    have hfl2 : x.w.Feds.length ≤ 1000 := by simp only [WdX.w, List.length_map]; exact hfl
    rw [hlen] at hsl
    have hsl2 : j * x.w.Feds.length ≤ 1000 * 1000 := Nat.mul_le_mul (by omega) hfl2
    have hi2 : (ownS 37 6 Msg.cs t13 (spreadL x.w.Parents x.w.Feds f seq now body (outs.take j)) :: blk b 25 x.cs :: L)[i + 2]? = some S := by simpa using hi
    have hk3 : (ownS 37 6 Msg.cs t13 (spreadL x.w.Parents x.w.Feds f seq now body (outs.take j)) :: blk b 25 x.cs :: L)[k + 2]? = some S2 := by simpa using hk2
    refine add_s (by omega) (by omega) ?_
    refine ixS_rd h2 (k + 2) hk3 hr2 (fun _ => rfl) hoj fun a ha => ?_
    refine ldN_of h2 (k + 2) hk3 ha rfl ?_
    refine ref07_Sent_s hb o3 h2 fun w5 h5 => ?_
    refine al_s (cs := Msg.zero.cs) h5 rfl fun tm w6 h6 => ?_
    generalize hm : sentM f (seq + j) now body o = m at hsn h6 ⊢
    have hmc : m.Class = o.Class := by rw [← hm]; rfl
    refine stN_at h6 0 rfl (vs := m.cs) rfl rfl (by decide) (ints_flat _) (cs' := m.cs) (by rfl) fun w7 h7 => ?_
    refine ldN_at h7 2 (vs := x.cs) rfl (by rfl) rfl ?_
    refine fld_at (ld1_at h7 0 rfl (v := .int .i64 m.Class) rfl ?_)
    rw [hmc]
    refine ref08_Routes_s (x := x) (i + 3) (by simpa using hi) h7 hr hs ht ⟨o1, o2⟩ fun tv w8 h8 => ?_
    generalize hrt : routesL x.w.Parents f o.Class x.w.Feds = rt at hsn h8 ⊢
    have hrtl : rt.length ≤ 1000 := by rw [← hrt]; exact Nat.le_trans (routesL_len _ _ _ _) hfl2
    refine lpi2 (fun q t13 t40 w => ∃ (n : Nat) (m' : Msg), n ≤ rt.length ∧ t40 = .int .i64 n ∧ q = rt.length - n ∧ (∀ to, { m' with To := to } = { m with To := to }) ∧
        Sat e w (ownS 37 6 Msg.cs t13 (spreadL x.w.Parents x.w.Feds f seq now body (outs.take j) ++ (rt.take n).map fun to => { m with To := to }) :: ownS 3 1 (intsK .i64) tv rt :: blk tm 37 m'.cs :: blk b 25 x.cs :: L)) rt.length
      ⟨0, m, Nat.zero_le _, rfl, rfl, fun _ => rfl, by simpa using h8.selR [_, _, _, _] [_, _, _, _] [2, 0, 1, 3] (by decide) rfl⟩ ?_
    rintro q t13' _ w g2 ⟨n, m', hn, rfl, rfl, hmm, h9⟩ hg2
    refine lnS_rd h9 1 rfl (fun g hg => own_rd hg) ?_
    refine lt_c (fun c1 => iff_t ?_) (fun c1 => iff_f ?_)
    · obtain ⟨to, hto⟩ := get_of_lt (l := rt) (j := n) (by omega)
      refine ixS_rd h9 1 rfl (fun g hg => own_rd hg) (fun _ => rfl) hto fun a ha => ?_
      refine ld1_of h9 1 rfl ha (v := .int .i64 to) rfl ?_
      refine fld_at (stN_at h9 2 rfl (vs := ints [to]) rfl rfl (Nat.le_of_ble_eq_true rfl) (ints_flat _) (cs' := ({ m' with To := to } : Msg).cs) (by rfl) fun w10 h10 => ?_)
      refine ldN_at h10 2 (vs := ({ m' with To := to } : Msg).cs) rfl (by rfl) rfl ?_
      refine push1 te_58 (f := Msg.cs) (fun _ => rfl) (fun _ => ints_flat _) h10 (x := { m' with To := to }) rfl (by rw [List.length_append, List.length_map, List.length_take]; omega) fun v' w11 h11 => ?_
      refine inc_s (by omega) ?_
      refine hg2 _ _ _ _ (by omega) ⟨n + 1, { m' with To := to }, by omega, rfl, rfl, fun to' => hmm to', ?_⟩
      rw [take_snoc hto, List.map_append, ← List.append_assoc, List.map_singleton, ← hmm to]
      exact h11
    · have en : n = rt.length := by omega
      rw [en, List.take_length, ← hsn] at h9
      refine inc_s (by omega) ?_
      exact hg _ _ _ _ (by omega) ⟨j + 1, by omega, rfl, rfl, h9.selR [_, _, _, _] [_, _] [0, 3] (by decide) rfl⟩
  · have ej : j = outs.length := by omega
    rw [ej, List.take_length] at h2
    exact hk _ _ (h2.selR [_, _] [_] [0] (by decide) rfl)
theorem ref08_Starts_s {x : WdX} (i : Nat) (hi : L[i]? = some S) (hS : Sat e w L) (hr : ∀ g, S g → RdWd x g) (hs : x.short) (ht : okTree x.Parents) (hf8 : x.Feds.length ≤ 8)
    (ho : ∀ f ∈ x.Feds, f.Init.length ≤ 4 ∧ ∀ o ∈ f.Init, okSend x.Parents.length o)
    (hk : ∀ v w', Sat e w' (ownS 37 6 Msg.cs v (startsL x.w.Parents x.w.Feds x.w.Feds) :: L) → (startsL x.w.Parents x.w.Feds x.w.Feds).length ≤ 1000 → K v w') : Cl prog 35 #[.agg x.cs.toArray] w K := by
  refine pacelineref08_Starts_calls ?_
  unfold pacelineref08_Starts
  refine al_s (cs := x.cs) hS rfl fun b w1 h1 => ?_
  have hi1 : (blk b 25 x.cs :: L)[i + 1]? = some S := by simpa using hi
  refine bsl0 h1 Msg.cs fun v0 w1b h1b => ?_
  have hflen : x.w.Feds.length = x.Feds.length := by simp [WdX.w]
  refine lpi2 (fun q t3 t9 w => ∃ j : Nat, j ≤ x.Feds.length ∧ t9 = .int .i64 j ∧ q = x.Feds.length - j ∧ (startsL x.w.Parents x.w.Feds ((x.Feds.take j).map FedX.f)).length ≤ j * 32 ∧
      Sat e w (ownS 37 6 Msg.cs t3 (startsL x.w.Parents x.w.Feds ((x.Feds.take j).map FedX.f)) :: blk b 25 x.cs :: L)) x.Feds.length
    ⟨0, Nat.zero_le _, rfl, rfl, by simp [startsL], h1b⟩ ?_
  rintro q t3 _ w g ⟨j, hj, rfl, rfl, hb, h2⟩ hg
  have hi2 : (ownS 37 6 Msg.cs t3 (startsL x.w.Parents x.w.Feds ((x.Feds.take j).map FedX.f)) :: blk b 25 x.cs :: L)[i + 2]? = some S := by simpa using hi
  refine fld_at (ld1_at h2 1 rfl (v := x.fv) rfl ?_)
  refine lnS_rd h2 (i + 2) hi2 (fun g hg => (hr g hg).feds) ?_
  refine lt_c (fun c0 => iff_t ?_) (fun c0 => iff_f ?_)
  · obtain ⟨fd, hf⟩ := get_of_lt (l := x.Feds) (j := j) (by omega)
    have hfm := List.mem_of_getElem? hf
    obtain ⟨ho1, ho2⟩ := ho fd hfm
    have hlen : ((x.Feds.take j).map FedX.f).length = j := by rw [List.length_map, List.length_take]; omega
    have hsn : startsL x.w.Parents x.w.Feds ((x.Feds.take (j + 1)).map FedX.f) = startsL x.w.Parents x.w.Feds ((x.Feds.take j).map FedX.f) ++ spreadL x.w.Parents x.w.Feds (j : Int) 0 0 0 fd.Init := by
      rw [take_snoc hf, List.map_append, List.map_singleton, startsL_snoc, hlen]
      rfl
    have hsl := spreadL_len x.w.Parents x.w.Feds (j : Int) 0 0 0 fd.Init
    have hsl2 : fd.Init.length * x.w.Feds.length ≤ 4 * 8 := Nat.mul_le_mul ho1 (by rw [hflen]; exact hf8)
    refine dr_s h2 fun w6 h6 => ?_
    refine ldN_at h6 1 (vs := x.cs) rfl (by rfl) rfl ?_
    refine fld_at (ld1_at h6 1 rfl (v := x.fv) rfl ?_)
    refine ixS_rd h6 (i + 2) hi2 (fun g hg => (hr g hg).feds) (fun _ => rfl) hf fun a ha => ?_
    refine fld_of ha fun a1 ha1 => ld1_of h6 (i + 2) hi2 ha1 (v := fd.iv) rfl ?_
    refine ref08_Spread_s (x := x) (outs := fd.Init) (i + 2) (i + 2) hi2 hi2 h6 hr (fun g hg => ((hr g hg).fed fd hfm).init) hs ht ho2 (by omega) (by decide) (by decide) fun mv w7 h7 => ?_
    have h8 := h7.selR [_, _, _] [_, _, _] [1, 0, 2] (by decide) rfl
    refine apS_own te_58 und_58 (f := Msg.cs) (fun _ => rfl) (fun _ => ints_flat _) h8 (fun g hg => own_rd hg) (by omega) fun v2 w9 h9 => ?_
    refine inc_s (by omega) ?_
    refine hg _ _ _ _ (by omega) ⟨j + 1, by omega, rfl, rfl, ?_, ?_⟩
    · rw [hsn, List.length_append]; omega
    · rw [hsn]
      exact h9.selR [_, _, _] [_, _] [0, 2] (by decide) rfl
  · have ej : j = x.Feds.length := by omega
    rw [ej, List.take_length] at h2 hb
    exact hk _ _ (h2.selR [_, _] [_] [0] (by decide) rfl) (Nat.le_trans hb (by omega))

theorem ref07_Step_s {v : Value} {l : List RuleX} {s c : Int} (hS : Sat e w (S :: R)) (hr : ∀ g, S g → RdRules v l g) (hl : l.length ≤ 1000) (hl2 : ∀ r ∈ l, r.Sends.length ≤ 1000)
    (hk : ∀ v' w', Sat e w' (ownS 63 3 Out.cs v' (stepR (l.map RuleX.r) s c).2 :: S :: R) → K (.tuple #[.int .i64 (stepR (l.map RuleX.r) s c).1, v']) w') : Cl prog 60 #[v, .int .i64 s, .int .i64 c] w K := by
  refine pacelineref07_Step_calls ?_
  unfold pacelineref07_Step
  refine ref07_Find_s 0 rfl hS (fun g hg => (hr g hg).s) (by omega) (fun hno => ?_) (fun j r hj hon hlo => ?_)
  · rw [stepR_none hno] at hk
    refine lt_t (by omega) (iff_t ?_)
    exact hk _ _ (hS.own_nil 63 3 Out.cs)
  · rw [stepR_some hj hon hlo] at hk
    have hrm := List.mem_of_getElem? hj
    refine lt_f (by omega) (iff_f ?_)
    refine bsl0 hS Out.cs fun v0 w1 h1 => ?_
    refine dr_s h1 fun w2 h2 => ?_
    refine ixS_rd h2 1 rfl (fun g hg => (hr g hg).s) (fun _ => rfl) hj fun a ha => ?_
    refine fld_of ha fun a1 ha1 => ?_
    refine ld1_of h2 1 rfl ha1 (v := .int .i64 r.Next) rfl ?_
    refine ixS_rd h2 1 rfl (fun g hg => (hr g hg).s) (fun _ => rfl) hj fun a2 ha2 => ?_
    refine fld_of ha2 fun a3 ha3 => ?_
    refine ld1_of h2 1 rfl ha3 (v := r.sv) rfl ?_
    refine apS_ownM te_51 und_51 (f := Out.cs) (m := r.Sends) (fun _ => rfl) (fun _ _ => ints_flat _) h2 (fun g hg => (hr g hg).e r hrm) (by have := hl2 r hrm; simp; omega) fun v' w6 h6 => ?_
    rw [List.nil_append] at h6
    exact ⟨ld1_of h6 1 rfl ha1 (v := .int .i64 r.Next) rfl ⟨rfl, rfl⟩, hk _ _ h6⟩

end Go.Proofs.Ytfcnjbannejchaa
namespace Go.Proofs.Ytfcnjbannejchaa
open Go Go.E
set_option maxRecDepth 100000
variable {e w : World} {L Q : List HP} {K : KV} {S S2 : HP}

theorem ahead_s {a b : Msg} (hS : Sat e w L) (hk : ∀ w', Sat e w' L → K (.bool (decide (cmpM a b < 0))) w') : Cl prog 58 #[.agg a.cs.toArray, .agg b.cs.toArray] w K := by
  refine pacelineref09_ahead_calls ?_
  unfold pacelineref09_ahead
  refine al_s (cs := a.cs) hS rfl fun t2 w1 h1 => ?_
  refine al_s (cs := b.cs) h1 rfl fun t3 w2 h2 => ?_
  refine fld_at (ldN_at h2 1 (vs := a.key.cs) rfl (by rfl) rfl ?_)
  refine fld_at (ldN_at h2 0 (vs := b.key.cs) rfl (by rfl) rfl ?_)
  refine ref01_Cmp_s h2 fun w3 h3 => ?_
  have key : ∀ q : Bool, (q = true ↔ cmpM a b < 0) → K (.bool q) w3 := fun q hq => by
    have := hk w3 h3.drop.drop
    rwa [show decide (cmpM a b < 0) = q from by rw [Bool.eq_iff_iff, decide_eq_true_iff]; exact hq.symm] at this
  unfold cmpM at key
  refine lt_c (fun c1 => ?_) (fun c1 => ?_)
  · repeat (first | refine gd_tt ?_ | refine gd_ff ?_ | refine gd_tf ?_ | refine gd_ft ?_ | refine gd_u ?_ | refine pk_t ?_ | refine pk_f ?_ | refine iff_t ?_ | refine iff_f ?_ | refine not_t ?_ | refine not_f ?_ | refine beq_s ?_ | refine bne_s ?_ | refine ncP_p ?_ | refine nc_p ?_ | refine fld_at ?_ | refine xt_02 ?_ | refine xt_12 ?_ | refine xt_03 ?_ | refine xt_13 ?_ | refine xt_23 ?_ | refine eq_t (by omega) ?_ | refine eq_f (by omega) ?_ | refine ne_t (by omega) ?_ | refine ne_f (by omega) ?_ | refine lt_t (by omega) ?_ | refine lt_f (by omega) ?_ | refine gt_t (by omega) ?_ | refine gt_f (by omega) ?_ | refine ge_t (by omega) ?_ | refine ge_f (by omega) ?_ | refine le_t (by omega) ?_ | refine le_f (by omega) ?_)
    refine key true (by rw [if_pos (by omega)]; simpa using c1)
  refine gd_ff (gd_ff (eq_c (fun c2 => ?_) (fun c2 => ?_)))
  · refine gd_ff (gd_tt (fld_at (gd_tt (ld1_at h3 1 rfl (v := .int .i64 a.To) rfl (gd_tt (fld_at (gd_tt (ld1_at h3 0 rfl (v := .int .i64 b.To) rfl ?_))))))))
    refine gd_tt (lt_c (fun c3 => ?_) (fun c3 => ?_))
    · repeat (first | refine gd_tt ?_ | refine gd_ff ?_ | refine gd_tf ?_ | refine gd_ft ?_ | refine gd_u ?_ | refine pk_t ?_ | refine pk_f ?_ | refine iff_t ?_ | refine iff_f ?_ | refine not_t ?_ | refine not_f ?_ | refine beq_s ?_ | refine bne_s ?_ | refine ncP_p ?_ | refine nc_p ?_ | refine fld_at ?_ | refine xt_02 ?_ | refine xt_12 ?_ | refine xt_03 ?_ | refine xt_13 ?_ | refine xt_23 ?_ | refine eq_t (by omega) ?_ | refine eq_f (by omega) ?_ | refine ne_t (by omega) ?_ | refine ne_f (by omega) ?_ | refine lt_t (by omega) ?_ | refine lt_f (by omega) ?_ | refine gt_t (by omega) ?_ | refine gt_f (by omega) ?_ | refine ge_t (by omega) ?_ | refine ge_f (by omega) ?_ | refine le_t (by omega) ?_ | refine le_f (by omega) ?_)
      refine key true ?_
      rw [if_neg (by omega)]
      unfold cmpI
      rw [if_pos c3]
      simp
    · repeat (first | refine gd_tt ?_ | refine gd_ff ?_ | refine gd_tf ?_ | refine gd_ft ?_ | refine gd_u ?_ | refine pk_t ?_ | refine pk_f ?_ | refine iff_t ?_ | refine iff_f ?_ | refine not_t ?_ | refine not_f ?_ | refine beq_s ?_ | refine bne_s ?_ | refine ncP_p ?_ | refine nc_p ?_ | refine fld_at ?_ | refine xt_02 ?_ | refine xt_12 ?_ | refine xt_03 ?_ | refine xt_13 ?_ | refine xt_23 ?_ | refine eq_t (by omega) ?_ | refine eq_f (by omega) ?_ | refine ne_t (by omega) ?_ | refine ne_f (by omega) ?_ | refine lt_t (by omega) ?_ | refine lt_f (by omega) ?_ | refine gt_t (by omega) ?_ | refine gt_f (by omega) ?_ | refine ge_t (by omega) ?_ | refine ge_f (by omega) ?_ | refine le_t (by omega) ?_ | refine le_f (by omega) ?_)
      refine key false ?_
      rw [if_neg (by omega)]
      unfold cmpI
      rw [if_neg c3]
      split <;> simp
  · repeat (first | refine gd_tt ?_ | refine gd_ff ?_ | refine gd_tf ?_ | refine gd_ft ?_ | refine gd_u ?_ | refine pk_t ?_ | refine pk_f ?_ | refine iff_t ?_ | refine iff_f ?_ | refine not_t ?_ | refine not_f ?_ | refine beq_s ?_ | refine bne_s ?_ | refine ncP_p ?_ | refine nc_p ?_ | refine fld_at ?_ | refine xt_02 ?_ | refine xt_12 ?_ | refine xt_03 ?_ | refine xt_13 ?_ | refine xt_23 ?_ | refine eq_t (by omega) ?_ | refine eq_f (by omega) ?_ | refine ne_t (by omega) ?_ | refine ne_f (by omega) ?_ | refine lt_t (by omega) ?_ | refine lt_f (by omega) ?_ | refine gt_t (by omega) ?_ | refine gt_f (by omega) ?_ | refine ge_t (by omega) ?_ | refine ge_f (by omega) ?_ | refine le_t (by omega) ?_ | refine le_f (by omega) ?_)
    refine key false ?_
    rw [if_pos (by omega)]
    simp
    omega

/-! ### Put -/
theorem insM_len (m : Msg) : ∀ l : List Msg, (insM m l).length = l.length + 1
  | [] => rfl
  | a :: l => by
    unfold insM
    split
    · rfl
    · rw [List.length_cons, insM_len m l, List.length_cons]
theorem putL_len : ∀ (ms l : List Msg), (putL l ms).length = l.length + ms.length
  | [], _ => rfl
  | m :: ms, l => by
    show (putL (insM m l) ms).length = _
    rw [putL_len ms, insM_len, List.length_cons]
    omega
theorem putL_snoc (l ms : List Msg) (m : Msg) : putL l (ms ++ [m]) = insM m (putL l ms) := by
  unfold putL
  rw [List.foldl_append]
  rfl
theorem ref09_Put_s {v mv : Value} {l ms : List Msg} (i : Nat) (hi : L[i]? = some S) (hS : Sat e w (ownS 37 6 Msg.cs v l :: L)) (hr : ∀ g, S g → rdS 6 Msg.cs mv ms g) (hl : l.length + ms.length ≤ 900000)
    (hk : ∀ v' w', Sat e w' (ownS 37 6 Msg.cs v' (putL l ms) :: L) → K v' w') : Cl prog 34 #[v, mv] w K := by
  refine pacelineref09_Put_calls ?_
  unfold pacelineref09_Put
  refine lpi2 (fun q t0 t5 w => ∃ j : Nat, j ≤ ms.length ∧ t5 = .int .i64 j ∧ q = ms.length - j ∧ Sat e w (ownS 37 6 Msg.cs t0 (putL l (ms.take j)) :: L)) ms.length ⟨0, Nat.zero_le _, rfl, rfl, hS⟩ ?_
  rintro q t0 _ w g ⟨j, hj, rfl, rfl, h1⟩ hg
  refine lnS_rd h1 (i + 1) (by simpa using hi) hr ?_
  refine lt_c (fun c0 => iff_t ?_) (fun c0 => iff_f ?_)
  · obtain ⟨m, hm⟩ := get_of_lt (l := ms) (j := j) (by omega)
    have hsn : putL l (ms.take (j + 1)) = insM m (putL l (ms.take j)) := by rw [take_snoc hm, putL_snoc]
    have hpl := putL_len (ms.take j) l
    rw [List.length_take] at hpl
    generalize putL l (ms.take j) = p at h1 hsn hpl
    refine bsl0 h1 Msg.cs fun v0 w2 h2 => ?_
    have hi2 : ∀ X Y : HP, (X :: Y :: L)[i + 2]? = some S := fun X Y => by simpa using hi
    refine lpi3 (fun q t6 t7 t8 w => ∃ (n : Nat) (d : Bool) (out : List Msg), n ≤ p.length ∧ t8 = .int .i64 n ∧ q = p.length - n ∧ t7 = .bool d ∧ out.length ≤ n + 1 ∧ out ++ (if d = true then p.drop n else insM m (p.drop n)) = insM m p ∧
        Sat e w (ownS 37 6 Msg.cs t6 out :: ownS 37 6 Msg.cs t0 p :: L)) p.length ⟨0, false, [], Nat.zero_le _, rfl, rfl, rfl, by simp, by simp, h2⟩ ?_
    rintro q t6 _ _ w g2 ⟨n, d, out, hn, rfl, rfl, rfl, ho, heq, h3⟩ hg2
    refine lnS_rd h3 1 rfl (fun g hg => own_rd hg) ?_
    refine lt_c (fun c1 => iff_t ?_) (fun c1 => iff_f ?_)
    · obtain ⟨y, hy⟩ := get_of_lt (l := p) (j := n) (by omega)
      have hdr : p.drop n = y :: p.drop (n + 1) := drop_cons hy
      refine dr_s h3 fun w4 h4 => ?_
      have hcont : ∀ t6 (d2 : Bool) out2 w', out2.length ≤ n + 1 → (out2 ++ [y]) ++ (if d2 = true then p.drop (n + 1) else insM m (p.drop (n + 1))) = insM m p →
          Sat e w' (ownS 37 6 Msg.cs t6 out2 :: ownS 37 6 Msg.cs t0 p :: L) →
          ixS 6 t0 (.int .i64 n) w' fun t45 w => ldN 6 t45 w fun t46 w => bsl 37 6 1 (zeroD prog 37) [(0, t46)] w fun t47 w => apS prog #[58, 58] 58 t6 t47 w fun t48 w => bi .add .i64 (.int .i64 n) (.int .i64 1) w fun t21 w => g2 [t48, .bool d2, t21] w := by
        intro t6 d2 out2 w' ho2 he2 h'
        refine ixS_rd h' 1 rfl (fun g hg => own_rd hg) (fun _ => rfl) hy fun a ha => ?_
        refine ldN_of h' 1 rfl ha rfl ?_
        refine push1 te_58 (f := Msg.cs) (fun _ => rfl) (fun _ => ints_flat _) h' (x := y) rfl (by omega) fun v2 w5 h5 => ?_
        refine inc_s (by omega) ?_
        exact hg2 _ _ _ _ _ (by omega) ⟨n + 1, d2, out2 ++ [y], by omega, rfl, rfl, rfl, by rw [List.length_append, List.length_singleton]; omega, he2, h5⟩
      rw [hdr] at heq
      cases d with
      | true =>
        refine not_t ?_
        refine gd_ft (gd_ft (gd_ft (gd_ft (gd_ft (gd_ft (gd_ft (gd_ft (gd_ft (pk_f ?_)))))))))
        refine J2.cut (fun t6 t7 w => t7 = .bool true ∧ Sat e w (ownS 37 6 Msg.cs t6 out :: ownS 37 6 Msg.cs t0 p :: L)) (fun k3 hcut => iff_f (hcut _ _ _ ⟨rfl, h4⟩)) ?_
        rintro t6 _ w5 ⟨rfl, h5⟩
        refine hcont _ true out _ (by
          have := congrArg List.length heq
          rw [insM_len, List.length_append] at this
          simp at this
          omega) ?_ h5
        rw [if_pos rfl, List.append_assoc]
        rw [if_pos rfl] at heq
        exact heq
      | false =>
        rw [if_neg (by simp)] at heq
        refine not_f (gd_tt (gd_tt (gd_tt ?_)))
        refine ixS_rd h4 (i + 2) (hi2 _ _) hr (fun _ => rfl) hm fun a ha => ?_
        refine gd_tt (ldN_of h4 (i + 2) (hi2 _ _) ha rfl (gd_tt (gd_tt (gd_tt ?_))))
        refine ixS_rd h4 1 rfl (fun g hg => own_rd hg) (fun _ => rfl) hy fun a ha => ?_
        refine gd_tt (ldN_of h4 1 rfl ha rfl (gd_tt ?_))
        refine ahead_s (a := m) (b := y) h4 fun w5 h5 => ?_
        refine pk_t ?_
        have hol : out.length ≤ n := by
          have := congrArg List.length heq
          rw [insM_len, List.length_append, insM_len, List.length_cons, List.length_drop] at this
          omega
        refine J2.cut (fun t6 t7 w => ∃ (d2 : Bool) (out2 : List Msg), t7 = .bool d2 ∧ out2.length ≤ n + 1 ∧ (out2 ++ [y]) ++ (if d2 = true then p.drop (n + 1) else insM m (p.drop (n + 1))) = insM m p ∧ Sat e w (ownS 37 6 Msg.cs t6 out2 :: ownS 37 6 Msg.cs t0 p :: L)) (fun k3 hcut => ?_) ?_
        · have hins : insM m (y :: p.drop (n + 1)) = if cmpM m y < 0 then m :: y :: p.drop (n + 1) else y :: insM m (p.drop (n + 1)) := rfl
          rw [hins] at heq
          by_cases hc : cmpM m y < 0
          · rw [if_pos hc] at heq
            rw [decide_eq_true hc]
            refine iff_t ?_
            refine ixS_rd h5 (i + 2) (hi2 _ _) hr (fun _ => rfl) hm fun a ha => ?_
            refine ldN_of h5 (i + 2) (hi2 _ _) ha rfl ?_
            refine push1 te_58 (f := Msg.cs) (fun _ => rfl) (fun _ => ints_flat _) h5 (x := m) rfl (by omega) fun v2 w6 h6 => ?_
            refine hcut _ _ _ ⟨true, out ++ [m], rfl, by rw [List.length_append, List.length_singleton]; omega, ?_, h6⟩
            rw [if_pos rfl, ← heq]
            simp
          · rw [if_neg hc] at heq
            rw [decide_eq_false hc]
            refine iff_f (hcut _ _ _ ⟨false, out, rfl, ho, ?_, h5⟩)
            rw [if_neg (by simp), ← heq]
            simp
        · rintro t6 _ w6 ⟨d2, out2, rfl, ho2, he2, h6⟩
          exact hcont _ d2 out2 _ ho2 he2 h6
    · have en : n = p.length := by omega
      rw [en, List.drop_length] at heq
      have htail : ∀ t6 w6, Sat e w6 (ownS 37 6 Msg.cs t6 (insM m p) :: ownS 37 6 Msg.cs t0 p :: L) → bi .add .i64 (.int .i64 j) (.int .i64 1) w6 fun t14 w => g [t6, t14] w := by
        intro t6 w6 h6
        refine inc_s (by omega) ?_
        refine hg _ _ _ _ (by omega) ⟨j + 1, by omega, rfl, rfl, ?_⟩
        rw [hsn]
        exact h6.selR [_, _] [_] [0] (by decide) rfl
      cases d with
      | true =>
        refine not_t (J1.cut (fun t6 w => Sat e w (ownS 37 6 Msg.cs t6 (insM m p) :: ownS 37 6 Msg.cs t0 p :: L)) (fun k4 hcut => iff_f (hcut _ _ ?_)) fun t6 w6 h6 => htail _ _ h6)
        rw [if_pos rfl, List.append_nil] at heq
        rw [← heq]
        exact h3
      | false =>
        refine not_f (J1.cut (fun t6 w => Sat e w (ownS 37 6 Msg.cs t6 (insM m p) :: ownS 37 6 Msg.cs t0 p :: L)) (fun k4 hcut => iff_t ?_) fun t6 w6 h6 => htail _ _ h6)
        refine ixS_rd h3 (i + 2) (hi2 _ _) hr (fun _ => rfl) hm fun a ha => ?_
        refine ldN_of h3 (i + 2) (hi2 _ _) ha rfl ?_
        refine push1 te_58 (f := Msg.cs) (fun _ => rfl) (fun _ => ints_flat _) h3 (x := m) rfl (by omega) fun v2 w6 h6 => ?_
        refine hcut _ _ ?_
        rw [if_neg (by simp)] at heq
        have h7 : out ++ [m] = insM m p := heq
        rw [← h7]
        exact h6
  · have ej : j = ms.length := by omega
    rw [ej, List.take_length] at h1
    exact hk _ _ h1
end Go.Proofs.Ytfcnjbannejchaa
namespace Go.Proofs.Ytfcnjbannejchaa
open Go Go.E
set_option maxRecDepth 100000
variable {e w : World} {L Q : List HP} {K : KV} {S S2 : HP}

structure RefOk (wd : Wd) (R : RS) (k : Nat) (ds : List Done) : Prop where
  may : WdOk wd
  run : RunOk wd R k
  logs : ∀ g : Int, logR R g = ds.filter fun d => decide (d.m.To = g)
  len : ds.length ≤ k
structure RefV where
  sv : Value
  qv : Value
  wv : Value
  dv : Value
  ds : List Done
def IsRef (r : Nat) (x : WdX) (R : RS) (k : Nat) : HP := hex fun p : RefV => sepL [pur (RefOk x.w R k p.ds), blk r 84 (x.cs ++ [p.sv, p.qv, p.wv, p.dv]), ownS 3 1 (intsK .i64) p.sv (R.feds.map FA.st), ownS 3 1 (intsK .i64) p.qv (R.feds.map FA.sent), ownS 37 6 Msg.cs p.wv R.wait, ownS 39 7 Done.cs p.dv p.ds]
theorem ref_of {r k : Nat} {x : WdX} {R : RS} (h : Sat e w (IsRef r x R k :: Q)) : ∃ sv qv wv dv ds, RefOk x.w R k ds ∧ Sat e w (blk r 84 (x.cs ++ [sv, qv, wv, dv]) :: ownS 3 1 (intsK .i64) sv (R.feds.map FA.st) :: ownS 3 1 (intsK .i64) qv (R.feds.map FA.sent) :: ownS 37 6 Msg.cs wv R.wait :: ownS 39 7 Done.cs dv ds :: Q) := by
  obtain ⟨p, h0⟩ := h.ex
  exact ⟨p.sv, p.qv, p.wv, p.dv, p.ds, Sat.pure h0.split⟩
theorem ref_mk {r k : Nat} {x : WdX} {R : RS} {sv qv wv dv : Value} {ds : List Done} (hp : RefOk x.w R k ds) (h : Sat e w (blk r 84 (x.cs ++ [sv, qv, wv, dv]) :: ownS 3 1 (intsK .i64) sv (R.feds.map FA.st) :: ownS 3 1 (intsK .i64) qv (R.feds.map FA.sent) :: ownS 37 6 Msg.cs wv R.wait :: ownS 39 7 Done.cs dv ds :: Q)) : Sat e w (IsRef r x R k :: Q) :=
  .mk_ex ⟨sv, qv, wv, dv, ds⟩ (.join (l' := [_, _, _, _, _, _]) (.mk_pure hp h))
theorem Sat.unpick {X : HP} {l : List HP} (i : Nat) (hi : l[i]? = some S) (h : Sat e w (X :: S :: l.eraseIdx i)) : Sat e w (X :: l) := h.perm (List.Perm.cons X (pick_perm l i S hi).symm)
theorem int_flat : ∀ x : Int, ∀ v ∈ intsK .i64 x, flat v = true := fun _ _ h => by simp [intsK] at h; subst h; rfl
theorem logR_init (wd : Wd) (g : Int) : logR (initR wd) g = [] := by
  unfold logR initR
  split
  · rw [List.getElem?_map]
    cases wd.Feds[g.toNat]? <;> rfl
  · rfl
theorem ref09_New_s {x : WdX} (i : Nat) (hi : L[i]? = some S) (hS : Sat e w L) (hr : ∀ g, S g → RdWd x g) (hs : x.short)
    (hbad : (checkW x.w).2 ≠ 0 → ∀ w', Sat e w' L → K (.tuple #[.pointer none, .int .i64 (checkW x.w).2]) w')
    (hok : (checkW x.w).2 = 0 → ∀ r w', Sat e w' (IsRef r x (initR x.w) 0 :: L) → K (.tuple #[.pointer (some ⟨r, 0, none⟩), .int .i64 0]) w') : Cl prog 15 #[.agg x.cs.toArray] w K := by
  refine pacelineref09_New_calls ?_
  unfold pacelineref09_New
  refine al_s (cs := x.cs) hS rfl fun b w1 h1 => ?_
  refine ldN_at h1 0 (vs := x.cs) rfl (by rfl) rfl ?_
  refine ref08_Check_s (x := x) (i + 1) (by simpa using hi) h1 hr hs fun w2 h2 => ?_
  refine xt_02 (xt_12 ?_)
  refine ne_c (fun c1 => iff_t (hbad c1 _ h2.drop)) (fun c1 => iff_f ?_)
  have hwd := checkW_ok c1
  have hfl := hs.feds
  have hflat := wd_cells i hi hS hr
  refine ldN_at h2 0 (vs := x.cs) rfl (by rfl) rfl ?_
  refine bld_s (x.cs ++ [.slice none 0 0, .slice none 0 0, .slice none 0 0, .slice none 0 0]) (by kernel_rfl) ?_
  refine al_s (cs := x.cs ++ [.slice none 0 0, .slice none 0 0, .slice none 0 0, .slice none 0 0]) h2 rfl fun r w3 h3 => ?_
  refine lpi1 (fun q t7 w => ∃ (j : Nat) (sv qv : Value), j ≤ x.Feds.length ∧ t7 = .int .i64 j ∧ q = x.Feds.length - j ∧
      Sat e w (ownS 3 1 (intsK .i64) sv ((x.Feds.take j).map fun f => f.Start) :: ownS 3 1 (intsK .i64) qv ((x.Feds.take j).map fun f => (f.Init.length : Int)) :: blk r 84 (x.cs ++ [sv, qv, .slice none 0 0, .slice none 0 0]) :: blk b 25 x.cs :: L)) x.Feds.length
    ⟨0, .slice none 0 0, .slice none 0 0, Nat.zero_le _, rfl, rfl, (h3.own_nil 3 1 (intsK .i64)).own_nil 3 1 (intsK .i64)⟩ ?_
  rintro q _ w g ⟨j, sv, qv, hj, rfl, rfl, h4⟩ hg
  refine fld_at (ld1_at h4 3 rfl (v := x.fv) rfl ?_)
  refine lnS_rd h4 (i + 4) (by simpa using hi) (fun g hg => (hr g hg).feds) ?_
  refine lt_c (fun c0 => iff_t ?_) (fun c0 => iff_f ?_)
  · obtain ⟨fd, hf⟩ := get_of_lt (l := x.Feds) (j := j) (by omega)
    have hfm := List.mem_of_getElem? hf
    refine dr_s h4 fun w5 h5 => ?_
    refine ncP_p (fld_at (ld1_at h5 2 rfl (v := sv) rfl ?_))
    refine fld_at (ld1_at h5 3 rfl (v := x.fv) rfl ?_)
    refine ixS_rd h5 (i + 4) (by simpa using hi) (fun g hg => (hr g hg).feds) (fun _ => rfl) hf fun a ha => ?_
    refine fld_of ha fun a1 ha1 => ld1_of h5 (i + 4) (by simpa using hi) ha1 (v := .int .i64 fd.Start) rfl ?_
    refine bsl1 (vs := intsK .i64 fd.Start) rfl rfl h5 fun bb w6 h6 => ?_
    refine ⟨ld1_at h6 3 rfl (v := sv) rfl ⟨rfl, rfl⟩, ?_⟩
    refine apS_own te_22 te_22.und (f := intsK .i64) (m := [fd.Start]) (fun _ => rfl) int_flat h6.swap (blk_rd1 (f := intsK .i64) (x := fd.Start) (Nat.le_refl _)) (by simp; omega) fun sv' w7 h7 => ?_
    have q1 := h7.own_cells 0 rfl
    refine ncP_p (fld_at (stN_at h7 3 rfl (vs := [sv']) q1.1 rfl (Nat.le_of_ble_eq_true rfl) (fun c hc => by rw [List.mem_singleton.1 hc]; exact q1.2) (cs' := x.cs ++ [sv', qv, .slice none 0 0, .slice none 0 0]) (by rfl) fun w8 h8 => ?_))
    refine dr_s h8 fun w9 h9 => ?_
    refine ncP_p (fld_at (ld1_at h9 3 rfl (v := qv) rfl ?_))
    refine fld_at (ld1_at h9 4 rfl (v := x.fv) rfl ?_)
    refine ixS_rd h9 (i + 5) (by simpa using hi) (fun g hg => (hr g hg).feds) (fun _ => rfl) hf fun a ha => ?_
    refine fld_of ha fun a1 ha1 => ld1_of h9 (i + 5) (by simpa using hi) ha1 (v := fd.iv) rfl ?_
    refine lnS_rd h9 (i + 5) (by simpa using hi) (fun g hg => ((hr g hg).fed fd hfm).init) ?_
    refine bsl1 (vs := intsK .i64 (fd.Init.length : Int)) rfl rfl h9 fun bb2 w10 h10 => ?_
    refine ⟨ld1_at h10 4 rfl (v := qv) rfl ⟨rfl, rfl⟩, ?_⟩
    refine apS_own te_22 te_22.und (f := intsK .i64) (m := [(fd.Init.length : Int)]) (fun _ => rfl) int_flat (h10.selR [_, _, _, _] [_, _, _, _] [3, 0, 1, 2] (by decide) rfl) (blk_rd1 (f := intsK .i64) (x := (fd.Init.length : Int)) (Nat.le_refl _)) (by simp; omega) fun qv' w11 h11 => ?_
    have q2 := h11.own_cells 0 rfl
    refine ncP_p (fld_at (stN_at h11 4 rfl (vs := [qv']) q2.1 rfl (Nat.le_of_ble_eq_true rfl) (fun c hc => by rw [List.mem_singleton.1 hc]; exact q2.2) (cs' := x.cs ++ [sv', qv', .slice none 0 0, .slice none 0 0]) (by rfl) fun w12 h12 => ?_))
    refine inc_s (by omega) ?_
    refine hg _ _ _ (by omega) ⟨j + 1, sv', qv', by omega, rfl, rfl, ?_⟩
    rw [take_snoc hf, List.map_append, List.map_append]
    exact h12.selR [_, _, _, _, _] [_, _, _] [2, 0, 4] (by decide) rfl
  · have ej : j = x.Feds.length := by omega
    rw [ej, List.take_length] at h4
    refine ldN_at h4 3 (vs := x.cs) rfl (by rfl) rfl ?_
    have hfl2 : x.w.Feds.length = x.Feds.length := by simp [WdX.w]
    refine ref08_Starts_s (x := x) (i + 4) (by simpa using hi) h4 hr hs hwd.tree (by rw [← hfl2]; exact hwd.n.2) (fun f hf => ?_) fun mv w6 h6 hml => ?_
    · have := hwd.init f.f (List.mem_map_of_mem hf)
      exact ⟨this.1, fun o ho => (this.2 o ho).1⟩
    refine ref09_Put_s (l := []) 0 rfl (h6.own_nil 37 6 Msg.cs) (fun g hg => own_rd hg) (by simp; omega) fun wv w7 h7 => ?_
    have q1 := h7.own_cells 0 rfl
    refine ncP_p (fld_at (stN_at h7 4 rfl (vs := [wv]) q1.1 rfl (Nat.le_of_ble_eq_true rfl) (fun c hc => by rw [List.mem_singleton.1 hc]; exact q1.2) (cs' := x.cs ++ [sv, qv, wv, .slice none 0 0]) (by rfl) fun w8 h8 => ?_))
    refine hok c1 r _ (ref_mk (sv := sv) (qv := qv) (wv := wv) (dv := .slice none 0 0) (ds := []) ⟨hwd, runOk_init hwd, fun g => by rw [logR_init]; rfl, Nat.le_refl _⟩ ?_)
    have e1 : (initR x.w).feds.map FA.st = x.Feds.map fun f => f.Start := by simp only [initR, WdX.w, List.map_map]; rfl
    have e2 : (initR x.w).feds.map FA.sent = x.Feds.map fun f => (f.Init.length : Int) := by simp only [initR, WdX.w, List.map_map]; rfl
    have e3 : (initR x.w).wait = putL [] (startsL x.w.Parents x.w.Feds x.w.Feds) := rfl
    rw [e1, e2, e3]
    have h9 := h8.own_nil 39 7 Done.cs
    exact h9.selR [_, _, _, _, _, _, _] [_, _, _, _, _] [5, 3, 4, 1, 0] (by decide) rfl

theorem next_logI {wd : Wd} {R R' : RS} {d : Done} (h : nextR wd R = some (d, R')) (g : Int) (h0 : 0 ≤ d.m.To) : logR R' g = logR R g ++ if d.m.To = g then [d] else [] := by
  by_cases hg : 0 ≤ g
  · obtain ⟨n, rfl⟩ : ∃ n : Nat, g = n := ⟨g.toNat, by omega⟩
    exact next_log h n h0
  · unfold logR
    rw [if_neg hg, if_neg hg, if_neg (by omega)]
    rfl
theorem ref09_Next_s {r k : Nat} {x : WdX} {R : RS} (hk0 : k ≤ 1000) (i : Nat) (hi : Q[i]? = some S) (hS : Sat e w (IsRef r x R k :: Q)) (hr : ∀ g, S g → RdWd x g) (hs : x.short)
    (hno : nextR x.w R = none → ∀ w', Sat e w' (IsRef r x R k :: Q) → K (.tuple #[.agg Done.zero.cs.toArray, .bool false]) w')
    (hyes : ∀ d R', nextR x.w R = some (d, R') → ∀ w', Sat e w' (IsRef r x R' (k + 1) :: Q) → K (.tuple #[.agg d.cs.toArray, .bool true]) w') :
    Cl prog 36 #[.pointer (some ⟨r, 0, none⟩)] w K := by
  refine pacelineref09_Run_Next_calls ?_
  unfold pacelineref09_Run_Next
  obtain ⟨sv, qv, wv, dv, ds, hR, hS1⟩ := ref_of hS
  rw [zero_39, zero_37]
  refine al_s (cs := Done.zero.cs) hS1 rfl fun t2 w1 h1 => ?_
  refine dr_s h1 fun w2 h2 => ?_
  have hnone : nextR x.w R = none → ∀ w', Sat e w' (blk t2 39 Done.zero.cs :: blk r 84 (x.cs ++ [sv, qv, wv, dv]) :: ownS 3 1 (intsK .i64) sv (R.feds.map FA.st) :: ownS 3 1 (intsK .i64) qv (R.feds.map FA.sent) :: ownS 37 6 Msg.cs wv R.wait :: ownS 39 7 Done.cs dv ds :: Q) →
      bld (zeroD prog 39) #[(0, 6), (6, 1)] [] w' fun t31 w => stN 7 (.pointer (some ⟨t2, 0, none⟩)) t31 w fun _ w => ldN 7 (.pointer (some ⟨t2, 0, none⟩)) w fun r0 _ => K (.tuple #[r0, .bool false]) w := by
    intro hn w' h'
    refine bld_s Done.zero.cs (by kernel_rfl) ?_
    refine stN_at h' 0 rfl (vs := Done.zero.cs) rfl rfl (by decide) (ints_flat _) (cs' := Done.zero.cs) (by kernel_rfl) fun w3 h3 => ?_
    refine ldN_at h3 0 (vs := Done.zero.cs) rfl (by rfl) rfl ?_
    exact hno hn _ (ref_mk hR h3.drop)
  rw [zero_39] at hnone
  refine ncP_p (fld_at (ld1_at h2 1 rfl (v := wv) rfl ?_))
  refine lnS_rd h2 4 rfl (fun g hg => own_rd hg) ?_
  cases hwait : R.wait with
  | nil =>
    refine eq_t (by rfl) ?_
    repeat (first | refine gd_tt ?_ | refine gd_ff ?_ | refine gd_tf ?_ | refine gd_ft ?_ | refine gd_u ?_ | refine pk_t ?_ | refine pk_f ?_ | refine iff_t ?_ | refine iff_f ?_ | refine not_t ?_ | refine not_f ?_ | refine beq_s ?_ | refine bne_s ?_ | refine ncP_p ?_ | refine nc_p ?_ | refine fld_at ?_ | refine xt_02 ?_ | refine xt_12 ?_ | refine xt_03 ?_ | refine xt_13 ?_ | refine xt_23 ?_ | refine eq_t (by omega) ?_ | refine eq_f (by omega) ?_ | refine ne_t (by omega) ?_ | refine ne_f (by omega) ?_ | refine lt_t (by omega) ?_ | refine lt_f (by omega) ?_ | refine gt_t (by omega) ?_ | refine gt_f (by omega) ?_ | refine ge_t (by omega) ?_ | refine ge_f (by omega) ?_ | refine le_t (by omega) ?_ | refine le_f (by omega) ?_)
    exact hnone (nextR_none (.inl hwait)) _ h2
  | cons m rest =>
    refine eq_f (by simp; omega) (gd_ff (gd_ff (nc_p ?_)))
    have hm0 : R.wait[0]? = some m := by rw [hwait]; rfl
    refine gd_ff (fld_at (gd_ff (ld1_at h2 1 rfl (v := wv) rfl ?_)))
    refine gd_ff (ixS_rd (j := 0) h2 4 rfl (fun g hg => own_rd hg) (fun _ => rfl) hm0 fun p hp => ?_)
    refine gd_ff (fld_of hp fun p1 hp1 => gd_ff (fld_of hp1 fun p2 hp2 => gd_ff ?_))
    refine ld1_of h2 4 rfl hp2 (v := .int .i64 m.key.T) rfl ?_
    refine gd_ff (gd_ff (nc_p ?_))
    refine gd_ff (fld_at (gd_ff (fld_at (gd_ff (ld1_at h2 1 rfl (v := .int .i64 x.End) rfl ?_)))))
    have hEnd : x.w.End = x.End := rfl
    refine gd_ff (ge_c (fun c1 => ?_) (fun c1 => ?_))
    · refine pk_f (iff_t ?_)
      exact hnone (nextR_none (.inr ⟨m, rest, hwait, c1⟩)) _ h2
    refine pk_f (iff_f ?_)
    refine ncP_p (fld_at (ld1_at h2 1 rfl (v := wv) rfl ?_))
    refine ixS_rd (j := 0) h2 4 rfl (fun g hg => own_rd hg) (fun _ => rfl) hm0 fun p hp => ?_
    refine ldN_of h2 4 rfl hp rfl ?_
    refine al_s (cs := Msg.zero.cs) h2 rfl fun t4 w5 h5 => ?_
    refine stN_at h5 0 rfl (vs := m.cs) rfl rfl (by decide) (ints_flat _) (cs' := m.cs) (by rfl) fun w6 h6 => ?_
    refine bsl0 h6 Msg.cs fun rv w7 h7 => ?_
    refine ncP_p (fld_at (ld1_at h7 3 rfl (v := wv) rfl ?_))
    refine slc_from (lo := 1) h7 6 rfl (fun g hg => own_rd hg) (fun _ => rfl) (by rw [hwait]; simp) fun wv1 hwv1 => ?_
    have hdrop : R.wait.drop 1 = rest := by rw [hwait]; rfl
    rw [hdrop] at hwv1
    have hcnt := hR.run.cnt
    have hwl : R.wait.length = rest.length + 1 := by rw [hwait]; rfl
    have h8 := h7.selR [_, _, _, _, _, _, _] [_, _, _, _, _, _, _] [0, 6, 1, 2, 3, 4, 5] (by decide) rfl
    refine apS_own te_58 und_58 (f := Msg.cs) (m := rest) (fun _ => rfl) (fun _ => ints_flat _) h8 hwv1 (by simp; omega) fun rv1 w9 h9 => ?_
    rw [List.nil_append] at h9
    replace h9 : Sat e w9 (ownS 37 6 Msg.cs rv1 rest :: ownS 37 6 Msg.cs wv R.wait :: blk t4 37 m.cs :: blk t2 39 Done.zero.cs :: blk r 84 (x.cs ++ [sv, qv, wv, dv]) :: ownS 3 1 (intsK .i64) sv (R.feds.map FA.st) :: ownS 3 1 (intsK .i64) qv (R.feds.map FA.sent) :: ownS 39 7 Done.cs dv ds :: Q) := h9
    clear h1 h2 h5 h6 h7 h8 hnone
    obtain ⟨t1, t2', t3, t4'⟩ := hR.run.to m (by rw [hwait]; simp)
    obtain ⟨n, hn⟩ : ∃ n : Nat, m.To = n := ⟨m.To.toNat, by omega⟩
    have hfl : R.feds.length = x.w.Feds.length := hR.run.len
    have hn8 := hR.may.n.2
    obtain ⟨a, ha⟩ := get_of_lt (l := R.feds) (j := n) (by omega)
    have hxl : x.w.Feds.length = x.Feds.length := by simp [WdX.w]
    obtain ⟨fd, hfd⟩ := get_of_lt (l := x.Feds) (j := n) (by omega)
    have hfdm := List.mem_of_getElem? hfd
    have hwf : x.w.Feds[m.To.toNat]? = some fd.f := by rw [hn, Int.toNat_natCast]; simp only [WdX.w]; rw [List.getElem?_map, hfd]; rfl
    have hRa : R.feds[m.To.toNat]? = some a := by rw [hn, Int.toNat_natCast, ha]
    have hnext := nextR_take (wd := x.w) hwait (by omega) hwf hRa
    have hsent := hR.run.sent a (List.mem_of_getElem? hRa)
    have hsf := hs.fed fd hfdm
    have hst : (R.feds.map FA.st)[n]? = some a.st := by rw [List.getElem?_map, ha]; rfl
    have hsq : (R.feds.map FA.sent)[n]? = some a.sent := by rw [List.getElem?_map, ha]; rfl
    refine fld_at (ld1_at h9 2 rfl (v := .int .i64 m.To) rfl ?_)
    refine dr_s h9 fun w10 h10 => ?_
    refine ncP_p (fld_at (fld_at (ld1_at h10 4 rfl (v := x.fv) rfl ?_)))
    rw [hn]
    refine ixS_rd h10 (i + 8) (by simpa using hi) (fun g hg => (hr g hg).feds) (fun _ => rfl) hfd fun p hp => ?_
    refine fld_of hp fun p1 hp1 => ld1_of h10 (i + 8) (by simpa using hi) hp1 (v := fd.rv) rfl ?_
    refine ncP_p (fld_at (ld1_at h10 4 rfl (v := sv) rfl ?_))
    refine ixS_rd h10 5 rfl (fun g hg => own_rd hg) (fun _ => rfl) hst fun p hp => ?_
    refine ld1_of h10 5 rfl hp (v := .int .i64 a.st) rfl ?_
    refine fld_at (ld1_at h10 2 rfl (v := .int .i64 m.Class) rfl ?_)
    refine ref07_Step_s (l := fd.Rules) (s := a.st) (c := m.Class) (h10.pick (i + 8) (by simpa using hi)) (fun g hg => ((hr g hg).fed fd hfdm).rules) hsf.rules hsf.sends fun ov w11 h11 => ?_
    replace h11 : Sat e w11 (ownS 63 3 Out.cs ov (stepR (fd.Rules.map RuleX.r) a.st m.Class).2 :: ownS 37 6 Msg.cs rv1 rest :: ownS 37 6 Msg.cs wv R.wait :: blk t4 37 m.cs :: blk t2 39 Done.zero.cs :: blk r 84 (x.cs ++ [sv, qv, wv, dv]) :: ownS 3 1 (intsK .i64) sv (R.feds.map FA.st) :: ownS 3 1 (intsK .i64) qv (R.feds.map FA.sent) :: ownS 39 7 Done.cs dv ds :: Q) :=
      Sat.unpick (i + 8) (by simpa using hi) h11
    generalize hso : stepR (fd.Rules.map RuleX.r) a.st m.Class = so at h11 ⊢
    have hso' : stepR fd.f.Rules a.st m.Class = so := hso
    have houts := step_outs hR.may (List.mem_of_getElem? hwf) a.st m.Class
    rw [hso'] at houts
    have hx3 : x.w.Parents = x.Parents := rfl
    refine xt_02 (xt_12 ?_)
    refine ncP_p (fld_at (ld1_at h11 5 rfl (v := sv) rfl ?_))
    refine st_own (x := so.1) h11 6 rfl (fun _ => rfl) (by rw [List.length_map]; omega) rfl (int_flat _) fun w12 h12 => ?_
    replace h12 : Sat e w12 (ownS 63 3 Out.cs ov so.2 :: ownS 37 6 Msg.cs rv1 rest :: ownS 37 6 Msg.cs wv R.wait :: blk t4 37 m.cs :: blk t2 39 Done.zero.cs :: blk r 84 (x.cs ++ [sv, qv, wv, dv]) :: ownS 3 1 (intsK .i64) sv ((R.feds.map FA.st).set n so.1) :: ownS 3 1 (intsK .i64) qv (R.feds.map FA.sent) :: ownS 39 7 Done.cs dv ds :: Q) := h12
    refine dr_s h12 fun w13 h13 => ?_
    refine ncP_p (fld_at (ldN_at h13 5 (vs := x.cs) rfl (by rfl) rfl ?_))
    refine ncP_p (fld_at (ld1_at h13 5 rfl (v := qv) rfl ?_))
    refine ixS_rd h13 7 rfl (fun g hg => own_rd hg) (fun _ => rfl) hsq fun p hp => ?_
    refine ld1_of h13 7 rfl hp (v := .int .i64 a.sent) rfl ?_
    refine fld_at (fld_at (ld1_at h13 3 rfl (v := .int .i64 m.key.T) rfl ?_))
    refine fld_at (ld1_at h13 3 rfl (v := .int .i64 m.Body) rfl ?_)
    rw [← hn]
    refine ref08_Spread_s (x := x) (outs := so.2) (i + 9) 0 (by simpa using hi) rfl h13 hr (fun g hg => own_rd hg) hs hR.may.tree (fun o ho => (houts.2 o ho).1) (by omega) t3 ⟨hsent.1, by have := hsent.2.1; omega⟩ fun mv w14 h14 => ?_
    generalize hms : spreadL x.w.Parents x.w.Feds m.To a.sent m.key.T m.Body so.2 = ms at h14
    have hmsl : ms.length ≤ 24 := by
      have h12 := spreadL_len x.w.Parents x.w.Feds m.To a.sent m.key.T m.Body so.2
      have h13 : so.2.length * x.w.Feds.length ≤ 3 * 8 := Nat.mul_le_mul houts.1 hR.may.n.2
      rw [hms] at h12
      omega
    refine ref09_Put_s (ms := ms) 0 rfl (h14.selR [_, _, _] [_, _, _] [2, 0, 1] (by decide) rfl) (fun g hg => own_rd hg) (by omega) fun wv' w15 h15 => ?_
    have q1 := h15.own_cells 0 rfl
    refine ncP_p (fld_at (stN_at h15 6 rfl (vs := [wv']) q1.1 rfl (Nat.le_of_ble_eq_true rfl) (fun c hc => by rw [List.mem_singleton.1 hc]; exact q1.2) (cs' := x.cs ++ [sv, qv, wv', dv]) (by rfl) fun w16 h16 => ?_))
    replace h16 : Sat e w16 (ownS 37 6 Msg.cs wv' (putL rest ms) :: ownS 37 6 Msg.cs mv ms :: ownS 63 3 Out.cs ov so.2 :: ownS 37 6 Msg.cs wv R.wait :: blk t4 37 m.cs :: blk t2 39 Done.zero.cs :: blk r 84 (x.cs ++ [sv, qv, wv', dv]) :: ownS 3 1 (intsK .i64) sv ((R.feds.map FA.st).set n so.1) :: ownS 3 1 (intsK .i64) qv (R.feds.map FA.sent) :: ownS 39 7 Done.cs dv ds :: Q) := h16
    refine dr_s h16 fun w17 h17 => ?_
    refine ncP_p (fld_at (ld1_at h17 6 rfl (v := qv) rfl ?_))
    refine ncP_p (fld_at (ld1_at h17 6 rfl (v := qv) rfl ?_))
    rw [hn]
    refine ixS_rd h17 8 rfl (fun g hg => own_rd hg) (fun _ => rfl) hsq fun p hp => ?_
    refine ld1_of h17 8 rfl hp (v := .int .i64 a.sent) rfl ?_
    refine lnS_rd h17 2 rfl (fun g hg => own_rd hg) ?_
    have hsu := hsent.2.1
    have hsl := hsent.1
    refine add_s (by omega) (by omega) ?_
    refine st_own' (x := a.sent + so.2.length) h17 8 rfl (fun _ => rfl) (by rw [List.length_map]; omega) rfl (int_flat _) fun w18 h18 => ?_
    replace h18 : Sat e w18 (ownS 37 6 Msg.cs wv' (putL rest ms) :: ownS 37 6 Msg.cs mv ms :: ownS 63 3 Out.cs ov so.2 :: ownS 37 6 Msg.cs wv R.wait :: blk t4 37 m.cs :: blk t2 39 Done.zero.cs :: blk r 84 (x.cs ++ [sv, qv, wv', dv]) :: ownS 3 1 (intsK .i64) sv ((R.feds.map FA.st).set n so.1) :: ownS 3 1 (intsK .i64) qv ((R.feds.map FA.sent).set n (a.sent + so.2.length)) :: ownS 39 7 Done.cs dv ds :: Q) := h18
    refine ldN_at h18 4 (vs := m.cs) rfl (by rfl) rfl ?_
    refine bld_s (⟨m, so.1⟩ : Done).cs (by kernel_rfl) ?_
    refine al_s (cs := Done.zero.cs) h18 rfl fun t9 w19 h19 => ?_
    refine stN_at h19 0 rfl (vs := (⟨m, so.1⟩ : Done).cs) rfl rfl (Nat.le_of_ble_eq_true rfl) (ints_flat _) (cs' := (⟨m, so.1⟩ : Done).cs) (by rfl) fun w20 h20 => ?_
    refine dr_s h20 fun w21 h21 => ?_
    refine ncP_p (fld_at (ld1_at h21 7 rfl (v := dv) rfl ?_))
    refine ldN_at h21 0 (vs := (⟨m, so.1⟩ : Done).cs) rfl (by rfl) rfl ?_
    refine bsl1 (vs := (⟨m, so.1⟩ : Done).cs) rfl rfl h21 fun bb w22 h22 => ?_
    refine ⟨ld1_at h22 8 rfl (v := dv) rfl ⟨rfl, rfl⟩, ?_⟩
    have hlen := hR.len
    refine apS_own te_42 te_42.und (f := Done.cs) (l := ds) (m := [⟨m, so.1⟩]) (fun _ => rfl) (fun _ => ints_flat _) (h22.selR [_, _, _, _, _, _, _, _, _, _, _, _] [_, _, _, _, _, _, _, _, _, _, _, _] [11, 0, 1, 2, 3, 4, 5, 6, 7, 8, 9, 10] (by decide) rfl) (blk_rd1 (f := Done.cs) (x := ⟨m, so.1⟩) (Nat.le_refl _)) (by simp; omega) fun dv' w23 h23 => ?_
    have q2 := h23.own_cells 0 rfl
    refine ncP_p (fld_at (stN_at h23 9 rfl (vs := [dv']) q2.1 rfl (Nat.le_of_ble_eq_true rfl) (fun c hc => by rw [List.mem_singleton.1 hc]; exact q2.2) (cs' := x.cs ++ [sv, qv, wv', dv']) (by rfl) fun w24 h24 => ?_))
    refine ldN_at h24 2 (vs := (⟨m, so.1⟩ : Done).cs) rfl (by rfl) rfl ?_
    refine stN_at h24 8 rfl (vs := (⟨m, so.1⟩ : Done).cs) rfl rfl (Nat.le_of_ble_eq_true rfl) (ints_flat _) (cs' := (⟨m, so.1⟩ : Done).cs) (by rfl) fun w25 h25 => ?_
    refine ldN_at h25 8 (vs := (⟨m, so.1⟩ : Done).cs) rfl (by rfl) rfl ?_
    have hT : takeM x.w fd.f a m rest R = (⟨m, so.1⟩, ⟨R.feds.set n ⟨so.1, a.sent + so.2.length, a.log ++ [⟨m, so.1⟩]⟩, putL rest ms⟩) := by
      unfold takeM
      rw [hso', hms, hn, Int.toNat_natCast]
    rw [hT] at hnext
    refine hyes _ _ hnext _ (ref_mk (sv := sv) (qv := qv) (wv := wv') (dv := dv') (ds := ds ++ [⟨m, so.1⟩]) ⟨hR.may, runOk_next hR.may hR.run hnext, fun g => ?_, by rw [List.length_append, List.length_singleton]; omega⟩ ?_)
    · rw [next_logI hnext g t1, hR.logs g, List.filter_append]
      congr 1
      by_cases hg : m.To = g
      · rw [if_pos hg]
        simp [hg]
      · rw [if_neg hg]
        simp [hg]
    · show Sat e w25 (blk r 84 (x.cs ++ [sv, qv, wv', dv']) :: ownS 3 1 (intsK .i64) sv ((R.feds.set n ⟨so.1, a.sent + so.2.length, a.log ++ [⟨m, so.1⟩]⟩).map FA.st) :: ownS 3 1 (intsK .i64) qv ((R.feds.set n ⟨so.1, a.sent + so.2.length, a.log ++ [⟨m, so.1⟩]⟩).map FA.sent) :: ownS 37 6 Msg.cs wv' (putL rest ms) :: ownS 39 7 Done.cs dv' (ds ++ [⟨m, so.1⟩]) :: Q)
      rw [set_map, set_map]
      exact h25.selR [_, _, _, _, _, _, _, _, _, _, _, _] [_, _, _, _, _] [9, 10, 11, 3, 0] (by decide) rfl
theorem ref09_Steps_s {r k n : Nat} {x : WdX} {R : RS} (hk0 : k + n ≤ 1000) (i : Nat) (hi : Q[i]? = some S) (hS : Sat e w (IsRef r x R k :: Q)) (hr : ∀ g, S g → RdWd x g) (hs : x.short)
    (hk : ∀ w', Sat e w' (IsRef r x (stepsR x.w n R).2 (k + (stepsR x.w n R).1) :: Q) → K (.int .i64 (stepsR x.w n R).1) w') :
    Cl prog 17 #[.pointer (some ⟨r, 0, none⟩), .int .i64 n] w K := by
  refine pacelineref09_Run_Steps_calls ?_
  unfold pacelineref09_Run_Steps
  refine lpi1 (fun q t5 w => ∃ (j : Nat) (R' : RS), j ≤ n ∧ t5 = .int .i64 j ∧ q = n - j ∧ stepsR x.w n R = (j + (stepsR x.w (n - j) R').1, (stepsR x.w (n - j) R').2) ∧ Sat e w (IsRef r x R' (k + j) :: Q)) n
    ⟨0, R, Nat.zero_le _, rfl, rfl, by simp, hS⟩ ?_
  rintro q _ w g ⟨j, R', hj, rfl, rfl, heq, h1⟩ hg
  rw [zero_39]
  refine lt_c (fun c => iff_t ?_) (fun c => iff_f ?_)
  · obtain ⟨m, hm⟩ : ∃ m, n - j = m + 1 := ⟨n - j - 1, by omega⟩
    rw [hm, stepsR_succ] at heq
    refine ref09_Next_s (x := x) (by omega) i hi h1 hr hs (fun hno w2 h2 => ?_) (fun d R2 hyes w2 h2 => ?_)
    · rw [hno] at heq
      repeat (first | refine gd_tt ?_ | refine gd_ff ?_ | refine gd_tf ?_ | refine gd_ft ?_ | refine gd_u ?_ | refine pk_t ?_ | refine pk_f ?_ | refine iff_t ?_ | refine iff_f ?_ | refine not_t ?_ | refine not_f ?_ | refine beq_s ?_ | refine bne_s ?_ | refine ncP_p ?_ | refine nc_p ?_ | refine fld_at ?_ | refine xt_02 ?_ | refine xt_12 ?_ | refine xt_03 ?_ | refine xt_13 ?_ | refine xt_23 ?_ | refine eq_t (by omega) ?_ | refine eq_f (by omega) ?_ | refine ne_t (by omega) ?_ | refine ne_f (by omega) ?_ | refine lt_t (by omega) ?_ | refine lt_f (by omega) ?_ | refine gt_t (by omega) ?_ | refine gt_f (by omega) ?_ | refine ge_t (by omega) ?_ | refine ge_f (by omega) ?_ | refine le_t (by omega) ?_ | refine le_f (by omega) ?_)
      refine al_s (cs := Done.zero.cs) h2 rfl fun t w3 h3 => ?_
      refine stN_at h3 0 rfl (vs := Done.zero.cs) rfl rfl (by decide) (ints_flat _) (cs' := Done.zero.cs) (by rfl) fun w4 h4 => ?_
      refine not_f (iff_t ?_)
      have heq' : stepsR x.w n R = (j, R') := heq
      rw [heq'] at hk
      exact hk _ h4.drop
    · rw [hyes] at heq
      repeat (first | refine gd_tt ?_ | refine gd_ff ?_ | refine gd_tf ?_ | refine gd_ft ?_ | refine gd_u ?_ | refine pk_t ?_ | refine pk_f ?_ | refine iff_t ?_ | refine iff_f ?_ | refine not_t ?_ | refine not_f ?_ | refine beq_s ?_ | refine bne_s ?_ | refine ncP_p ?_ | refine nc_p ?_ | refine fld_at ?_ | refine xt_02 ?_ | refine xt_12 ?_ | refine xt_03 ?_ | refine xt_13 ?_ | refine xt_23 ?_ | refine eq_t (by omega) ?_ | refine eq_f (by omega) ?_ | refine ne_t (by omega) ?_ | refine ne_f (by omega) ?_ | refine lt_t (by omega) ?_ | refine lt_f (by omega) ?_ | refine gt_t (by omega) ?_ | refine gt_f (by omega) ?_ | refine ge_t (by omega) ?_ | refine ge_f (by omega) ?_ | refine le_t (by omega) ?_ | refine le_f (by omega) ?_)
      refine al_s (cs := Done.zero.cs) h2 rfl fun t w3 h3 => ?_
      refine stN_at h3 0 rfl (vs := d.cs) rfl rfl (by decide) (ints_flat _) (cs' := d.cs) (by rfl) fun w4 h4 => ?_
      refine not_t (iff_f (inc_s (by omega) ?_))
      refine hg _ _ _ (by omega) ⟨j + 1, R2, by omega, rfl, rfl, ?_, h4.drop⟩
      rw [heq, show n - (j + 1) = m from by omega]
      simp only [Prod.mk.injEq, and_true]
      omega
  · have ej : n - j = 0 := by omega
    rw [ej] at heq
    have heq' : stepsR x.w n R = (j, R') := heq
    rw [heq'] at hk
    exact hk _ h1
theorem ref09_State_s {r k : Nat} {x : WdX} {R : RS} {f : Int} (hS : Sat e w (IsRef r x R k :: Q)) (hk : K (.int .i64 (stR R f)) w) : Cl prog 19 #[.pointer (some ⟨r, 0, none⟩), .int .i64 f] w K := by
  refine pacelineref09_Run_State_calls ?_
  unfold pacelineref09_Run_State
  obtain ⟨sv, qv, wv, dv, ds, hR, h1⟩ := ref_of hS
  have hn8 := hR.may.n.2
  by_cases c1 : f < 0
  · repeat (first | refine gd_tt ?_ | refine gd_ff ?_ | refine gd_tf ?_ | refine gd_ft ?_ | refine gd_u ?_ | refine pk_t ?_ | refine pk_f ?_ | refine iff_t ?_ | refine iff_f ?_ | refine not_t ?_ | refine not_f ?_ | refine beq_s ?_ | refine bne_s ?_ | refine ncP_p ?_ | refine nc_p ?_ | refine fld_at ?_ | refine xt_02 ?_ | refine xt_12 ?_ | refine xt_03 ?_ | refine xt_13 ?_ | refine xt_23 ?_ | refine eq_t (by omega) ?_ | refine eq_f (by omega) ?_ | refine ne_t (by omega) ?_ | refine ne_f (by omega) ?_ | refine lt_t (by omega) ?_ | refine lt_f (by omega) ?_ | refine gt_t (by omega) ?_ | refine gt_f (by omega) ?_ | refine ge_t (by omega) ?_ | refine ge_f (by omega) ?_ | refine le_t (by omega) ?_ | refine le_f (by omega) ?_)
    unfold stR at hk
    rw [if_neg (by omega)] at hk
    exact hk
  refine lt_f c1 (gd_ff (gd_ff (gd_ff (nc_p ?_))))
  refine gd_ff (fld_at (gd_ff (ld1_at h1 0 rfl (v := sv) rfl (gd_ff ?_))))
  refine lnS_rd h1 1 rfl (fun g hg => own_rd hg) ?_
  rw [List.length_map]
  by_cases c2 : (R.feds.length : Int) ≤ f
  · repeat (first | refine gd_tt ?_ | refine gd_ff ?_ | refine gd_tf ?_ | refine gd_ft ?_ | refine gd_u ?_ | refine pk_t ?_ | refine pk_f ?_ | refine iff_t ?_ | refine iff_f ?_ | refine not_t ?_ | refine not_f ?_ | refine beq_s ?_ | refine bne_s ?_ | refine ncP_p ?_ | refine nc_p ?_ | refine fld_at ?_ | refine xt_02 ?_ | refine xt_12 ?_ | refine xt_03 ?_ | refine xt_13 ?_ | refine xt_23 ?_ | refine eq_t (by omega) ?_ | refine eq_f (by omega) ?_ | refine ne_t (by omega) ?_ | refine ne_f (by omega) ?_ | refine lt_t (by omega) ?_ | refine lt_f (by omega) ?_ | refine gt_t (by omega) ?_ | refine gt_f (by omega) ?_ | refine ge_t (by omega) ?_ | refine ge_f (by omega) ?_ | refine le_t (by omega) ?_ | refine le_f (by omega) ?_)
    unfold stR at hk
    rw [if_pos (by omega), List.getElem?_eq_none (by omega)] at hk
    exact hk
  refine gd_ff (ge_f (by omega) (pk_f (iff_f ?_)))
  obtain ⟨n, rfl⟩ : ∃ n : Nat, f = n := ⟨f.toNat, by omega⟩
  obtain ⟨a, ha⟩ := get_of_lt (l := R.feds) (j := n) (by omega)
  refine ncP_p (fld_at (ld1_at h1 0 rfl (v := sv) rfl ?_))
  refine ixS_rd h1 1 rfl (fun g hg => own_rd hg) (fun _ => rfl) (by rw [List.getElem?_map, ha]; rfl : (R.feds.map FA.st)[n]? = some a.st) fun p hp => ?_
  refine ld1_of h1 1 rfl hp (v := .int .i64 a.st) rfl ?_
  unfold stR at hk
  rw [if_pos (by omega), Int.toNat_natCast, ha] at hk
  exact hk
end Go.Proofs.Ytfcnjbannejchaa
