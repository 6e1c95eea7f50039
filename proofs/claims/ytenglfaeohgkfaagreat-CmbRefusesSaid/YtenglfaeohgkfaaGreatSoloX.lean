/- What is sent, by the document: Above, Routes, Sent, Spread, Starts, Step. Conditions: the federation may be. The document's run: ahead, Put; what memory holds; New. Conditions: the federation's lists are short. The document's run: New, Next, Steps. Conditions: the federation's lists are short; at most a thousand steps. -/
import Derived.Test.YtenglfaeohgkfaaGreatSoloU
namespace Go.Proofs.YtenglfaeohgkfaaGreat
open Go Go.E
set_option maxRecDepth 100000
variable {e w : World} {L R : List HP} {K : KV} {S S2 : HP}

theorem ref05_Above_s {v : Value} {ps : List Int} {a : Int} (i : Nat) (hi : L[i]? = some S) (hS : Sat e w L) (hr : ∀ g, S g → rdS 1 (intsK .i64) v ps g) (ht : okTree ps) (ha : 0 ≤ a ∧ a < ps.length)
    (hk : ∀ v w', Sat e w' (ownS 3 1 (intsK .i64) v (above ps a) :: L) → K v w') : Cl prog 110 #[v, .int .i64 a] w K := by
  refine pacelineref05_Above_calls ?_
  unfold pacelineref05_Above
  refine bsl0 hS (intsK .i64) fun v0 w1 h1 => ?_
  have hi1 : ∀ X : HP, (X :: L)[i + 1]? = some S := fun X => by simpa using hi
  refine ref05_Check_s (i + 1) (hi1 _) h1 hr ?_
  have htE : treeE ps = 0 := by unfold treeE; exact if_pos ht
  rw [htE]
  refine ne_f rfl (gd_ff (gd_ff (lt_f (by omega) (pk_f (gd_ff (gd_ff (gd_ff (lnS_rd h1 (i + 1) (hi1 _) hr ?_))))))))
  refine gd_ff (ge_f (by omega) (pk_f (iff_f ?_)))
  have hpl := ht.2.1
  refine lpi2 (fun q t1 t5 w => ∃ (z : Int) (acc : List Int), t1 = .int .i64 z ∧ q = (z + 1).toNat ∧ -1 ≤ z ∧ z < ps.length ∧ acc.length + (z + 1).toNat ≤ 17 ∧ (∃ n : Nat, z < n ∧ acc ++ upL ps n z = above ps a) ∧ Sat e w (ownS 3 1 (intsK .i64) t5 acc :: L)) (a + 1).toNat
    ⟨a, [], rfl, rfl, by omega, ha.2, by simp; omega, ⟨a.toNat + 1, by omega, rfl⟩, h1⟩ ?_
  rintro q _ t5 w g ⟨z, acc, rfl, rfl, hz1, hzl, hacc, ⟨n, hzn, heq⟩, h2⟩ hg
  refine ge_c (fun c1 => iff_t ?_) (fun c1 => iff_f ?_)
  · obtain ⟨m, rfl⟩ : ∃ m, n = m + 1 := ⟨n - 1, by omega⟩
    rw [upL_succ, if_neg (by omega)] at heq
    obtain ⟨y, hy⟩ := get_of_lt (l := ps) (j := z.toNat) (by omega)
    have hzN : z = ((z.toNat : Nat) : Int) := by omega
    have hp := ht.2.2 z.toNat y hy
    have hgd : ps.getD z.toNat (-1) = y := by rw [List.getD_eq_getElem?_getD, hy]; rfl
    rw [hgd] at heq
    refine push1 te_36 (f := intsK .i64) (fun _ => rfl) (fun _ _ h => by simp [intsK] at h; subst h; rfl) h2 (x := z) rfl (by omega) fun v' w8 h8 => ?_
    rw [show Value.int .i64 z = .int .i64 ((z.toNat : Nat) : Int) from by rw [← hzN]]
    refine ixS_rd h8 (i + 1) (hi1 _) hr (fun _ => rfl) hy fun q hq => ?_
    refine ld1_of h8 (i + 1) (hi1 _) hq (v := .int .i64 y) rfl ?_
    refine hg (y + 1).toNat _ _ _ (by omega) ⟨y, acc ++ [z], rfl, rfl, by omega, by omega, by rw [List.length_append, List.length_singleton]; omega, ⟨m, by omega, ?_⟩, h8⟩
    rw [List.append_assoc]
    exact heq
  · rw [upL_neg ps (by omega), List.append_nil] at heq
    refine hk _ _ ?_
    rw [← heq]
    exact h2
theorem hears_above (ps : List Int) (c : Int) (f : Fed) : hearsB ps c f = (above ps c).any fun s => decide (s ∈ f.Subs) := by
  unfold hearsB
  rw [Bool.eq_iff_iff, List.any_eq_true, List.any_eq_true]
  constructor
  · rintro ⟨s, h1, h2⟩
    exact ⟨s, of_decide_eq_true h2, decide_eq_true h1⟩
  · rintro ⟨s, h1, h2⟩
    exact ⟨s, of_decide_eq_true h2, decide_eq_true h1⟩
theorem upL_len (ps : List Int) : ∀ (n : Nat) (a : Int), (upL ps n a).length ≤ n
  | 0, _ => Nat.le_refl _
  | n + 1, a => by
    rw [upL_succ]
    split
    · simp
    · have := upL_len ps n (ps.getD a.toNat (-1))
      rw [List.length_cons]
      omega
theorem ref08_Routes_s {x : WdX} {f c : Int} (i : Nat) (hi : L[i]? = some S) (hS : Sat e w L) (hr : ∀ g, S g → RdWd x g) (hs : x.short) (ht : okTree x.Parents) (hc : 0 ≤ c ∧ c < x.Parents.length)
    (hk : ∀ v w', Sat e w' (ownS 3 1 (intsK .i64) v (routesL x.w.Parents f c x.w.Feds) :: L) → K v w') : Cl prog 80 #[.agg x.cs.toArray, .int .i64 f, .int .i64 c] w K := by
  refine pacelineref08_Routes_calls ?_
  unfold pacelineref08_Routes
  refine al_s (cs := x.cs) hS rfl fun b w1 h1 => ?_
  refine fld_at (ld1_at h1 0 rfl (v := x.pv) rfl ?_)
  refine ref05_Above_s (i + 1) (by simpa using hi) h1 (fun g hg => (hr g hg).par) ht hc fun av w2 h2 => ?_
  have hal : (above x.Parents c).length ≤ 1000 := by
    have h3 := upL_len x.Parents (c.toNat + 1) c
    have h4 := ht.2.1
    unfold above
    omega
  have hab := fun f => hears_above x.Parents c f
  generalize above x.Parents c = ab at h2 hal hab
  refine bsl0 h2 (intsK .i64) fun v0 w3 h3 => ?_
  have hfl := hs.feds
  refine lpi2 (fun q t7 t13 w => ∃ j : Nat, j ≤ x.Feds.length ∧ t13 = .int .i64 j ∧ q = x.Feds.length - j ∧ Sat e w (ownS 3 1 (intsK .i64) t7 (routesL x.Parents f c ((x.Feds.take j).map FedX.f)) :: ownS 3 1 (intsK .i64) av ab :: blk b 39 x.cs :: L)) x.Feds.length
    ⟨0, Nat.zero_le _, rfl, rfl, h3⟩ ?_
  rintro q t7 _ w g ⟨j, hj, rfl, rfl, h4⟩ hg
  have hi3 : (ownS 3 1 (intsK .i64) t7 (routesL x.Parents f c ((x.Feds.take j).map FedX.f)) :: ownS 3 1 (intsK .i64) av ab :: blk b 39 x.cs :: L)[i + 3]? = some S := by simpa using hi
  refine fld_at (ld1_at h4 2 rfl (v := x.fv) rfl ?_)
  refine lnS_rd h4 (i + 3) hi3 (fun g hg => (hr g hg).feds) ?_
  refine lt_c (fun c0 => iff_t ?_) (fun c0 => iff_f ?_)
  · obtain ⟨fd, hf⟩ := get_of_lt (l := x.Feds) (j := j) (by omega)
    have hfm := List.mem_of_getElem? hf
    have hlen : ((x.Feds.take j).map FedX.f).length = j := by rw [List.length_map, List.length_take]; omega
    have hsn : routesL x.Parents f c ((x.Feds.take (j + 1)).map FedX.f) = routesL x.Parents f c ((x.Feds.take j).map FedX.f) ++ if (j : Int) ≠ f ∧ hearsB x.Parents c fd.f = true then [(j : Int)] else [] := by
      rw [take_snoc hf, List.map_append, List.map_singleton, routesL_snoc, hlen]
    have hrl := routesL_len x.Parents f c ((x.Feds.take j).map FedX.f)
    rw [hlen] at hrl
    refine J1.cut (fun t7 w => Sat e w (ownS 3 1 (intsK .i64) t7 (routesL x.Parents f c ((x.Feds.take (j + 1)).map FedX.f)) :: ownS 3 1 (intsK .i64) av ab :: blk b 39 x.cs :: L)) (fun k2 hcut => ?_) (fun t7 w h5 => ?_)
    · rw [hsn, hab] at hcut
      refine lpi2 (fun q t10 t11 w => ∃ n : Nat, n ≤ ab.length ∧ t11 = .int .i64 n ∧ q = ab.length - n ∧ t10 = .bool ((ab.take n).any fun s => decide (s ∈ fd.f.Subs)) ∧ Sat e w (ownS 3 1 (intsK .i64) t7 (routesL x.Parents f c ((x.Feds.take j).map FedX.f)) :: ownS 3 1 (intsK .i64) av ab :: blk b 39 x.cs :: L)) ab.length
        ⟨0, Nat.zero_le _, rfl, rfl, by simp, h4⟩ ?_
      rintro q _ _ w g2 ⟨n, hn, rfl, rfl, rfl, h5⟩ hg2
      refine lnS_rd h5 1 rfl (fun g hg => own_rd hg) ?_
      refine lt_c (fun c1 => iff_t ?_) (fun c1 => iff_f ?_)
      · obtain ⟨s, hsn2⟩ := get_of_lt (l := ab) (j := n) (by omega)
        refine dr_s h5 fun w6 h6 => ?_
        have hgo : ∀ w', Sat e w' (ownS 3 1 (intsK .i64) t7 (routesL x.Parents f c ((x.Feds.take j).map FedX.f)) :: ownS 3 1 (intsK .i64) av ab :: blk b 39 x.cs :: L) → bi .add .i64 (.int .i64 n) (.int .i64 1) w' fun t29 w => g2 [.bool ((ab.take (n + 1)).any fun s => decide (s ∈ fd.f.Subs)), t29] w := fun w' h' => by
          refine inc_s (by omega) ?_
          exact hg2 _ _ _ _ (by omega) ⟨n + 1, by omega, rfl, rfl, rfl, h'⟩
        have hst : ((ab.take (n + 1)).any fun s => decide (s ∈ fd.f.Subs)) = (((ab.take n).any fun s => decide (s ∈ fd.f.Subs)) || decide (s ∈ fd.f.Subs)) := by
          rw [take_snoc hsn2, List.any_append]
          simp
        rw [hst] at hgo
        cases hb : (ab.take n).any fun s => decide (s ∈ fd.f.Subs) with
        | true =>
          rw [hb] at hgo
          repeat (first | refine gd_tt ?_ | refine gd_ff ?_ | refine gd_tf ?_ | refine gd_ft ?_ | refine gd_u ?_ | refine pk_t ?_ | refine pk_f ?_ | refine iff_t ?_ | refine iff_f ?_ | refine not_t ?_ | refine not_f ?_ | refine beq_s ?_ | refine bne_s ?_ | refine ncP_p ?_ | refine nc_p ?_ | refine fld_at ?_ | refine xt_02 ?_ | refine xt_12 ?_ | refine xt_03 ?_ | refine xt_13 ?_ | refine xt_23 ?_ | refine eq_t (by omega) ?_ | refine eq_f (by omega) ?_ | refine ne_t (by omega) ?_ | refine ne_f (by omega) ?_ | refine lt_t (by omega) ?_ | refine lt_f (by omega) ?_ | refine gt_t (by omega) ?_ | refine gt_f (by omega) ?_ | refine ge_t (by omega) ?_ | refine ge_f (by omega) ?_ | refine le_t (by omega) ?_ | refine le_f (by omega) ?_)
          exact hgo _ h6
        | false =>
          rw [hb] at hgo
          refine gd_ff (fld_at (gd_ff (ld1_at h6 2 rfl (v := x.fv) rfl (gd_ff ?_))))
          refine gd_ff (ixS_rd h6 (i + 3) hi3 (fun g hg => (hr g hg).feds) (fun _ => rfl) hf fun a ha => ?_)
          refine gd_ff (fld_of ha fun a1 ha1 => gd_ff (ld1_of h6 (i + 3) hi3 ha1 (v := fd.sv) rfl ?_))
          refine gd_ff (gd_ff (gd_ff (ixS_rd h6 1 rfl (fun g hg => own_rd hg) (fun _ => rfl) hsn2 fun a ha => ?_)))
          refine gd_ff (ld1_of h6 1 rfl ha (v := .int .i64 s) rfl (gd_ff ?_))
          refine ref05_Has_s (i + 3) hi3 h6 (fun g hg => ((hr g hg).fed fd hfm).subs) (by have := (hs.fed fd hfm).subs; omega) ?_
          refine pk_f ?_
          exact hgo _ h6
      · have en : n = ab.length := by omega
        rw [en, List.take_length]
        have hskip : ¬ ((j : Int) ≠ f ∧ (ab.any fun s => decide (s ∈ fd.f.Subs)) = true) → k2 t7 w := fun h => by
          rw [if_neg h, List.append_nil] at hcut
          exact hcut _ _ h5
        refine ne_c (fun c2 => ?_) (fun c2 => ?_)
        · refine gd_tt ?_
          cases hb : ab.any fun s => decide (s ∈ fd.f.Subs) with
          | true =>
            refine pk_t (iff_t ?_)
            refine push1 te_36 (f := intsK .i64) (fun _ => rfl) (fun _ _ h => by simp [intsK] at h; subst h; rfl) h5 (x := (j : Int)) rfl (by omega) fun v' w8 h8 => ?_
            refine hcut _ _ ?_
            rw [if_pos ⟨c2, hb⟩]
            exact h8
          | false =>
            refine pk_t (iff_f (hskip fun h => ?_))
            rw [hb] at h
            cases h.2
        · repeat (first | refine gd_tt ?_ | refine gd_ff ?_ | refine gd_tf ?_ | refine gd_ft ?_ | refine gd_u ?_ | refine pk_t ?_ | refine pk_f ?_ | refine iff_t ?_ | refine iff_f ?_ | refine not_t ?_ | refine not_f ?_ | refine beq_s ?_ | refine bne_s ?_ | refine ncP_p ?_ | refine nc_p ?_ | refine fld_at ?_ | refine xt_02 ?_ | refine xt_12 ?_ | refine xt_03 ?_ | refine xt_13 ?_ | refine xt_23 ?_ | refine eq_t (by omega) ?_ | refine eq_f (by omega) ?_ | refine ne_t (by omega) ?_ | refine ne_f (by omega) ?_ | refine lt_t (by omega) ?_ | refine lt_f (by omega) ?_ | refine gt_t (by omega) ?_ | refine gt_f (by omega) ?_ | refine ge_t (by omega) ?_ | refine ge_f (by omega) ?_ | refine le_t (by omega) ?_ | refine le_f (by omega) ?_)
          exact hskip fun h => h.1 c2
    · refine inc_s (by omega) ?_
      exact hg _ _ _ _ (by omega) ⟨j + 1, by omega, rfl, rfl, h5⟩
  · have ej : j = x.Feds.length := by omega
    rw [ej, List.take_length] at h4
    exact hk _ _ (h4.selR [_, _, _] [_] [0] (by decide) rfl)

theorem ref07_Sent_s {f seq now body : Int} {o : Out} (hS : Sat e w L) (hk : ∀ w', Sat e w' L → K (.agg (sentM f seq now body o).cs.toArray) w') :
    Cl prog 79 #[.int .i64 f, .int .i64 seq, .int .i64 now, .int .i64 body, .agg o.cs.toArray] w K := by
  refine pacelineref07_Sent_calls ?_
  unfold pacelineref07_Sent
  refine al_s (cs := o.cs) hS rfl fun t9 w1 h1 => ?_
  rw [zero_26]
  refine al_s (cs := Msg.zero.cs) h1 rfl fun t10 w2 h2 => ?_
  refine rem_s (by decide) ?_
  obtain ⟨k1, a1, a2, a3⟩ := tmodK body
  generalize hr1 : body.tmod 1000 = r1 at a1 a2 a3
  refine fld_at (ld1_at h2 1 rfl (v := .int .i64 o.Add) rfl ?_)
  refine rem_s (by decide) ?_
  obtain ⟨k2, b1, b2, b3⟩ := tmodK o.Add
  generalize hr2 : o.Add.tmod 1000 = r2 at b1 b2 b3
  refine add_s (by omega) (by omega) ?_
  refine rem_s (by decide) ?_
  obtain ⟨k3, c1, c2, c3⟩ := tmodK (r1 + r2)
  generalize hr3 : (r1 + r2).tmod 1000 = r3 at c1 c2 c3
  refine add_s (by omega) (by omega) ?_
  refine dr_s h2 fun w3 h3 => ?_
  refine fld_at (ld1_at h3 1 rfl (v := .int .i64 o.Delay) rfl ?_)
  refine fld_at (ld1_at h3 1 rfl (v := .int .i64 o.Class) rfl ?_)
  refine rem_s (by decide) ?_
  rw [Int.tmod_eq_emod_of_nonneg (by omega)]
  refine ref01_Add_s ?_
  have oC : ld1 (.pointer (some ⟨t9, 0 + 0, none⟩)) w3 (fun v' w'' => v' = .int .i64 o.Class ∧ w'' = w3) := ld1_at h3 1 rfl (v := .int .i64 o.Class) rfl ⟨rfl, rfl⟩
  refine ⟨oC, bld_s (ints [addT now o.Delay, f, seq]) (by kernel_rfl) ⟨oC, ?_⟩⟩
  rw [show (r3 + 1000) % 1000 = (body + o.Add) % 1000 from by omega]
  refine bld_s (sentM f seq now body o).cs (by kernel_rfl) ?_
  refine stN_at h3 0 rfl (vs := (sentM f seq now body o).cs) rfl rfl (by simp [ints, Msg.ns, Msg.zero]) (ints_flat _) (cs' := (sentM f seq now body o).cs) (by rfl) fun w4 h4 => ?_
  refine ldN_at h4 0 (vs := (sentM f seq now body o).cs) rfl (by rfl) rfl ?_
  exact hk _ h4.drop.drop

theorem ref08_Spread_s {x : WdX} {f seq now body : Int} {v : Value} {outs : List Out} (i k : Nat) (hi : L[i]? = some S) (hk2 : L[k]? = some S2) (hS : Sat e w L) (hr : ∀ g, S g → RdWd x g) (hr2 : ∀ g, S2 g → rdS 3 Out.cs v outs g) (hs : x.short) (ht : okTree x.Parents)
    (ho : ∀ o ∈ outs, okSend x.Parents.length o) (hl : outs.length ≤ 1000) (hq : 0 ≤ seq ∧ seq ≤ 1125899906842624)
    (hk : ∀ v w', Sat e w' (ownS 26 6 Msg.cs v (spreadL x.w.Parents x.w.Feds f seq now body outs) :: L) → K v w') : Cl prog 46 #[.agg x.cs.toArray, .int .i64 f, .int .i64 seq, .int .i64 now, .int .i64 body, v] w K := by
  refine pacelineref08_Spread_calls ?_
  unfold pacelineref08_Spread
  refine al_s (cs := x.cs) hS rfl fun b w1 h1 => ?_
  have hi1 : (blk b 39 x.cs :: L)[i + 1]? = some S := by simpa using hi
  have hk1 : (blk b 39 x.cs :: L)[k + 1]? = some S2 := by simpa using hk2
  have hfl := hs.feds
  rw [zero_26]
  refine bsl0 h1 Msg.cs fun v0 w1b h1b => ?_
  have hflat := wd_cells i hi hS hr
  refine lpi2 (fun q t13 t21 w => ∃ j : Nat, j ≤ outs.length ∧ t21 = .int .i64 j ∧ q = outs.length - j ∧ Sat e w (ownS 26 6 Msg.cs t13 (spreadL x.w.Parents x.w.Feds f seq now body (outs.take j)) :: blk b 39 x.cs :: L)) outs.length
    ⟨0, Nat.zero_le _, rfl, rfl, h1b⟩ ?_
  rintro q t13 _ w g ⟨j, hj, rfl, rfl, h2⟩ hg
  refine lnS_rd h2 (k + 2) (by simpa using hk2) hr2 ?_
  refine lt_c (fun c0 => iff_t ?_) (fun c0 => iff_f ?_)
  · obtain ⟨o, hoj⟩ := get_of_lt (l := outs) (j := j) (by omega)
    obtain ⟨o1, o2, o3⟩ := ho o (List.mem_of_getElem? hoj)
    have hlen : (outs.take j).length = j := by rw [List.length_take]; omega
    have hsn : spreadL x.w.Parents x.w.Feds f seq now body (outs.take (j + 1)) = spreadL x.w.Parents x.w.Feds f seq now body (outs.take j) ++ (routesL x.w.Parents f o.Class x.w.Feds).map fun to => { sentM f (seq + j) now body o with To := to } := by
      rw [take_snoc hoj, spreadL_snoc, hlen]
    have hsl := spreadL_len x.w.Parents x.w.Feds f seq now body (outs.take j)
    have hfl2 : x.w.Feds.length ≤ 1000 := by simp only [WdX.w, List.length_map]; exact hfl
    rw [hlen] at hsl
    have hsl2 : j * x.w.Feds.length ≤ 1000 * 1000 := Nat.mul_le_mul (by omega) hfl2
    have hi2 : (ownS 26 6 Msg.cs t13 (spreadL x.w.Parents x.w.Feds f seq now body (outs.take j)) :: blk b 39 x.cs :: L)[i + 2]? = some S := by simpa using hi
    have hk3 : (ownS 26 6 Msg.cs t13 (spreadL x.w.Parents x.w.Feds f seq now body (outs.take j)) :: blk b 39 x.cs :: L)[k + 2]? = some S2 := by simpa using hk2
    refine add_s (by omega) (by omega) ?_
    refine ixS_rd h2 (k + 2) hk3 hr2 (fun _ => rfl) hoj fun a ha => ?_
    refine ldN_of h2 (k + 2) hk3 ha rfl ?_
    refine ref07_Sent_s h2 fun w5 h5 => ?_
    refine al_s (cs := Msg.zero.cs) h5 rfl fun tm w6 h6 => ?_
    generalize hm : sentM f (seq + j) now body o = m at hsn h6 ⊢
    have hmc : m.Class = o.Class := by rw [← hm]; rfl
    refine stN_at h6 0 rfl (vs := m.cs) rfl rfl (by decide) (ints_flat _) (cs' := m.cs) (by rfl) fun w7 h7 => ?_
    refine ldN_at h7 2 (vs := x.cs) rfl (by rfl) rfl ?_
    refine fld_at (ld1_at h7 0 rfl (v := .int .i64 m.Class) rfl ?_)
    rw [hmc]
    refine ref08_Routes_s (x := x) (i + 3) (by simpa using hi) h7 hr hs ht ⟨o1, o2⟩ fun tv w8 h8 => ?_
    generalize hrt : routesL x.w.Parents f o.Class x.w.Feds = rt at hsn h8 ⊢
    have hrtl : rt.length ≤ 1000 := by rw [← hrt]; exact Nat.le_trans (routesL_len _ _ _ _) hfl2
    refine lpi2 (fun q t13 t40 w => ∃ (n : Nat) (m' : Msg), n ≤ rt.length ∧ t40 = .int .i64 n ∧ q = rt.length - n ∧ (∀ to, { m' with To := to } = { m with To := to }) ∧
        Sat e w (ownS 26 6 Msg.cs t13 (spreadL x.w.Parents x.w.Feds f seq now body (outs.take j) ++ (rt.take n).map fun to => { m with To := to }) :: ownS 3 1 (intsK .i64) tv rt :: blk tm 26 m'.cs :: blk b 39 x.cs :: L)) rt.length
      ⟨0, m, Nat.zero_le _, rfl, rfl, fun _ => rfl, by simpa using h8.selR [_, _, _, _] [_, _, _, _] [2, 0, 1, 3] (by decide) rfl⟩ ?_
    rintro q t13' _ w g2 ⟨n, m', hn, rfl, rfl, hmm, h9⟩ hg2
    refine lnS_rd h9 1 rfl (fun g hg => own_rd hg) ?_
    refine lt_c (fun c1 => iff_t ?_) (fun c1 => iff_f ?_)
    · obtain ⟨to, hto⟩ := get_of_lt (l := rt) (j := n) (by omega)
      refine ixS_rd h9 1 rfl (fun g hg => own_rd hg) (fun _ => rfl) hto fun a ha => ?_
      refine ld1_of h9 1 rfl ha (v := .int .i64 to) rfl ?_
      refine fld_at (stN_at h9 2 rfl (vs := ints [to]) rfl rfl (Nat.le_of_ble_eq_true rfl) (ints_flat _) (cs' := ({ m' with To := to } : Msg).cs) (by rfl) fun w10 h10 => ?_)
      refine ldN_at h10 2 (vs := ({ m' with To := to } : Msg).cs) rfl (by rfl) rfl ?_
      refine push1 te_47 (f := Msg.cs) (fun _ => rfl) (fun _ => ints_flat _) h10 (x := { m' with To := to }) rfl (by rw [List.length_append, List.length_map, List.length_take]; omega) fun v' w11 h11 => ?_
      refine inc_s (by omega) ?_
      refine hg2 _ _ _ _ (by omega) ⟨n + 1, { m' with To := to }, by omega, rfl, rfl, fun to' => hmm to', ?_⟩
      rw [take_snoc hto, List.map_append, ← List.append_assoc, List.map_singleton, ← hmm to]
      exact h11
    · have en : n = rt.length := by omega
      rw [en, List.take_length, ← hsn] at h9
      refine inc_s (by omega) ?_
      exact hg _ _ _ _ (by omega) ⟨j + 1, by omega, rfl, rfl, h9.selR [_, _, _, _] [_, _] [0, 3] (by decide) rfl⟩
  · have ej : j = outs.length := by omega
    rw [ej, List.take_length] at h2
    exact hk _ _ (h2.selR [_, _] [_] [0] (by decide) rfl)
theorem ref07_Step_s {v : Value} {l : List RuleX} {s c : Int} (hS : Sat e w (S :: R)) (hr : ∀ g, S g → RdRules v l g) (hl : l.length ≤ 1000) (hl2 : ∀ r ∈ l, r.Sends.length ≤ 1000)
    (hk : ∀ v' w', Sat e w' (ownS 78 3 Out.cs v' (stepR (l.map RuleX.r) s c).2 :: S :: R) → K (.tuple #[.int .i64 (stepR (l.map RuleX.r) s c).1, v']) w') : Cl prog 45 #[v, .int .i64 s, .int .i64 c] w K := by
  refine pacelineref07_Step_calls ?_
  unfold pacelineref07_Step
  refine ref07_Find_s 0 rfl hS (fun g hg => (hr g hg).s) (by omega) (fun hno => ?_) (fun j r hj hon hlo => ?_)
  · rw [stepR_none hno] at hk
    refine lt_t (by omega) (iff_t ?_)
    exact hk _ _ (hS.own_nil 78 3 Out.cs)
  · rw [stepR_some hj hon hlo] at hk
    have hrm := List.mem_of_getElem? hj
    refine lt_f (by omega) (iff_f ?_)
    refine bsl0 hS Out.cs fun v0 w1 h1 => ?_
    refine dr_s h1 fun w2 h2 => ?_
    refine ixS_rd h2 1 rfl (fun g hg => (hr g hg).s) (fun _ => rfl) hj fun a ha => ?_
    refine fld_of ha fun a1 ha1 => ?_
    refine ld1_of h2 1 rfl ha1 (v := .int .i64 r.Next) rfl ?_
    refine ixS_rd h2 1 rfl (fun g hg => (hr g hg).s) (fun _ => rfl) hj fun a2 ha2 => ?_
    refine fld_of ha2 fun a3 ha3 => ?_
    refine ld1_of h2 1 rfl ha3 (v := r.sv) rfl ?_
    refine apS_ownM te_70 und_70 (f := Out.cs) (m := r.Sends) (fun _ => rfl) (fun _ _ => ints_flat _) h2 (fun g hg => (hr g hg).e r hrm) (by have := hl2 r hrm; simp; omega) fun v' w6 h6 => ?_
    rw [List.nil_append] at h6
    exact ⟨ld1_of h6 1 rfl ha1 (v := .int .i64 r.Next) rfl ⟨rfl, rfl⟩, hk _ _ h6⟩

end Go.Proofs.YtenglfaeohgkfaaGreat
namespace Go.Proofs.YtenglfaeohgkfaaGreat
open Go Go.E
set_option maxRecDepth 100000
variable {e w : World} {L Q : List HP} {K : KV} {S S2 : HP}

/-! ### Put -/
theorem insM_len (m : Msg) : ∀ l : List Msg, (insM m l).length = l.length + 1
  | [] => rfl
  | a :: l => by
    unfold insM
    split
    · rfl
    · rw [List.length_cons, insM_len m l, List.length_cons]
theorem putL_len : ∀ (ms l : List Msg), (putL l ms).length = l.length + ms.length
  | [], _ => rfl
  | m :: ms, l => by
    show (putL (insM m l) ms).length = _
    rw [putL_len ms, insM_len, List.length_cons]
    omega
theorem putL_snoc (l ms : List Msg) (m : Msg) : putL l (ms ++ [m]) = insM m (putL l ms) := by
  unfold putL
  rw [List.foldl_append]
  rfl
end Go.Proofs.YtenglfaeohgkfaaGreat
namespace Go.Proofs.YtenglfaeohgkfaaGreat
open Go Go.E
set_option maxRecDepth 100000
variable {e w : World} {L Q : List HP} {K : KV} {S S2 : HP}

structure RefOk (wd : Wd) (R : RS) (k : Nat) (ds : List Done) : Prop where
  may : WdOk wd
  run : RunOk wd R k
  logs : ∀ g : Int, logR R g = ds.filter fun d => decide (d.m.To = g)
  len : ds.length ≤ k
structure RefV where
  sv : Value
  qv : Value
  wv : Value
  dv : Value
  ds : List Done
theorem Sat.unpick {X : HP} {l : List HP} (i : Nat) (hi : l[i]? = some S) (h : Sat e w (X :: S :: l.eraseIdx i)) : Sat e w (X :: l) := h.perm (List.Perm.cons X (pick_perm l i S hi).symm)
theorem int_flat : ∀ x : Int, ∀ v ∈ intsK .i64 x, flat v = true := fun _ _ h => by simp [intsK] at h; subst h; rfl
theorem logR_init (wd : Wd) (g : Int) : logR (initR wd) g = [] := by
  unfold logR initR
  split
  · rw [List.getElem?_map]
    cases wd.Feds[g.toNat]? <;> rfl
  · rfl
theorem next_logI {wd : Wd} {R R' : RS} {d : Done} (h : nextR wd R = some (d, R')) (g : Int) (h0 : 0 ≤ d.m.To) : logR R' g = logR R g ++ if d.m.To = g then [d] else [] := by
  by_cases hg : 0 ≤ g
  · obtain ⟨n, rfl⟩ : ∃ n : Nat, g = n := ⟨g.toNat, by omega⟩
    exact next_log h n h0
  · unfold logR
    rw [if_neg hg, if_neg hg, if_neg (by omega)]
    rfl
end Go.Proofs.YtenglfaeohgkfaaGreat
