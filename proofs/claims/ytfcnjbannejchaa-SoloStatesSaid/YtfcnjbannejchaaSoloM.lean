/- A federation's copy. Conditions: the lists are short. -/
import Derived.Test.YtfcnjbannejchaaSoloL
namespace Go.Proofs.Ytfcnjbannejchaa
open Go Go.E
set_option maxRecDepth 100000
variable {e w : World} {L R : List HP} {K : KV} {S S2 : HP}

theorem unpick {A : HP} {i : Nat} (hi : L[i]? = some S) (h : Sat e w (A :: S :: L.eraseIdx i)) : Sat e w (A :: L) := h.perm ((pick_perm L i S hi).symm.cons A)
theorem clone_ints_i {v : Value} {l : List Int} (i : Nat) (hi : L[i]? = some S) (hl : l.length ≤ 1000000) (hff : ∀ x ∈ l, ∀ v ∈ (intsK .i64) x, flat v = true) (hS : Sat e w L) (hr : ∀ g, S g → rdS 1 (intsK .i64) v l g)
    (hk : ∀ v' w', Sat e w' (ownS 3 1 (intsK .i64) v' l :: L) → K v' w') : Cl prog 46 #[v] w K :=
  clone_ints_s hl hff (hS.pick i hi) hr fun v' w' h => hk v' w' (unpick hi h)
theorem clone_outs_i {v : Value} {l : List Out} (i : Nat) (hi : L[i]? = some S) (hl : l.length ≤ 1000000) (hff : ∀ x ∈ l, ∀ v ∈ Out.cs x, flat v = true) (hS : Sat e w L) (hr : ∀ g, S g → rdS 3 Out.cs v l g)
    (hk : ∀ v' w', Sat e w' (ownS 63 3 Out.cs v' l :: L) → K v' w') : Cl prog 48 #[v] w K :=
  clone_outs_s hl hff (hS.pick i hi) hr fun v' w' h => hk v' w' (unpick hi h)
theorem clone_rules_i {v : Value} {l : List RuleX} (i : Nat) (hi : L[i]? = some S) (hl : l.length ≤ 1000000) (hff : ∀ x ∈ l, ∀ v ∈ RuleX.cs x, flat v = true) (hS : Sat e w L) (hr : ∀ g, S g → rdS 4 RuleX.cs v l g)
    (hk : ∀ v' w', Sat e w' (ownS 55 4 RuleX.cs v' l :: L) → K v' w') : Cl prog 49 #[v] w K :=
  clone_rules_s hl hff (hS.pick i hi) hr fun v' w' h => hk v' w' (unpick hi h)
theorem clone_feds_i {v : Value} {l : List FedX} (i : Nat) (hi : L[i]? = some S) (hl : l.length ≤ 1000000) (hff : ∀ x ∈ l, ∀ v ∈ FedX.cs x, flat v = true) (hS : Sat e w L) (hr : ∀ g, S g → rdS 7 FedX.cs v l g)
    (hk : ∀ v' w', Sat e w' (ownS 53 7 FedX.cs v' l :: L) → K v' w') : Cl prog 47 #[v] w K :=
  clone_feds_s hl hff (hS.pick i hi) hr fun v' w' h => hk v' w' (unpick hi h)
theorem clone_dones_i {v : Value} {l : List Done} (i : Nat) (hi : L[i]? = some S) (hl : l.length ≤ 1000000) (hff : ∀ x ∈ l, ∀ v ∈ Done.cs x, flat v = true) (hS : Sat e w L) (hr : ∀ g, S g → rdS 7 Done.cs v l g)
    (hk : ∀ v' w', Sat e w' (ownS 39 7 Done.cs v' l :: L) → K v' w') : Cl prog 33 #[v] w K :=
  clone_dones_s hl hff (hS.pick i hi) hr fun v' w' h => hk v' w' (unpick hi h)
theorem clone_wait_i {v : Value} {l : List Msg} (i : Nat) (hi : L[i]? = some S) (hl : l.length ≤ 1000000) (hff : ∀ x ∈ l, ∀ v ∈ Msg.cs x, flat v = true) (hS : Sat e w L) (hr : ∀ g, S g → rdS 6 Msg.cs v l g)
    (hk : ∀ v' w', Sat e w' (ownS 37 6 Msg.cs v' l :: L) → K v' w') : Cl prog 37 #[v] w K :=
  clone_wait_s hl hff (hS.pick i hi) hr fun v' w' h => hk v' w' (unpick hi h)

/-! ### A federation in memory of its own -/
def RuleOwn (r : RuleX) : HP := ownS 63 3 Out.cs r.sv r.Sends
def FedOwn (f : FedX) : HP := sepL [ownS 3 1 (intsK .i64) f.pv f.Pubs, ownS 3 1 (intsK .i64) f.sv f.Subs, ownS 63 3 Out.cs f.iv f.Init, ownS 55 4 RuleX.cs f.rv f.Rules, sepL (f.Rules.map RuleOwn)]
def WdOwn (x : WdX) : HP := sepL [ownS 3 1 (intsK .i64) x.pv x.Parents, ownS 53 7 FedX.cs x.fv x.Feds, sepL (x.Feds.map FedOwn)]
theorem rdS_up {α : Type} {size : Nat} {f : α → List Value} {v : Value} {l : List α} {h g : Hp} (s : Sub h g) (k : rdS size f v l h) : rdS size f v l g := by
  obtain ⟨A, c, h1, h2, h3⟩ := k
  exact ⟨A, c, h1, h2, fun h0 => by obtain ⟨a, h4, h5⟩ := h3 h0; exact ⟨a, h4, h5.up s⟩⟩
theorem sepL_get {l : List HP} {g : Hp} {i : Nat} {P : HP} (h : sepL l g) (hi : l[i]? = some P) : ∃ g', P g' ∧ Sub g' g := SatH.get (S := P) h hi
theorem rules_rd {f : FedX} {g : Hp} (h1 : rdS 4 RuleX.cs f.rv f.Rules g) (h2 : sepL (f.Rules.map RuleOwn) g) : RdRules f.rv f.Rules g := by
  refine ⟨h1, fun r hr => ?_⟩
  obtain ⟨i, hi⟩ := List.getElem?_of_mem hr
  obtain ⟨g', h3, h4⟩ := sepL_get (i := i) (P := RuleOwn r) h2 (by rw [List.getElem?_map, hi]; rfl)
  exact rdS_up h4 (own_rd h3)
theorem RdRules.up {v : Value} {l : List RuleX} {h g : Hp} (s : Sub h g) (k : RdRules v l h) : RdRules v l g := ⟨rdS_up s k.s, fun r hr => rdS_up s (k.e r hr)⟩
theorem RdFed.up {f : FedX} {h g : Hp} (s : Sub h g) (k : RdFed f h) : RdFed f g := ⟨k.rules.up s, rdS_up s k.pubs, rdS_up s k.subs, rdS_up s k.init⟩
theorem fedOwn_rd {f : FedX} {g : Hp} (h : FedOwn f g) : RdFed f g := by
  obtain ⟨g1, k1, s1⟩ := sepL_get (i := 0) h rfl
  obtain ⟨g2, k2, s2⟩ := sepL_get (i := 1) h rfl
  obtain ⟨g3, k3, s3⟩ := sepL_get (i := 2) h rfl
  obtain ⟨g4, k4, s4⟩ := sepL_get (i := 3) h rfl
  obtain ⟨g5, k5, s5⟩ := sepL_get (i := 4) h rfl
  have k5' : sepL (f.Rules.map RuleOwn) g := SatH.up k5 s5
  exact ⟨rules_rd (rdS_up s4 (own_rd k4)) k5', rdS_up s1 (own_rd k1), rdS_up s2 (own_rd k2), rdS_up s3 (own_rd k3)⟩
theorem wdOwn_rd {x : WdX} {g : Hp} (h : WdOwn x g) : RdWd x g := by
  obtain ⟨g1, k1, s1⟩ := sepL_get (i := 0) h rfl
  obtain ⟨g2, k2, s2⟩ := sepL_get (i := 1) h rfl
  obtain ⟨g3, k3, s3⟩ := sepL_get (i := 2) h rfl
  refine ⟨rdS_up s1 (own_rd k1), rdS_up s2 (own_rd k2), fun f hf => ?_⟩
  obtain ⟨i, hi⟩ := List.getElem?_of_mem hf
  obtain ⟨g', h3, h4⟩ := sepL_get (i := i) (P := FedOwn f) k3 (by rw [List.getElem?_map, hi]; rfl)
  exact (fedOwn_rd h3).up (h4.trans s3)
theorem own_congr {α : Type} {t : TypeId} {size : Nat} {f : α → List Value} {v : Value} {l l' : List α} {g : Hp} (hl : l.map f = l'.map f) (h : ownS t size f v l g) : ownS t size f v l' g := by
  have hlen : l.length = l'.length := by simpa using congrArg List.length hl
  have hfm : l.flatMap f = l'.flatMap f := by rw [List.flatMap_def, List.flatMap_def, hl]
  rcases h with ⟨h1, h2⟩ | ⟨b, c, cs, h1, h2, h3, h4, h5⟩
  · subst h2
    refine .inl ⟨h1, List.length_eq_zero_iff.1 (by rw [← hlen]; rfl)⟩
  · exact .inr ⟨b, c, cs, by rw [← hlen]; exact h1, h2, h3, by omega, by rw [← hlen, ← hfm]; exact h5⟩
theorem rule_cells {v : Value} {l : List RuleX} (i : Nat) (hi : L[i]? = some S) (hS : Sat e w L) (hr : ∀ g, S g → RdRules v l g) : ∀ r ∈ l, ∀ c ∈ r.cs, flat c = true := by
  intro r hrm c hc
  obtain ⟨g, hg, _⟩ := hS.get i hi
  obtain ⟨A, c', hsv, _⟩ := (hr g hg).e r hrm
  simp only [RuleX.cs, List.mem_cons, List.not_mem_nil, or_false] at hc
  rcases hc with rfl | rfl | rfl | rfl
  · rfl
  · rfl
  · rfl
  · rw [hsv]; rfl
theorem sep_push {A : HP} {l : List HP} (h : Sat e w (A :: sepL l :: R)) : Sat e w (sepL (l ++ [A]) :: R) := by
  have h1 : Sat e w (sepL (A :: l) :: R) := Sat.join (l' := A :: l) (by
    have := h.swap.split
    exact this.perm (List.perm_middle (a := A) (l₁ := l) (l₂ := R)))
  exact h1.imp fun g hg => SatH.perm (List.perm_append_singleton A l).symm hg
theorem copied_s {x : WdX} (i : Nat) (hi : L[i]? = some S) (hS : Sat e w L) (hr : ∀ g, S g → RdWd x g) (hs : x.short)
    (hk : ∀ (X : WdX) w', X.w = x.w → Sat e w' (WdOwn X :: L) → K (.agg X.cs.toArray) w') : Cl prog 24 #[.agg x.cs.toArray] w K := by
  refine solo_copied_calls ?_
  unfold solo_copied
  have hflat := wd_cells i hi hS hr
  refine al_s (cs := x.cs) hS rfl fun b w1 h1 => ?_
  rw [zero_25]
  refine al_s (cs := [.slice none 0 0, .slice none 0 0, .int .i64 0]) h1 rfl fun b2 w2 h2 => ?_
  refine fld_at (ld1_at h2 1 rfl (v := x.pv) rfl ?_)
  refine clone_ints_i (i + 2) (by simpa using hi) (by have := hs.par; omega) (fun _ _ v h => by simp [intsK] at h; subst h; rfl) h2 (fun g hg => (hr g hg).par) fun v1 w3 h3 => ?_
  have f1 := h3.own_cells 0 rfl
  refine fld_at (stN_at h3 2 rfl (vs := [v1]) f1.1 rfl (Nat.le_of_ble_eq_true rfl) (fun c hc => by rw [List.mem_singleton.1 hc]; exact f1.2) (cs' := [v1, x.fv, .int .i64 x.End]) (by rfl) fun w4 h4 => ?_)
  refine fld_at (ld1_at h4 2 rfl (v := x.fv) rfl ?_)
  refine clone_feds_i (i + 3) (by simpa using hi) (by have := hs.feds; omega) (fun f hf => fed_cells i hi hS fun g hg => (hr g hg).fed f hf) h4 (fun g hg => (hr g hg).feds) fun v2 w5 h5 => ?_
  have f2 := h5.own_cells 0 rfl
  refine fld_at (stN_at h5 3 rfl (vs := [v2]) f2.1 rfl (Nat.le_of_ble_eq_true rfl) (fun c hc => by rw [List.mem_singleton.1 hc]; exact f2.2) (cs' := [v1, v2, .int .i64 x.End]) (by rfl) fun w6 h6 => ?_)
  refine fld_at (ld1_at h6 3 rfl (v := v2) rfl ?_)
  refine lnS_rd h6 0 rfl (fun g hg => own_rd hg) ?_
  have hfl := hs.feds
  refine lpi1 (fun q t17 w => ∃ (j : Nat) (dn : List FedX), j ≤ x.Feds.length ∧ t17 = .int .i64 j ∧ q = x.Feds.length - j ∧ dn.length = j ∧ dn.map FedX.f = (x.Feds.take j).map FedX.f ∧
      Sat e w (ownS 53 7 FedX.cs v2 (dn ++ x.Feds.drop j) :: sepL (dn.map FedOwn) :: ownS 3 1 (intsK .i64) v1 x.Parents :: blk b2 25 [.slice none 0 0, .slice none 0 0, .int .i64 0] :: blk b 25 [v1, v2, .int .i64 x.End] :: L)) x.Feds.length
    ⟨0, [], Nat.zero_le _, rfl, rfl, rfl, rfl, ?_⟩ ?_
  · have h7 : Sat e w6 (sepL [] :: ownS 53 7 FedX.cs v2 x.Feds :: ownS 3 1 (intsK .i64) v1 x.Parents :: blk b2 25 [.slice none 0 0, .slice none 0 0, .int .i64 0] :: blk b 25 [v1, v2, .int .i64 x.End] :: L) := Sat.join (l' := []) (h6.selR [_, _, _, _] [_, _, _, _] [0, 1, 2, 3] (by decide) rfl)
    exact h7.swap
  rintro q _ w g1 ⟨j, dn, hj, rfl, rfl, hdl, hdm, h7⟩ hg1
  refine lt_c (fun c0 => iff_t ?_) (fun c0 => iff_f ?_)
  case refine_2 =>
    have ej : j = x.Feds.length := by omega
    rw [ej, List.drop_length, List.append_nil] at h7
    rw [ej, List.take_length] at hdm
    refine ldN_at h7 4 (vs := [v1, v2, .int .i64 x.End]) rfl (by rfl) rfl ?_
    refine stN_at h7 3 rfl (vs := [v1, v2, .int .i64 x.End]) rfl rfl (Nat.le_of_ble_eq_true rfl) (fun c hc => by
      simp only [List.mem_cons, List.not_mem_nil, or_false] at hc
      rcases hc with rfl | rfl | rfl
      · exact f1.2
      · exact f2.2
      · rfl) (cs' := [v1, v2, .int .i64 x.End]) (by rfl) fun w8 h8 => ?_
    refine ldN_at h8 3 (vs := [v1, v2, .int .i64 x.End]) rfl (by rfl) rfl ?_
    refine hk ⟨v1, x.Parents, v2, dn, x.End⟩ _ (by simp only [WdX.w, hdm]) (Sat.join (l' := [_, _, _]) ?_)
    exact h8.selR [_, _, _, _, _] [_, _, _] [2, 0, 1] (by decide) rfl
  obtain ⟨fd, hf⟩ := get_of_lt (l := x.Feds) (j := j) (by omega)
  have hfm := List.mem_of_getElem? hf
  have hsf := hs.fed fd hfm
  have hdr : x.Feds.drop j = fd :: x.Feds.drop (j + 1) := drop_cons hf
  have hget : (dn ++ x.Feds.drop j)[j]? = some fd := by rw [hdr, List.getElem?_append_right (by omega), hdl, Nat.sub_self]; rfl
  have hi7 : (ownS 53 7 FedX.cs v2 (dn ++ x.Feds.drop j) :: sepL (dn.map FedOwn) :: ownS 3 1 (intsK .i64) v1 x.Parents :: blk b2 25 [.slice none 0 0, .slice none 0 0, .int .i64 0] :: blk b 25 [v1, v2, .int .i64 x.End] :: L)[i + 5]? = some S := by simpa using hi
  refine fld_at (ld1_at h7 4 rfl (v := v2) rfl ?_)
  refine ixS_own h7 0 rfl hget fun bb cc hv2 => ?_
  refine dr_s h7 fun w8 h8 => ?_
  refine ncP_p (fld_at (ldF_own h8 0 rfl (fun _ => rfl) hv2 hget (u := fd.pv) rfl ?_))
  refine ncP_p (fld_at (ldF_own h8 0 rfl (fun _ => rfl) hv2 hget (u := fd.sv) rfl ?_))
  refine ncP_p (fld_at (ldF_own h8 0 rfl (fun _ => rfl) hv2 hget (u := fd.iv) rfl ?_))
  refine ncP_p (fld_at (ldF_own h8 0 rfl (fun _ => rfl) hv2 hget (u := fd.rv) rfl ?_))
  have hintf : ∀ (l : List Int), ∀ x ∈ l, ∀ v ∈ intsK .i64 x, flat v = true := fun _ _ _ v h => by simp [intsK] at h; subst h; rfl
  refine clone_ints_i (i + 5) hi7 (by have := hsf.pubs; omega) (hintf _) h8 (fun g hg => ((hr g hg).fed fd hfm).pubs) fun a1 w9 h9 => ?_
  refine ⟨ldF_own h9 1 rfl (fun _ => rfl) hv2 hget (u := fd.rv) rfl ⟨rfl, rfl⟩, ldF_own h9 1 rfl (fun _ => rfl) hv2 hget (u := fd.iv) rfl ⟨rfl, rfl⟩, ldF_own h9 1 rfl (fun _ => rfl) hv2 hget (u := fd.sv) rfl ⟨rfl, rfl⟩, ?_⟩
  refine clone_ints_i (i + 6) (by simpa using hi) (by have := hsf.subs; omega) (hintf _) h9 (fun g hg => ((hr g hg).fed fd hfm).subs) fun a2 w10 h10 => ?_
  refine ⟨ldF_own h10 2 rfl (fun _ => rfl) hv2 hget (u := fd.rv) rfl ⟨rfl, rfl⟩, ldF_own h10 2 rfl (fun _ => rfl) hv2 hget (u := fd.iv) rfl ⟨rfl, rfl⟩, ?_⟩
  refine clone_outs_i (i + 7) (by simpa using hi) (by have := hsf.init; omega) (fun _ _ => ints_flat _) h10 (fun g hg => ((hr g hg).fed fd hfm).init) fun a3 w11 h11 => ?_
  refine ⟨ldF_own h11 3 rfl (fun _ => rfl) hv2 hget (u := fd.rv) rfl ⟨rfl, rfl⟩, ?_⟩
  refine clone_rules_i (i + 8) (by simpa using hi) (by have := hsf.rules; omega) (rule_cells i hi hS fun g hg => ((hr g hg).fed fd hfm).rules) h11 (fun g hg => ((hr g hg).fed fd hfm).rules.s) fun a4 w12 h12 => ?_
  have q4 := h12.own_cells 0 rfl
  have q3 := h12.own_cells 1 rfl
  have q2 := h12.own_cells 2 rfl
  have q1 := h12.own_cells 3 rfl
  have hset : ∀ (a c : FedX), ((dn ++ x.Feds.drop j).set j a).set j c = (dn ++ x.Feds.drop j).set j c := fun a c => List.set_set _
  have hjl : j < (dn ++ x.Feds.drop j).length := (List.getElem?_eq_some_iff.1 hget).1
  have hg1' : ∀ a : FedX, ((dn ++ x.Feds.drop j).set j a)[j]? = some a := fun a => List.getElem?_set_self hjl
  have hln : ∀ a : FedX, ((dn ++ x.Feds.drop j).set j a).length = (dn ++ x.Feds.drop j).length := fun a => List.length_set
  refine ncP_p (fld_at (stF_own h12 4 rfl (fun _ => rfl) hv2 hget (x' := { fd with pv := a1 }) q1.1 rfl (by decide) (fun c hc => by rw [List.mem_singleton.1 hc]; exact q1.2) rfl fun w13 h13 => ?_))
  refine ncP_p (fld_at (stF_own h13 4 rfl (fun _ => rfl) (by rw [hln]; exact hv2) (hg1' _) (x' := { fd with pv := a1, sv := a2 }) q2.1 rfl (by decide) (fun c hc => by rw [List.mem_singleton.1 hc]; exact q2.2) rfl fun w14 h14 => ?_))
  rw [hset] at h14
  refine ncP_p (fld_at (stF_own h14 4 rfl (fun _ => rfl) (by rw [hln]; exact hv2) (hg1' _) (x' := { fd with pv := a1, sv := a2, iv := a3 }) q3.1 rfl (by decide) (fun c hc => by rw [List.mem_singleton.1 hc]; exact q3.2) rfl fun w15 h15 => ?_))
  rw [hset] at h15
  refine ncP_p (fld_at (stF_own h15 4 rfl (fun _ => rfl) (by rw [hln]; exact hv2) (hg1' _) (x' := { fd with pv := a1, sv := a2, iv := a3, rv := a4 }) q4.1 rfl (by decide) (fun c hc => by rw [List.mem_singleton.1 hc]; exact q4.2) rfl fun w16 h16 => ?_))
  rw [hset] at h16
  clear h8 h9 h10 h11 h12 h13 h14 h15
  generalize hfd' : ({ fd with pv := a1, sv := a2, iv := a3, rv := a4 } : FedX) = fd' at h16
  generalize hls : (dn ++ x.Feds.drop j).set j fd' = ls at h16
  have hlsj : ls[j]? = some fd' := by rw [← hls]; exact hg1' _
  have hlsl : v2 = .slice (some ⟨bb, 0, none⟩) ls.length cc := by rw [← hls, hln]; exact hv2
  have e4 : fd'.rv = a4 := by rw [← hfd']
  refine ncP_p (fld_at (ldF_own h16 4 rfl (fun _ => rfl) hlsl hlsj (u := a4) (by rw [← hfd']; rfl) ?_))
  refine lnS_rd h16 0 rfl (fun g hg => own_rd hg) ?_
  have hrl := hsf.rules
  refine lpi1 (fun q t61 w => ∃ (n : Nat) (rd : List RuleX), n ≤ fd.Rules.length ∧ t61 = .int .i64 n ∧ q = fd.Rules.length - n ∧ rd.length = n ∧ rd.map RuleX.r = (fd.Rules.take n).map RuleX.r ∧
      Sat e w (ownS 55 4 RuleX.cs a4 (rd ++ fd.Rules.drop n) :: sepL (rd.map RuleOwn) :: ownS 63 3 Out.cs a3 fd.Init :: ownS 3 1 (intsK .i64) a2 fd.Subs :: ownS 3 1 (intsK .i64) a1 fd.Pubs :: ownS 53 7 FedX.cs v2 ls :: sepL (dn.map FedOwn) :: ownS 3 1 (intsK .i64) v1 x.Parents :: blk b2 25 [.slice none 0 0, .slice none 0 0, .int .i64 0] :: blk b 25 [v1, v2, .int .i64 x.End] :: L)) fd.Rules.length
    ⟨0, [], Nat.zero_le _, rfl, rfl, rfl, rfl, ?_⟩ ?_
  · exact (Sat.join (l' := []) h16).swap
  rintro q _ w g2 ⟨n, rd, hn, rfl, rfl, hrdl, hrdm, h17⟩ hg2
  refine lt_c (fun c1 => iff_t ?_) (fun c1 => iff_f ?_)
  case refine_2 =>
    have en : n = fd.Rules.length := by omega
    rw [en, List.drop_length, List.append_nil] at h17
    rw [en, List.take_length] at hrdm
    refine inc_s (by omega) ?_
    have h18 : Sat e w (FedOwn { fd' with Rules := rd } :: ownS 53 7 FedX.cs v2 ls :: sepL (dn.map FedOwn) :: ownS 3 1 (intsK .i64) v1 x.Parents :: blk b2 25 [.slice none 0 0, .slice none 0 0, .int .i64 0] :: blk b 25 [v1, v2, .int .i64 x.End] :: L) := by
      refine Sat.join (l' := [_, _, _, _, _]) ?_
      rw [← hfd']
      exact h17.selR [_, _, _, _, _] [_, _, _, _, _] [4, 3, 2, 0, 1] (by decide) rfl
    have h19 := sep_push (h18.selR [_, _, _] [_, _, _] [0, 2, 1] (by decide) rfl)
    refine hg1 _ _ _ (by omega) ⟨j + 1, dn ++ [{ fd' with Rules := rd }], by omega, rfl, rfl, by simp [hdl], ?_, ?_⟩
    · rw [take_snoc hf, List.map_append, List.map_append, hdm, List.map_singleton, List.map_singleton]
      congr 2
      rw [← hfd']
      simp only [FedX.f, hrdm]
    · have h20 := (h19.swap).imp (Q := ownS 53 7 FedX.cs v2 (dn ++ [{ fd' with Rules := rd }] ++ x.Feds.drop (j + 1))) fun g hg => own_congr (by
        rw [← hls, hdr, List.set_append_right _ _ (by omega), hdl, Nat.sub_self, List.set_cons_zero]
        simp only [List.map_append, List.map_cons, List.append_assoc, List.singleton_append]
        rfl) hg
      rw [List.map_append]
      exact h20
  obtain ⟨r, hrn⟩ := get_of_lt (l := fd.Rules) (j := n) (by omega)
  have hrm := List.mem_of_getElem? hrn
  have hdr2 : fd.Rules.drop n = r :: fd.Rules.drop (n + 1) := drop_cons hrn
  have hget2 : (rd ++ fd.Rules.drop n)[n]? = some r := by rw [hdr2, List.getElem?_append_right (by omega), hrdl, Nat.sub_self]; rfl
  refine dr_s h17 fun w18 h18 => ?_
  refine ncP_p (fld_at (ldF_own h18 5 rfl (fun _ => rfl) hlsl hlsj (u := a4) (by rw [← hfd']; rfl) ?_))
  refine ncP_p (fld_at (ldF_own h18 5 rfl (fun _ => rfl) hlsl hlsj (u := a4) (by rw [← hfd']; rfl) ?_))
  refine ixS_own h18 0 rfl hget2 fun br cr ha4 => ?_
  refine fld_at (ldF_own h18 0 rfl (fun _ => rfl) ha4 hget2 (u := r.sv) rfl ?_)
  refine clone_outs_i (i + 10) (by simpa using hi) (by have := hsf.sends r hrm; omega) (fun _ _ => ints_flat _) h18 (fun g hg => ((hr g hg).fed fd hfm).rules.e r hrm) fun a5 w19 h19 => ?_
  have q5 := h19.own_cells 0 rfl
  refine ⟨ldF_own h19 6 rfl (fun _ => rfl) hlsl hlsj (u := a4) (by rw [← hfd']; rfl) ⟨rfl, rfl⟩, ?_⟩
  refine ixS_own h19 1 rfl hget2 fun br' cr' ha4' => ?_
  refine fld_at (stF_own h19 1 rfl (fun _ => rfl) ha4' hget2 (x' := { r with sv := a5 }) q5.1 rfl (by decide) (fun c hc => by rw [List.mem_singleton.1 hc]; exact q5.2) rfl fun w20 h20 => ?_)
  refine inc_s (by omega) ?_
  have h21 := sep_push (A := RuleOwn { r with sv := a5 }) (h20.selR [_, _, _] [_, _, _] [0, 2, 1] (by decide) rfl)
  refine hg2 _ _ _ (by omega) ⟨n + 1, rd ++ [{ r with sv := a5 }], by omega, rfl, rfl, by simp [hrdl], ?_, ?_⟩
  · rw [take_snoc hrn, List.map_append, List.map_append, hrdm]
    rfl
  · rw [hdr2, List.set_append_right _ _ (by omega), hrdl, Nat.sub_self, List.set_cons_zero] at h21
    rw [List.map_append, List.append_assoc]
    exact h21.swap
end Go.Proofs.Ytfcnjbannejchaa
