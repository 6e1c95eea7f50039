/- The law SoloKinds. Conditions: none. -/
import Derived.Test.YtfcnjbannejchaaSoloZ
import Derived.Test.YtfcnjbannejchaaSoloT
namespace Go.Proofs.Ytfcnjbannejchaa
open Go Go.E
set_option maxRecDepth 100000
variable {e w : World} {L Q : List HP} {K : KV} {S S2 : HP}

/-! ### What federates are changes nothing -/
def setK (k : Int) (f : Fed) : Fed := ⟨k, f.Look, f.Start, f.Rules, f.Pubs, f.Subs, f.Init⟩
def nkW (wd : Wd) : Wd := ⟨wd.Parents, wd.Feds.map (setK 0), wd.End⟩
theorem routes_nk (ps : List Int) (f c : Int) (l : List Fed) : routesL ps f c (l.map (setK 0)) = routesL ps f c l := by
  unfold routesL
  rw [List.zipIdx_map, List.filter_map, List.map_map]
  rfl
theorem spread_nk (ps : List Int) (feds : List Fed) (f seq now body : Int) (outs : List Out) : spreadL ps (feds.map (setK 0)) f seq now body outs = spreadL ps feds f seq now body outs := by
  unfold spreadL
  simp only [routes_nk]
theorem starts_nk (ps : List Int) (feds l : List Fed) : startsL ps (feds.map (setK 0)) (l.map (setK 0)) = startsL ps feds l := by
  unfold startsL
  rw [List.zipIdx_map, List.flatMap_map]
  simp only [spread_nk]
  rfl
theorem init_nk (wd : Wd) : initR (nkW wd) = initR wd := by
  unfold initR nkW
  simp only [starts_nk, List.map_map]
  rfl
theorem next_nk (wd : Wd) (R : RS) : nextR (nkW wd) R = nextR wd R := by
  unfold nextR
  cases R.wait with
  | nil => rfl
  | cons m rest =>
    simp only [nkW, List.getElem?_map]
    split
    · rfl
    · cases wd.Feds[m.To.toNat]? with
      | none => rfl
      | some f =>
        cases R.feds[m.To.toNat]? with
        | none => rfl
        | some a =>
          simp only [Option.map_some, takeM, spread_nk]
          rfl
theorem steps_nk (wd : Wd) : ∀ (n : Nat) (R : RS), stepsR (nkW wd) n R = stepsR wd n R
  | 0, R => rfl
  | n + 1, R => by
    rw [stepsR_succ, stepsR_succ, next_nk]
    cases nextR wd R with
    | none => rfl
    | some x => simp only [steps_nk wd n x.2]
theorem sendsE_k (k : Int) (f : Fed) : ∀ l, sendsE (setK k f) l = sendsE f l
  | [] => rfl
  | o :: l => by rw [sendsE_cons, sendsE_cons, sendsE_k k f l]; rfl
theorem rulesE_k (k : Int) (f : Fed) (most : Int) : ∀ l, rulesE (setK k f) most l = rulesE f most l
  | [] => rfl
  | r :: l => by rw [rulesE_cons, rulesE_cons, sendsE_k, rulesE_k k f most l]
theorem fedE_k {k : Int} (hk : k = 0 ∨ k = 1) {f : Fed} {most : Int} (h : fedE f most = 0) : fedE (setK k f) most = 0 := by
  unfold fedE fedEs at *
  rw [firstE_cons] at *
  have e1 : (if 0 ≤ (setK k f).Kind ∧ (setK k f).Kind ≤ 1 then (0 : Int) else 1) = 0 := if_pos (by show 0 ≤ k ∧ k ≤ 1; omega)
  rw [if_pos e1]
  have e2 := rulesE_k k f most f.Rules
  split at h
  · rw [show (setK k f).Rules = f.Rules from rfl, e2]
    exact h
  · rw [if_neg (by decide)] at h
    cases h
/-- Each with its kind. -/
def setKX (k : Int) (f : FedX) : FedX := ⟨k, f.Look, f.Start, f.rv, f.Rules, f.pv, f.Pubs, f.sv, f.Subs, f.iv, f.Init⟩
def kindOf (ks : List Bool) (i : Nat) : Int := if ks[i]? = some true then 1 else 0
def kindsL (ks : List Bool) (l : List FedX) : List FedX := l.zipIdx.map fun p => setKX (kindOf ks p.2) p.1
theorem kindsL_snoc (ks : List Bool) (l : List FedX) (f : FedX) : kindsL ks (l ++ [f]) = kindsL ks l ++ [setKX (kindOf ks l.length) f] := by
  unfold kindsL
  rw [List.zipIdx_append, List.map_append]
  simp
theorem kindsL_len (ks : List Bool) (l : List FedX) : (kindsL ks l).length = l.length := by simp [kindsL]
theorem kindsL_mem {ks : List Bool} {l : List FedX} {y : FedX} (h : y ∈ kindsL ks l) : ∃ k f, (k = 0 ∨ k = 1) ∧ f ∈ l ∧ y = setKX k f := by
  unfold kindsL at h
  obtain ⟨p, hp, rfl⟩ := List.mem_map.1 h
  refine ⟨kindOf ks p.2, p.1, ?_, List.mem_of_getElem? (List.mem_zipIdx_iff_getElem?.1 hp), rfl⟩
  unfold kindOf
  split <;> simp
theorem kindsL_nk (ks : List Bool) (l : List FedX) : ((kindsL ks l).map FedX.f).map (setK 0) = (l.map FedX.f).map (setK 0) := by
  unfold kindsL
  rw [List.map_map, List.map_map, List.map_map]
  show l.zipIdx.map ((setK 0 ∘ FedX.f) ∘ Prod.fst) = _
  rw [← List.map_map, List.zipIdx_map_fst]
def kindsX (ks : List Bool) (fv : Value) (x : WdX) : WdX := ⟨x.pv, x.Parents, fv, kindsL ks x.Feds, x.End⟩
theorem check_kinds {ks : List Bool} {fv : Value} {x : WdX} (h : (checkW x.w).2 = 0) : (checkW (kindsX ks fv x).w).2 = 0 := by
  have e : checkW (kindsX ks fv x).w = if treeE x.Parents ≠ 0 then (-1, treeE x.Parents) else if ¬ ((0 ≤ x.End ∧ x.End ≤ 1099511627776) ∧ 1 ≤ (((kindsL ks x.Feds).map FedX.f).length : Int) ∧ (((kindsL ks x.Feds).map FedX.f).length : Int) ≤ 8) then (-1, 1) else fedsE x.Parents.length 0 ((kindsL ks x.Feds).map FedX.f) := rfl
  have e' : checkW x.w = if treeE x.Parents ≠ 0 then (-1, treeE x.Parents) else if ¬ ((0 ≤ x.End ∧ x.End ≤ 1099511627776) ∧ 1 ≤ ((x.Feds.map FedX.f).length : Int) ∧ ((x.Feds.map FedX.f).length : Int) ≤ 8) then (-1, 1) else fedsE x.Parents.length 0 (x.Feds.map FedX.f) := rfl
  rw [e]
  rw [e'] at h
  rw [List.length_map, kindsL_len, ← List.length_map (f := FedX.f)]
  split at h
  · rename_i h1; exact absurd h h1
  · rename_i h1
    rw [if_neg h1]
    split at h
    · cases h
    · rename_i h2
      rw [if_neg h2]
      have hz := fedsE_zero h
      have ha := fedsE_app x.Parents.length ((kindsL ks x.Feds).map FedX.f) [] 0 fun f hf => by
        obtain ⟨y, hy, rfl⟩ := List.mem_map.1 hf
        obtain ⟨k, f0, hk, hf0, rfl⟩ := kindsL_mem hy
        exact fedE_k hk (hz f0.f (List.mem_map_of_mem hf0))
      rw [List.append_nil] at ha
      rw [ha]
      rfl
theorem steps_kinds (ks : List Bool) (fv : Value) (x : WdX) (n : Nat) (R : RS) : stepsR (kindsX ks fv x).w n R = stepsR x.w n R := by
  have h : nkW (kindsX ks fv x).w = nkW x.w := by
    show (⟨x.Parents, ((kindsL ks x.Feds).map FedX.f).map (setK 0), x.End⟩ : Wd) = ⟨x.Parents, (x.Feds.map FedX.f).map (setK 0), x.End⟩
    rw [kindsL_nk]
  rw [← steps_nk, h, steps_nk]
theorem init_kinds (ks : List Bool) (fv : Value) (x : WdX) : initR (kindsX ks fv x).w = initR x.w := by
  have h : nkW (kindsX ks fv x).w = nkW x.w := by
    show (⟨x.Parents, ((kindsL ks x.Feds).map FedX.f).map (setK 0), x.End⟩ : Wd) = ⟨x.Parents, (x.Feds.map FedX.f).map (setK 0), x.End⟩
    rw [kindsL_nk]
  rw [← init_nk, h, init_nk]
theorem RdWd.up {x : WdX} {h g : Hp} (s : Sub h g) (k : RdWd x h) : RdWd x g := ⟨rdS_up s k.par, rdS_up s k.feds, fun f hf => (k.fed f hf).up s⟩
theorem dec_bool {H : Type} {enc : TypeId × Value → H} {base : Nat} {spare : Nat → Bool} {held : Bool} {fuel : Nat} {cs : List Value} {x : DataW H × List MemPlace} (h : DataW.trod enc prog w base spare held fuel 4 cs = some x) : ∃ b, cs = [.bool b] := by
  obtain ⟨b, h1, _⟩ := DataW.trod_bool (by kernel_rfl) h
  exact ⟨b, h1⟩
abbrev boolC (b : Bool) : List Value := [.bool b]
/-- A slice of bools that came in. -/
theorem open_bools {H : Type} {enc : TypeId × Value → H} {base : Nat} {held : Bool} {v : Value} {d : DataW H} {p : List MemPlace} {a : Option Addr} {len cap : Nat} (hv : v = .slice a len cap) (h : DataW.Trod enc prog w base (fun _ => true) held 56 v d p) :
    ∃ l : List Bool, ∀ g, Old w g → rdS 1 boolC v l g := by
  subst hv
  obtain ⟨fuel, hf⟩ := h
  obtain ⟨v', l, h1, _, h3⟩ := open_sliceG (f := boolC) (s := 1) (fun _ : Bool => True) und_56 (by kernel_rfl) (by decide) (fun _ => rfl) (fun _ cs _ h => by obtain ⟨n, h1⟩ := dec_bool h; exact ⟨n, h1.symm, trivial⟩) hf
  have hc : (Value.slice a len cap).cells.toList = [Value.slice a len cap] := rfl
  rw [hc] at h1
  injection h1 with h1
  exact ⟨l, by rw [h1]; exact h3⟩

theorem soloKinds_s {x : WdX} {v : Value} {ks : List Bool} {a : Int} (hS : Sat e w (S :: Q)) (hr : ∀ g, S g → RdWd x g) (hwf : x.wf) (hr1 : ∀ g, S g → rdS 1 boolC v ks g) (ha : (Lit.int .u8 a).wf = true) (hk : ∀ w', Sat e w' (S :: Q) → K (.bool true) w') :
    Cl prog 6 #[.agg x.cs.toArray, v, .int .u8 a] w K := by
  have ha' := wf8s ha
  refine pacelinelaw09_SoloKinds_calls ?_
  unfold pacelinelaw09_SoloKinds
  have hflat := wd_cells 0 rfl hS hr
  refine al_s (cs := x.cs) hS rfl fun b w1 h1 => ?_
  refine ldN_at h1 0 (vs := x.cs) rfl (by rfl) rfl ?_
  refine small_s (x := x) 1 rfl h1 hr fun w2 q h2 hq => ?_
  cases q with
  | false =>
    refine not_f (iff_t ?_)
    exact shown_s h2 fun w3 h3 => hk _ h3.drop
  | true =>
    have hs := hq rfl
    refine not_t (iff_f ?_)
    refine ldN_at h2 0 (vs := x.cs) rfl (by rfl) rfl ?_
    refine ref08_Check_s (x := x) 1 rfl h2 hr hs fun w3 h3 => ?_
    refine xt_02 (xt_12 ?_)
    refine ne_c (fun hbad => ?_) (fun hok => ?_)
    · repeat (first | refine gd_tt ?_ | refine gd_ff ?_ | refine gd_tf ?_ | refine gd_ft ?_ | refine gd_u ?_ | refine pk_t ?_ | refine pk_f ?_ | refine iff_t ?_ | refine iff_f ?_ | refine not_t ?_ | refine not_f ?_ | refine beq_s ?_ | refine bne_s ?_ | refine ncP_p ?_ | refine nc_p ?_ | refine fld_at ?_ | refine xt_02 ?_ | refine xt_12 ?_ | refine xt_03 ?_ | refine xt_13 ?_ | refine xt_23 ?_ | refine eq_t (by omega) ?_ | refine eq_f (by omega) ?_ | refine ne_t (by omega) ?_ | refine ne_f (by omega) ?_ | refine lt_t (by omega) ?_ | refine lt_f (by omega) ?_ | refine gt_t (by omega) ?_ | refine gt_f (by omega) ?_ | refine ge_t (by omega) ?_ | refine ge_f (by omega) ?_ | refine le_t (by omega) ?_ | refine le_f (by omega) ?_)
      exact shown_s h3 fun w4 h4 => hk _ h4.drop
    refine gd_ff (shown_s h3 fun w4 h4 => ?_)
    repeat (first | refine gd_tt ?_ | refine gd_ff ?_ | refine gd_tf ?_ | refine gd_ft ?_ | refine gd_u ?_ | refine pk_t ?_ | refine pk_f ?_ | refine iff_t ?_ | refine iff_f ?_ | refine not_t ?_ | refine not_f ?_ | refine beq_s ?_ | refine bne_s ?_ | refine ncP_p ?_ | refine nc_p ?_ | refine fld_at ?_ | refine xt_02 ?_ | refine xt_12 ?_ | refine xt_03 ?_ | refine xt_13 ?_ | refine xt_23 ?_ | refine eq_t (by omega) ?_ | refine eq_f (by omega) ?_ | refine ne_t (by omega) ?_ | refine ne_f (by omega) ?_ | refine lt_t (by omega) ?_ | refine lt_f (by omega) ?_ | refine gt_t (by omega) ?_ | refine gt_f (by omega) ?_ | refine ge_t (by omega) ?_ | refine ge_f (by omega) ?_ | refine le_t (by omega) ?_ | refine le_f (by omega) ?_)
    have hwd := checkW_ok hok
    have hfl := hs.feds
    rw [zero_25]
    refine ldN_at h4 0 (vs := x.cs) rfl (by rfl) rfl ?_
    refine al_s (cs := [.slice none 0 0, .slice none 0 0, .int .i64 0]) h4 rfl fun t9 w5 h5 => ?_
    refine stN_at h5 0 rfl (vs := x.cs) rfl rfl (by simp) hflat (cs' := x.cs) (by rfl) fun w6 h6 => ?_
    refine bsl0 h6 FedX.cs fun v0 w7 h7 => ?_
    have q1 := h7.own_cells 0 rfl
    refine fld_at (stN_at h7 1 rfl (vs := [v0]) q1.1 rfl (Nat.le_of_ble_eq_true rfl) (fun c hc => by rw [List.mem_singleton.1 hc]; exact q1.2) (cs' := [x.pv, v0, .int .i64 x.End]) (by rfl) fun w8 h8 => ?_)
    refine lpi1 (fun q t10 w => ∃ (j : Nat) (fv : Value), j ≤ x.Feds.length ∧ t10 = .int .i64 j ∧ q = x.Feds.length - j ∧ Sat e w (ownS 53 7 FedX.cs fv (kindsL ks (x.Feds.take j)) :: blk t9 25 [x.pv, fv, .int .i64 x.End] :: blk b 25 x.cs :: S :: Q)) x.Feds.length ⟨0, v0, Nat.zero_le _, rfl, rfl, h8⟩ ?_
    rintro q _ w g1 ⟨j, fv, hj, rfl, rfl, h9⟩ hg1
    refine fld_at (ld1_at h9 2 rfl (v := x.fv) rfl ?_)
    refine lnS_rd h9 3 rfl (fun g hg => (hr g hg).feds) ?_
    refine lt_c (fun c1 => iff_t ?_) (fun c1 => iff_f ?_)
    · obtain ⟨fd, hf⟩ := get_of_lt (l := x.Feds) (j := j) (by omega)
      have hfm := List.mem_of_getElem? hf
      have hfc : ∀ k : Int, ∀ c ∈ (setKX k fd).cs, flat c = true := by
        intro k c hc
        have hall := fed_cells (f := fd) 3 rfl h9 fun g hg => (hr g hg).fed fd hfm
        simp only [setKX, FedX.cs, List.mem_cons, List.not_mem_nil, or_false] at hc
        rcases hc with rfl | rfl | rfl | rfl | rfl | rfl | rfl
        · rfl
        · rfl
        · rfl
        · exact hall _ (by simp [FedX.cs])
        · exact hall _ (by simp [FedX.cs])
        · exact hall _ (by simp [FedX.cs])
        · exact hall _ (by simp [FedX.cs])
      have hlen : (x.Feds.take j).length = j := by rw [List.length_take]; omega
      have hsn : kindsL ks (x.Feds.take (j + 1)) = kindsL ks (x.Feds.take j) ++ [setKX (kindOf ks j) fd] := by rw [take_snoc hf, kindsL_snoc, hlen]
      refine fld_at (ld1_at h9 2 rfl (v := x.fv) rfl ?_)
      refine ixS_rd h9 3 rfl (fun g hg => (hr g hg).feds) (fun _ => rfl) hf fun p hp => ldN_of h9 3 rfl hp rfl ?_
      rw [zero_53]
      refine al_s (cs := [.int .i64 0, .int .i64 0, .int .i64 0, .slice none 0 0, .slice none 0 0, .slice none 0 0, .slice none 0 0]) h9 rfl fun t11 w10 h10 => ?_
      refine stN_at h10 0 rfl (vs := fd.cs) rfl rfl (by simp) (hfc fd.Kind) (cs' := fd.cs) (by rfl) fun w11 h11 => ?_
      refine fld_at (stN_at h11 0 rfl (vs := ints [0]) rfl rfl (Nat.le_of_ble_eq_true rfl) (ints_flat _) (cs' := (setKX 0 fd).cs) (by rfl) fun w12 h12 => ?_)
      refine lnS_rd h12 4 rfl hr1 ?_
      have hcont : ∀ w', Sat e w' (blk t11 53 (setKX (kindOf ks j) fd).cs :: ownS 53 7 FedX.cs fv (kindsL ks (x.Feds.take j)) :: blk t9 25 [x.pv, fv, .int .i64 x.End] :: blk b 25 x.cs :: S :: Q) →
          fld 1 (.pointer (some ⟨t9, 0, none⟩)) w' fun t61 w => ld1 t61 w fun t62 w => ldN 7 (.pointer (some ⟨t11, 0, none⟩)) w fun t63 w => bsl 53 7 1 (zeroD prog 53) [(0, t63)] w fun t64 w => apS prog #[23, 23] 23 t62 t64 w fun t65 w => fld 1 (.pointer (some ⟨t9, 0, none⟩)) w fun t66 w => stN 1 t66 t65 w fun _ w => bi .add .i64 (.int .i64 j) (.int .i64 1) w fun t43 w => g1 [t43] w := by
        intro w' h'
        refine fld_at (ld1_at h' 2 rfl (v := fv) rfl ?_)
        refine ldN_at h' 0 (vs := (setKX (kindOf ks j) fd).cs) rfl (by rfl) rfl ?_
        refine bsl1 (vs := (setKX (kindOf ks j) fd).cs) rfl rfl h' fun bb w13 h13 => ?_
        refine apS_ownM te_23 te_23.und (f := FedX.cs) (m := [setKX (kindOf ks j) fd]) (fun _ => rfl) (fun y hy c hc => by rw [List.mem_singleton.1 hy] at hc; exact hfc _ c hc) (h13.selR [_, _, _] [_, _, _] [2, 0, 1] (by decide) rfl) (blk_rd1 (f := FedX.cs) (x := setKX (kindOf ks j) fd) (Nat.le_refl _)) (by rw [kindsL_len, hlen]; simp; omega) fun fv' w14 h14 => ?_
        have q2 := h14.own_cells 0 rfl
        refine fld_at (stN_at h14 3 rfl (vs := [fv']) q2.1 rfl (Nat.le_of_ble_eq_true rfl) (fun c hc => by rw [List.mem_singleton.1 hc]; exact q2.2) (cs' := [x.pv, fv', .int .i64 x.End]) (by rfl) fun w15 h15 => ?_)
        refine inc_s (by omega) ?_
        refine hg1 _ _ _ (by omega) ⟨j + 1, fv', by omega, rfl, rfl, ?_⟩
        rw [hsn]
        exact h15.selR [_, _, _, _, _] [_, _, _] [0, 3, 4] (by decide) rfl
      have hJ : ∀ (q : Bool) w', Sat e w' (blk t11 53 (setKX 0 fd).cs :: ownS 53 7 FedX.cs fv (kindsL ks (x.Feds.take j)) :: blk t9 25 [x.pv, fv, .int .i64 x.End] :: blk b 25 x.cs :: S :: Q) → (q = true ↔ ks[j]? = some true) →
          J0 (fun w => fld 1 (.pointer (some ⟨t9, 0, none⟩)) w fun t61 w => ld1 t61 w fun t62 w => ldN 7 (.pointer (some ⟨t11, 0, none⟩)) w fun t63 w => bsl 53 7 1 (zeroD prog 53) [(0, t63)] w fun t64 w => apS prog #[23, 23] 23 t62 t64 w fun t65 w => fld 1 (.pointer (some ⟨t9, 0, none⟩)) w fun t66 w => stN 1 t66 t65 w fun _ w => bi .add .i64 (.int .i64 j) (.int .i64 1) w fun t43 w => g1 [t43] w)
            fun k2 => iff' (.bool q) (fld 0 (.pointer (some ⟨t11, 0, none⟩)) w' fun t60 w => stN 1 t60 (.int .i64 1) w fun _ w => k2 w) (k2 w') := by
        intro q w' h' hq2
        refine J0.cut (fun w => Sat e w (blk t11 53 (setKX (kindOf ks j) fd).cs :: ownS 53 7 FedX.cs fv (kindsL ks (x.Feds.take j)) :: blk t9 25 [x.pv, fv, .int .i64 x.End] :: blk b 25 x.cs :: S :: Q)) (fun k2 hcut => ?_) fun w h => hcont _ h
        cases q with
        | true =>
          rw [show kindOf ks j = 1 from if_pos (hq2.1 rfl)] at hcut
          refine iff_t (fld_at (stN_at h' 0 rfl (vs := ints [1]) rfl rfl (Nat.le_of_ble_eq_true rfl) (ints_flat _) (cs' := (setKX 1 fd).cs) (by rfl) fun w13 h13 => ?_))
          exact hcut _ h13
        | false =>
          rw [show kindOf ks j = 0 from if_neg (fun h => by have := hq2.2 h; cases this)] at hcut
          exact iff_f (hcut _ h')
      refine lt_c (fun c2 => ?_) (fun c2 => ?_)
      · obtain ⟨kb, hkb⟩ := get_of_lt (l := ks) (j := j) (by omega)
        refine gd_tt (gd_tt (gd_tt (ixS_rd h12 4 rfl hr1 (fun _ => rfl) hkb fun p hp => ?_)))
        refine gd_tt (ld1_of h12 4 rfl hp (v := .bool kb) rfl (pk_t ?_))
        exact hJ kb _ h12 (by rw [hkb]; simp)
      · refine gd_ft (gd_ft (gd_ft (gd_ft (pk_f ?_))))
        exact hJ false _ h12 (by rw [List.getElem?_eq_none (by omega)]; simp)
    · have ej : j = x.Feds.length := by omega
      rw [ej, List.take_length] at h9
      have hx2c : (kindsX ks fv x).cs = [x.pv, fv, .int .i64 x.End] := rfl
      have h10 : Sat e w (sepL [ownS 53 7 FedX.cs fv (kindsL ks x.Feds), S] :: blk t9 25 (kindsX ks fv x).cs :: blk b 25 x.cs :: Q) :=
        Sat.join (l' := [_, _]) (h9.selR [_, _, _, _] [_, _, _, _] [0, 3, 1, 2] (by decide) rfl)
      obtain ⟨S2, hS2⟩ : ∃ S2 : HP, S2 = sepL [ownS 53 7 FedX.cs fv (kindsL ks x.Feds), S] := ⟨_, rfl⟩
      have hrA : ∀ g, S2 g → RdWd x g := fun g hg => by
        subst hS2
        obtain ⟨g1, k1, s1⟩ := sepL_get (i := 1) hg rfl
        exact (hr g1 k1).up s1
      have hrB : ∀ g, S2 g → RdWd (kindsX ks fv x) g := fun g hg => by
        have hA := hrA g hg
        subst hS2
        obtain ⟨g0, k0, s0⟩ := sepL_get (i := 0) hg rfl
        refine ⟨hA.par, rdS_up s0 (own_rd k0), fun f hf => ?_⟩
        obtain ⟨k, f0, _, hf0, rfl⟩ := kindsL_mem hf
        exact ⟨(hA.fed f0 hf0).rules, (hA.fed f0 hf0).pubs, (hA.fed f0 hf0).subs, (hA.fed f0 hf0).init⟩
      have hback : ∀ w', Sat e w' (S2 :: Q) → Sat e w' (S :: Q) := fun w' h' => by
        subst hS2
        exact (Sat.split (l' := [_, _]) h').drop
      rw [← hS2] at h10
      have hwfB : (kindsX ks fv x).wf := by
        refine ⟨hwf.1, fun f hf => ?_, hwf.2.2⟩
        obtain ⟨k, f0, hk01, hf0, rfl⟩ := kindsL_mem hf
        have := hwf.2.1 f0 hf0
        refine ⟨?_, this.2⟩
        show i64 k
        unfold i64
        rcases hk01 with rfl | rfl <;> rfl
      have hsB : (kindsX ks fv x).short := by
        refine ⟨by show (kindsL ks x.Feds).length ≤ 1000; rw [kindsL_len]; exact hs.feds, hs.par, fun f hf => ?_⟩
        obtain ⟨k, f0, _, hf0, rfl⟩ := kindsL_mem hf
        have := hs.fed f0 hf0
        exact ⟨this.pubs, this.subs, this.init, this.rules, this.sends⟩
      have hokB : (checkW (kindsX ks fv x).w).2 = 0 := check_kinds hok
      have hst := steps_kinds ks fv x
      have hin := init_kinds ks fv x
      have hwdB := checkW_ok hokB
      generalize hxB : kindsX ks fv x = xB at h10 hrB hwfB hsB hokB hst hin hx2c hwdB
      refine ldN_at h10 2 (vs := x.cs) rfl (by rfl) rfl ?_
      refine solo_New_s (x := x) 0 rfl h10 hrA hwf hs (fun hbad => absurd hok hbad) (fun _ r w11 h11 => ?_)
      refine xt_02 (xt_12 ?_)
      refine ldN_at h11 2 (vs := xB.cs) rfl (by rfl) rfl ?_
      refine solo_New_s (x := xB) 1 rfl h11 hrB hwfB hsB (fun hbad => absurd hokB hbad) (fun _ r2 w12 h12 => ?_)
      refine xt_02 (xt_12 (ne_f rfl (gd_ff (gd_ff (ne_f rfl (pk_f (iff_f ?_)))))))
      rw [hin] at h12
      obtain ⟨n, hn⟩ : ∃ n : Nat, a % 40 = n := ⟨(a % 40).toNat, by omega⟩
      have hn40 : n < 40 := by omega
      refine cv_s ?_
      rw [wrap_i64 (by omega) (by omega)]
      refine rem_s (by decide) ?_
      rw [Int.tmod_eq_emod_of_nonneg (by omega), hn]
      refine solo_Steps_s (n := n) (by omega) h12.swap fun w13 h13 hle1 => ?_
      refine solo_Steps_s (n := n) (by omega) h13.swap fun w14 h14 hle2 => ?_
      rw [hst] at h14 ⊢
      generalize (stepsR x.w n (initR x.w)) = A at h14 hle1
      replace h14 : Sat e w14 (IsSolo r2 xB.w A.2 (0 + A.1) :: IsSolo r x.w A.2 (0 + A.1) :: S2 :: blk t9 25 xB.cs :: blk b 25 x.cs :: Q) := h14
      refine ne_f rfl (gd_ff (gd_ff ?_))
      refine solo_Waiting_s (by omega) h14.swap fun v1 w15 h15 => ?_
      refine gd_ff (gd_ff ?_)
      refine solo_Waiting_s (by omega) (h15.pick 2 rfl) fun v2 w16 h16 => ?_
      have hru : RunOk x.w A.2 (0 + A.1) := by
        obtain ⟨X, hX, _⟩ := solo_of (h16.pick 3 rfl)
        exact hX.run
      have hcnt := hru.cnt
      refine gd_ff (same_s 2 0 rfl rfl h16 (fun g hg => own_rd hg) (fun g hg => own_rd hg) (by omega) fun w17 h17 => ?_)
      refine gd_ff (not_t (pk_f (iff_f ?_)))
      replace h17 : Sat e w17 (IsSolo r x.w A.2 (0 + A.1) :: IsSolo r2 xB.w A.2 (0 + A.1) :: S2 :: blk t9 25 xB.cs :: blk b 25 x.cs :: Q) := h17.selR [_, _, _, _] [_, _] [3, 1] (by decide) rfl
      refine lpi1 (fun q t17 w => ∃ f : Nat, f ≤ x.Feds.length ∧ t17 = .int .i64 f ∧ q = x.Feds.length - f ∧ Sat e w (IsSolo r x.w A.2 (0 + A.1) :: IsSolo r2 xB.w A.2 (0 + A.1) :: S2 :: blk t9 25 xB.cs :: blk b 25 x.cs :: Q)) x.Feds.length ⟨0, Nat.zero_le _, rfl, rfl, h17⟩ ?_
      rintro q _ w g3 ⟨f, hf, rfl, rfl, h18⟩ hg3
      refine fld_at (ld1_at h18 4 rfl (v := x.fv) rfl ?_)
      refine lnS_rd h18 2 rfl (fun g hg => (hrA g hg).feds) ?_
      refine lt_c (fun c3 => iff_t ?_) (fun c3 => iff_f (hk _ (hback _ (h18.selR [_, _, _, _, _] [_] [2] (by decide) rfl))))
      refine solo_State_s h18 (solo_State_s h18.swap (ne_f rfl (gd_ff (gd_ff (gd_ff ?_)))))
      refine solo_Log_s (by omega) h18 fun u1 w19 h19 => ?_
      refine gd_ff (gd_ff (gd_ff ?_))
      refine solo_Log_s (by omega) (h19.pick 2 rfl) fun u2 w20 h20 => ?_
      have hll := log_len hru (f : Int)
      refine gd_ff (Same_s 2 0 rfl rfl h20 (fun g hg => own_rd hg) (fun g hg => own_rd hg) (by omega) fun w21 h21 => ?_)
      refine gd_ff (not_t (pk_f (iff_f (inc_s (by omega) ?_))))
      refine hg3 _ _ _ (by omega) ⟨f + 1, by omega, rfl, rfl, ?_⟩
      exact h21.selR [_, _, _, _] [_, _] [3, 1] (by decide) rfl
end Go.Proofs.Ytfcnjbannejchaa
