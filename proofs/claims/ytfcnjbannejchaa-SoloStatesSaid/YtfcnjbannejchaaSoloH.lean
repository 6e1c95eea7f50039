/- What is sent, and to whom. Conditions: the federation may be. -/
import Derived.Test.YtfcnjbannejchaaSoloG
import Derived.Test.YtfcnjbannejchaaEngW
namespace Go.Proofs.Ytfcnjbannejchaa
open Go Go.E
set_option maxRecDepth 100000
variable {e w : World} {L R : List HP} {K : KV} {S S2 : HP}

/-! ### Classes above -/
def upL (ps : List Int) : Nat → Int → List Int
  | 0, _ => []
  | n + 1, a => if a < 0 then [] else a :: upL ps n (ps.getD a.toNat (-1))
theorem upL_succ (ps : List Int) (n : Nat) (a : Int) : upL ps (n + 1) a = if a < 0 then [] else a :: upL ps n (ps.getD a.toNat (-1)) := rfl
theorem upL_neg (ps : List Int) {a : Int} (h : a < 0) : ∀ n, upL ps n a = []
  | 0 => rfl
  | n + 1 => by rw [upL_succ, if_pos h]
def above (ps : List Int) (a : Int) : List Int := upL ps (a.toNat + 1) a
theorem isA_s {v : Value} {ps : List Int} {a b : Int} (i : Nat) (hi : L[i]? = some S) (hS : Sat e w L) (hr : ∀ g, S g → rdS 1 (intsK .i64) v ps g) (ht : okTree ps) (ha : 0 ≤ a ∧ a < ps.length) (hk : ∀ w', Sat e w' L → K (.bool (decide (b ∈ above ps a))) w') :
    Cl prog 83 #[v, .int .i64 a, .int .i64 b] w K := by
  refine tree_IsA_calls ?_
  unfold tree_IsA
  rw [zero_4]
  refine al_s (cs := [.int .i64 b]) hS rfl fun cb w1 h1 => ?_
  refine al_s (cs := [.bool false]) h1 rfl fun cr w2 h2 => ?_
  refine tree_up_calls ?_
  unfold tree_up
  refine al_s (cs := [v]) h2 ?_ fun cp w3 h3 => ?_
  · obtain ⟨A, c, rfl, _⟩ := hS.shape i hi hr
    rfl
  refine al_s (cs := [.int .i64 a]) h3 rfl fun ca w4 h4 => ?_
  refine rfC_s rfl (by kernel_rfl) h4 fun l E LR w5 Kf rule fin finr h5 => ?_
  refine tree_up_1_calls (t0 := .func (.yield l) #[] #[]) (t1 := .pointer (some ⟨ca, 0, none⟩)) (t2 := .pointer (some ⟨cp, 0, none⟩)) ?_
  unfold tree_up_1
  refine ld1_at h5 2 rfl rfl ?_
  refine ld1_at h5 3 rfl rfl ?_
  have hi6 : (lpC LR l .ready :: dfC E :: blk ca 3 [.int .i64 a] :: blk cp 22 [v] :: blk cr 4 [.bool false] :: blk cb 3 [.int .i64 b] :: L)[i + 6]? = some S := by simpa using hi
  refine lnS_rd h5 (i + 6) hi6 hr ?_
  refine ge_f (by omega) (gd_ff (ld1_at h5 3 rfl rfl (gd_ff (tree_Check_s (i + 6) hi6 h5 hr ?_))))
  have htE : treeE ps = 0 := by unfold treeE; exact if_pos ht
  rw [htE]
  repeat (first | refine gd_tt ?_ | refine gd_ff ?_ | refine gd_tf ?_ | refine gd_ft ?_ | refine gd_u ?_ | refine pk_t ?_ | refine pk_f ?_ | refine iff_t ?_ | refine iff_f ?_ | refine not_t ?_ | refine not_f ?_ | refine beq_s ?_ | refine bne_s ?_ | refine ncP_p ?_ | refine nc_p ?_ | refine fld_at ?_ | refine xt_02 ?_ | refine xt_12 ?_ | refine xt_03 ?_ | refine xt_13 ?_ | refine xt_23 ?_ | refine eq_t (by omega) ?_ | refine eq_f (by omega) ?_ | refine ne_t (by omega) ?_ | refine ne_f (by omega) ?_ | refine lt_t (by omega) ?_ | refine lt_f (by omega) ?_ | refine gt_t (by omega) ?_ | refine gt_f (by omega) ?_ | refine ge_t (by omega) ?_ | refine ge_f (by omega) ?_ | refine le_t (by omega) ?_ | refine le_f (by omega) ?_)
  refine lpi0 (fun n w => ∃ z : Int, z < n ∧ -1 ≤ z ∧ z < ps.length ∧ (b ∈ above ps a ↔ b ∈ upL ps n z) ∧
      Sat e w (lpC LR l .ready :: dfC E :: blk ca 3 [.int .i64 z] :: blk cp 22 [v] :: blk cr 4 [.bool false] :: blk cb 3 [.int .i64 b] :: L)) (a.toNat + 1) ⟨a, by omega, by omega, by omega, Iff.rfl, h5⟩ ?_
  rintro n w g1 ⟨z, hzn, hz1, hzl, hiff, h6⟩ hg
  refine ld1_at h6 2 rfl rfl ?_
  by_cases hz : 0 ≤ z
  case neg =>
    refine ge_f (by omega) (iff_f ?_)
    have hb : ¬ b ∈ above ps a := by rw [hiff, upL_neg ps (by omega)]; simp
    refine fin h6 fun w7 h7 => ?_
    refine stN_at h7 3 rfl (vs := [.bool false]) rfl rfl (by simp) (by simp [flat]) (cs' := [.bool false]) (by rfl) fun w8 h8 => ?_
    refine rdef_s h8 fun w9 h9 => ?_
    refine ld1_at h9 2 rfl rfl ?_
    have := hk _ (h9.selR [_, _, _, _] [] [] (by decide) rfl)
    rw [decide_eq_false hb] at this
    exact this
  refine ge_t (by omega) (iff_t (ld1_at h6 2 rfl rfl ?_))
  obtain ⟨m, rfl⟩ : ∃ m, n = m + 1 := ⟨n - 1, by omega⟩
  rw [upL_succ, if_neg (by omega)] at hiff
  refine rule h6 rfl ?_
  show bgn l w fun w => ld1 _ w fun t13 w => bi .eql .i64 (.int .i64 z) t13 w fun t14 w => _
  refine bgn_s h6 fun w7 h7 => ?_
  refine ld1_at h7 5 rfl rfl ?_
  refine eq_c (fun c1 => iff_t ?_) (fun c1 => iff_f ?_)
  · refine stN_at h7 4 rfl (vs := [.bool true]) rfl rfl (by simp) (by simp [flat]) (cs' := [.bool true]) (by rfl) fun w8 h8 => ?_
    refine edr_s h8 fun w9 h9 => ?_
    refine not_f (iff_t ?_)
    have hb : b ∈ above ps a := by rw [hiff, c1]; simp
    refine finr h9 fun w10 h10 => ?_
    refine rdef_s h10 fun w11 h11 => ?_
    refine ld1_at h11 2 rfl rfl ?_
    have := hk _ (h11.selR [_, _, _, _] [] [] (by decide) rfl)
    rw [decide_eq_true hb] at this
    exact this
  · refine edn_s h7 fun w9 h9 => ?_
    refine not_t (iff_f ?_)
    refine ld1_at h9 3 rfl rfl (ld1_at h9 2 rfl rfl ?_)
    obtain ⟨y, hy⟩ := get_of_lt (l := ps) (j := z.toNat) (by omega)
    have hzN : z = ((z.toNat : Nat) : Int) := by omega
    have hp := ht.2.2 z.toNat y hy
    have hpl := ht.2.1
    have hgd : ps.getD z.toNat (-1) = y := by rw [List.getD_eq_getElem?_getD, hy]; rfl
    rw [hgd] at hiff
    have hi9 : (lpC LR l .ready :: dfC E :: blk ca 3 [.int .i64 z] :: blk cp 22 [v] :: blk cr 4 [.bool false] :: blk cb 3 [.int .i64 b] :: L)[i + 6]? = some S := by simpa using hi
    rw [show Value.int .i64 z = .int .i64 ((z.toNat : Nat) : Int) from by rw [← hzN]]
    refine ixS_rd h9 (i + 6) hi9 hr (fun _ => rfl) hy fun q hq => ?_
    refine ld1_of h9 (i + 6) hi9 hq (v := .int .i64 y) rfl ?_
    refine stN_at h9 2 rfl (vs := [.int .i64 y]) rfl rfl (by simp) (by simp [flat]) (cs' := [.int .i64 y]) (by rfl) fun w10 h10 => ?_
    refine hg m _ (by omega) ⟨y, by omega, by omega, by omega, ?_, h10⟩
    rw [hiff]
    simp [Ne.symm c1]

/-! ### Who hears -/
def hearsB (ps : List Int) (c : Int) (f : Fed) : Bool := f.Subs.any fun s => decide (s ∈ above ps c)
def routesL (ps : List Int) (f c : Int) (l : List Fed) : List Int := (l.zipIdx.filter fun p => decide ((p.2 : Int) ≠ f) && hearsB ps c p.1).map fun p => (p.2 : Int)
theorem routesL_snoc (ps : List Int) (f c : Int) (l : List Fed) (x : Fed) : routesL ps f c (l ++ [x]) = routesL ps f c l ++ if (l.length : Int) ≠ f ∧ hearsB ps c x = true then [(l.length : Int)] else [] := by
  unfold routesL
  rw [List.zipIdx_append, List.filter_append, List.map_append]
  congr 1
  simp only [List.zipIdx_singleton, Nat.zero_add, List.filter_cons, List.filter_nil]
  by_cases h : (l.length : Int) ≠ f ∧ hearsB ps c x = true
  · rw [if_pos h, if_pos (by simp [h])]; rfl
  · rw [if_neg h, if_neg (by simpa using h)]; rfl
theorem routesL_len (ps : List Int) (f c : Int) (l : List Fed) : (routesL ps f c l).length ≤ l.length := by
  unfold routesL
  rw [List.length_map]
  exact Nat.le_trans (List.length_filter_le _ _) (by simp)
/-- ContainsFunc over classes, of what a closure tells. -/
theorem containsInt_s {v fv : Value} {l : List Int} {p : Int → Bool} (i : Nat) (hi : L[i]? = some S) (hS : Sat e w L) (hr : ∀ g, S g → rdS 1 (intsK .i64) v l g) (hl : l.length ≤ 1000000)
    (hp : ∀ o ∈ l, ∀ (w : World) (K : KV), Sat e w L → (∀ w', Sat e w' L → K (.bool (p o)) w') → clV prog fv #[.int .i64 o] w K)
    (hk : ∀ w', Sat e w' L → K (.bool (l.any p)) w') : Cl prog 81 #[v, fv] w K := by
  refine slices_ContainsFunc_int_int_calls ?_
  unfold slices_ContainsFunc_int_int
  refine slices_IndexFunc_int_int_calls ?_
  unfold slices_IndexFunc_int_int
  refine lnS_rd hS i hi hr ?_
  refine lpi1 (fun q t8 w => ∃ j : Nat, j ≤ l.length ∧ t8 = .int .i64 j ∧ q = l.length - j ∧ (∀ o ∈ l.take j, p o = false) ∧ Sat e w L) l.length ⟨0, Nat.zero_le _, rfl, rfl, by simp, hS⟩ ?_
  rintro q _ w g ⟨j, hj, rfl, rfl, hno, h1⟩ hg
  refine lt_c (fun c => iff_t ?_) (fun c => iff_f ?_)
  · obtain ⟨o, ho⟩ := get_of_lt (l := l) (j := j) (by omega)
    refine ixS_rd h1 i hi hr (fun _ => rfl) ho fun a ha => ?_
    refine ld1_of h1 i hi ha (v := .int .i64 o) rfl ?_
    refine hp o (List.mem_of_getElem? ho) _ _ h1 fun w2 h2 => ?_
    cases hpo : p o with
    | true =>
      refine iff_t (ge_t (by omega) ?_)
      have := hk _ h2
      rw [List.any_eq_true.2 ⟨o, List.mem_of_getElem? ho, hpo⟩] at this
      exact this
    | false =>
      refine iff_f (inc_s (by omega) ?_)
      refine hg _ _ _ (by omega) ⟨j + 1, by omega, rfl, rfl, fun y hy => ?_, h2⟩
      rw [take_snoc ho] at hy
      rcases List.mem_append.1 hy with h | h
      · exact hno y h
      · rw [List.mem_singleton.1 h]; exact hpo
  · have ej : j = l.length := by omega
    rw [ej, List.take_length] at hno
    refine ge_f (by omega) ?_
    have := hk _ h1
    rw [List.any_eq_false.2 fun o ho => by rw [hno o ho]; decide] at this
    exact this
theorem routes_s {x : WdX} {f c : Int} (i : Nat) (hi : L[i]? = some S) (hS : Sat e w L) (hr : ∀ g, S g → RdWd x g) (hs : x.short) (ht : okTree x.Parents) (hc : 0 ≤ c ∧ c < x.Parents.length)
    (hk : ∀ v w', Sat e w' (ownS 3 1 (intsK .i64) v (routesL x.w.Parents f c x.w.Feds) :: L) → K v w') : Cl prog 57 #[.agg x.cs.toArray, .int .i64 f, .int .i64 c] w K := by
  refine config_Routes_calls ?_
  unfold config_Routes
  refine al_s (cs := x.cs) hS rfl fun b w1 h1 => ?_
  refine al_s (cs := [.int .i64 c]) h1 rfl fun cb w2 h2 => ?_
  refine fld_at (ld1_at h2 1 rfl (v := x.fv) rfl ?_)
  have hi2 : (blk cb 3 [.int .i64 c] :: blk b 25 x.cs :: L)[i + 2]? = some S := by simpa using hi
  refine lnS_rd h2 (i + 2) hi2 (fun g hg => (hr g hg).feds) ?_
  have hfl := hs.feds
  rw [zero_53]
  refine lpi2 (fun q t7 t13 w => ∃ j : Nat, j ≤ x.Feds.length ∧ t13 = .int .i64 j ∧ q = x.Feds.length - j ∧ Sat e w (ownS 3 1 (intsK .i64) t7 (routesL x.Parents f c ((x.Feds.take j).map FedX.f)) :: blk cb 3 [.int .i64 c] :: blk b 25 x.cs :: L)) x.Feds.length
    ⟨0, Nat.zero_le _, rfl, rfl, h2.own_nil 3 1 (intsK .i64)⟩ ?_
  rintro q t7 _ w g ⟨j, hj, rfl, rfl, h3⟩ hg
  have hi3 : (ownS 3 1 (intsK .i64) t7 (routesL x.Parents f c ((x.Feds.take j).map FedX.f)) :: blk cb 3 [.int .i64 c] :: blk b 25 x.cs :: L)[i + 3]? = some S := by simpa using hi
  refine lt_c (fun c0 => iff_t ?_) (fun c0 => iff_f ?_)
  · obtain ⟨fd, hf⟩ := get_of_lt (l := x.Feds) (j := j) (by omega)
    have hfm := List.mem_of_getElem? hf
    have hlen : ((x.Feds.take j).map FedX.f).length = j := by rw [List.length_map, List.length_take]; omega
    have hsn : routesL x.Parents f c ((x.Feds.take (j + 1)).map FedX.f) = routesL x.Parents f c ((x.Feds.take j).map FedX.f) ++ if (j : Int) ≠ f ∧ hearsB x.Parents c fd.f = true then [(j : Int)] else [] := by
      rw [take_snoc hf, List.map_append, List.map_singleton, routesL_snoc, hlen]
    have hrl := routesL_len x.Parents f c ((x.Feds.take j).map FedX.f)
    rw [hlen] at hrl
    refine J1.cut (fun t7 w => Sat e w (ownS 3 1 (intsK .i64) t7 (routesL x.Parents f c ((x.Feds.take (j + 1)).map FedX.f)) :: blk cb 3 [.int .i64 c] :: blk b 25 x.cs :: L)) (fun k2 hcut => ?_) (fun t7 w h4 => ?_)
    · rw [hsn] at hcut
      refine ixS_rd h3 (i + 3) hi3 (fun g hg => (hr g hg).feds) (fun _ => rfl) hf fun a ha => ?_
      refine ldN_of h3 (i + 3) hi3 ha rfl ?_
      refine al_s (cs := [.int .i64 0, .int .i64 0, .int .i64 0, .slice none 0 0, .slice none 0 0, .slice none 0 0, .slice none 0 0]) h3 rfl fun t w5 h5 => ?_
      refine stN_at h5 0 rfl (vs := fd.cs) rfl rfl (by simp) (fed_cells i hi hS fun g hg => (hr g hg).fed fd hfm) (cs' := fd.cs) (by rfl) fun w6 h6 => ?_
      refine ne_c (fun c1 => ?_) (fun c1 => ?_)
      · refine gd_tt (fld_at (gd_tt (ld1_at h6 0 rfl (v := fd.sv) rfl (gd_tt (gd_tt ?_)))))
        refine containsInt_s (p := fun s => decide (s ∈ above x.Parents c)) (i + 4) (by simpa using hi) h6 (fun g hg => ((hr g hg).fed fd hfm).subs) (by have := (hs.fed fd hfm).subs; omega) (fun o ho w K h hK => ?_) fun w7 h7 => ?_
        · refine ⟨_, _, _, rfl, ?_⟩
          refine config_Routes_1_calls (t0 := .int .i64 o) (t1 := .pointer (some ⟨b, 0, none⟩)) (t2 := .pointer (some ⟨cb, 0, none⟩)) ?_
          unfold config_Routes_1
          refine fld_at (ld1_at h 3 rfl (v := x.pv) rfl ?_)
          refine ld1_at h 2 rfl rfl ?_
          exact isA_s (i + 4) (by simpa using hi) h (fun g hg => (hr g hg).par) ht hc fun w' h' => hK _ h'
        · refine pk_t (iff_b _ (fun hh => ?_) (fun hh => ?_))
          · have hh' : hearsB x.Parents c fd.f = true := hh
            rw [if_pos ⟨c1, hh'⟩] at hcut
            refine push1 te_22 (f := intsK .i64) (fun _ => rfl) (fun _ _ h => by simp [intsK] at h; subst h; rfl) (h7.pick 1 rfl) (x := (j : Int)) rfl (by omega) fun v' w8 h8 => ?_
            exact hcut _ _ (h8.selR [_, _, _, _] [_, _, _] [0, 2, 3] (by decide) rfl)
          · have hh' : ¬ hearsB x.Parents c fd.f = true := by unfold hearsB; rw [show fd.f.Subs = fd.Subs from rfl, hh]; decide
            rw [if_neg fun h => hh' h.2, List.append_nil] at hcut
            exact hcut _ _ h7.drop
      · repeat (first | refine gd_tt ?_ | refine gd_ff ?_ | refine gd_tf ?_ | refine gd_ft ?_ | refine gd_u ?_ | refine pk_t ?_ | refine pk_f ?_ | refine iff_t ?_ | refine iff_f ?_ | refine not_t ?_ | refine not_f ?_ | refine beq_s ?_ | refine bne_s ?_ | refine ncP_p ?_ | refine nc_p ?_ | refine fld_at ?_ | refine xt_02 ?_ | refine xt_12 ?_ | refine xt_03 ?_ | refine xt_13 ?_ | refine xt_23 ?_ | refine eq_t (by omega) ?_ | refine eq_f (by omega) ?_ | refine ne_t (by omega) ?_ | refine ne_f (by omega) ?_ | refine lt_t (by omega) ?_ | refine lt_f (by omega) ?_ | refine gt_t (by omega) ?_ | refine gt_f (by omega) ?_ | refine ge_t (by omega) ?_ | refine ge_f (by omega) ?_ | refine le_t (by omega) ?_ | refine le_f (by omega) ?_)
        rw [if_neg fun h => h.1 c1, List.append_nil] at hcut
        exact hcut _ _ h6.drop
    · refine inc_s (by omega) ?_
      exact hg _ _ _ _ (by omega) ⟨j + 1, by omega, rfl, rfl, h4⟩
  · have ej : j = x.Feds.length := by omega
    rw [ej, List.take_length] at h3
    exact hk _ _ (h3.selR [_, _, _] [_] [0] (by decide) rfl)
end Go.Proofs.Ytfcnjbannejchaa
