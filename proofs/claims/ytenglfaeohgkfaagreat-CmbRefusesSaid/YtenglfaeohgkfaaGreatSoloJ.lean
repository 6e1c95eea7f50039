/- What is sent, and to whom. Conditions: the federation may be. What is sent: Sent, Spread, Starts, Step. Conditions: the federation may be. Clones of slices; Starts, Step. Conditions: the lists are short. -/
import Derived.Test.YtenglfaeohgkfaaGreatSoloG
import Derived.Test.YtenglfaeohgkfaaGreatEngW
namespace Go.Proofs.YtenglfaeohgkfaaGreat
open Go Go.E
set_option maxRecDepth 100000
variable {e w : World} {L R : List HP} {K : KV} {S S2 : HP}

/-! ### Classes above -/
def upL (ps : List Int) : Nat → Int → List Int
  | 0, _ => []
  | n + 1, a => if a < 0 then [] else a :: upL ps n (ps.getD a.toNat (-1))
theorem upL_succ (ps : List Int) (n : Nat) (a : Int) : upL ps (n + 1) a = if a < 0 then [] else a :: upL ps n (ps.getD a.toNat (-1)) := rfl
theorem upL_neg (ps : List Int) {a : Int} (h : a < 0) : ∀ n, upL ps n a = []
  | 0 => rfl
  | n + 1 => by rw [upL_succ, if_pos h]
def above (ps : List Int) (a : Int) : List Int := upL ps (a.toNat + 1) a
theorem isA_s {v : Value} {ps : List Int} {a b : Int} (i : Nat) (hi : L[i]? = some S) (hS : Sat e w L) (hr : ∀ g, S g → rdS 1 (intsK .i64) v ps g) (ht : okTree ps) (ha : 0 ≤ a ∧ a < ps.length) (hk : ∀ w', Sat e w' L → K (.bool (decide (b ∈ above ps a))) w') :
    Cl prog 109 #[v, .int .i64 a, .int .i64 b] w K := by
  refine tree_IsA_calls ?_
  unfold tree_IsA
  rw [zero_4]
  refine al_s (cs := [.int .i64 b]) hS rfl fun cb w1 h1 => ?_
  refine al_s (cs := [.bool false]) h1 rfl fun cr w2 h2 => ?_
  refine tree_up_calls ?_
  unfold tree_up
  refine al_s (cs := [v]) h2 ?_ fun cp w3 h3 => ?_
  · obtain ⟨A, c, rfl, _⟩ := hS.shape i hi hr
    rfl
  refine al_s (cs := [.int .i64 a]) h3 rfl fun ca w4 h4 => ?_
  refine rfC_s rfl (by kernel_rfl) h4 fun l E LR w5 Kf rule fin finr h5 => ?_
  refine tree_up_1_calls (t0 := .func (.yield l) #[] #[]) (t1 := .pointer (some ⟨ca, 0, none⟩)) (t2 := .pointer (some ⟨cp, 0, none⟩)) ?_
  unfold tree_up_1
  refine ld1_at h5 2 rfl rfl ?_
  refine ld1_at h5 3 rfl rfl ?_
  have hi6 : (lpC LR l .ready :: dfC E :: blk ca 3 [.int .i64 a] :: blk cp 36 [v] :: blk cr 4 [.bool false] :: blk cb 3 [.int .i64 b] :: L)[i + 6]? = some S := by simpa using hi
  refine lnS_rd h5 (i + 6) hi6 hr ?_
  refine ge_f (by omega) (gd_ff (ld1_at h5 3 rfl rfl (gd_ff (tree_Check_s (i + 6) hi6 h5 hr ?_))))
  have htE : treeE ps = 0 := by unfold treeE; exact if_pos ht
  rw [htE]
  repeat (first | refine gd_tt ?_ | refine gd_ff ?_ | refine gd_tf ?_ | refine gd_ft ?_ | refine gd_u ?_ | refine pk_t ?_ | refine pk_f ?_ | refine iff_t ?_ | refine iff_f ?_ | refine not_t ?_ | refine not_f ?_ | refine beq_s ?_ | refine bne_s ?_ | refine ncP_p ?_ | refine nc_p ?_ | refine fld_at ?_ | refine xt_02 ?_ | refine xt_12 ?_ | refine xt_03 ?_ | refine xt_13 ?_ | refine xt_23 ?_ | refine eq_t (by omega) ?_ | refine eq_f (by omega) ?_ | refine ne_t (by omega) ?_ | refine ne_f (by omega) ?_ | refine lt_t (by omega) ?_ | refine lt_f (by omega) ?_ | refine gt_t (by omega) ?_ | refine gt_f (by omega) ?_ | refine ge_t (by omega) ?_ | refine ge_f (by omega) ?_ | refine le_t (by omega) ?_ | refine le_f (by omega) ?_)
  refine lpi0 (fun n w => ∃ z : Int, z < n ∧ -1 ≤ z ∧ z < ps.length ∧ (b ∈ above ps a ↔ b ∈ upL ps n z) ∧
      Sat e w (lpC LR l .ready :: dfC E :: blk ca 3 [.int .i64 z] :: blk cp 36 [v] :: blk cr 4 [.bool false] :: blk cb 3 [.int .i64 b] :: L)) (a.toNat + 1) ⟨a, by omega, by omega, by omega, Iff.rfl, h5⟩ ?_
  rintro n w g1 ⟨z, hzn, hz1, hzl, hiff, h6⟩ hg
  refine ld1_at h6 2 rfl rfl ?_
  by_cases hz : 0 ≤ z
  case neg =>
    refine ge_f (by omega) (iff_f ?_)
    have hb : ¬ b ∈ above ps a := by rw [hiff, upL_neg ps (by omega)]; simp
    refine fin h6 fun w7 h7 => ?_
    refine stN_at h7 3 rfl (vs := [.bool false]) rfl rfl (by simp) (by simp [flat]) (cs' := [.bool false]) (by rfl) fun w8 h8 => ?_
    refine rdef_s h8 fun w9 h9 => ?_
    refine ld1_at h9 2 rfl rfl ?_
    have := hk _ (h9.selR [_, _, _, _] [] [] (by decide) rfl)
    rw [decide_eq_false hb] at this
    exact this
  refine ge_t (by omega) (iff_t (ld1_at h6 2 rfl rfl ?_))
  obtain ⟨m, rfl⟩ : ∃ m, n = m + 1 := ⟨n - 1, by omega⟩
  rw [upL_succ, if_neg (by omega)] at hiff
  refine rule h6 rfl ?_
  show bgn l w fun w => ld1 _ w fun t13 w => bi .eql .i64 (.int .i64 z) t13 w fun t14 w => _
  refine bgn_s h6 fun w7 h7 => ?_
  refine ld1_at h7 5 rfl rfl ?_
  refine eq_c (fun c1 => iff_t ?_) (fun c1 => iff_f ?_)
  · refine stN_at h7 4 rfl (vs := [.bool true]) rfl rfl (by simp) (by simp [flat]) (cs' := [.bool true]) (by rfl) fun w8 h8 => ?_
    refine edr_s h8 fun w9 h9 => ?_
    refine not_f (iff_t ?_)
    have hb : b ∈ above ps a := by rw [hiff, c1]; simp
    refine finr h9 fun w10 h10 => ?_
    refine rdef_s h10 fun w11 h11 => ?_
    refine ld1_at h11 2 rfl rfl ?_
    have := hk _ (h11.selR [_, _, _, _] [] [] (by decide) rfl)
    rw [decide_eq_true hb] at this
    exact this
  · refine edn_s h7 fun w9 h9 => ?_
    refine not_t (iff_f ?_)
    refine ld1_at h9 3 rfl rfl (ld1_at h9 2 rfl rfl ?_)
    obtain ⟨y, hy⟩ := get_of_lt (l := ps) (j := z.toNat) (by omega)
    have hzN : z = ((z.toNat : Nat) : Int) := by omega
    have hp := ht.2.2 z.toNat y hy
    have hpl := ht.2.1
    have hgd : ps.getD z.toNat (-1) = y := by rw [List.getD_eq_getElem?_getD, hy]; rfl
    rw [hgd] at hiff
    have hi9 : (lpC LR l .ready :: dfC E :: blk ca 3 [.int .i64 z] :: blk cp 36 [v] :: blk cr 4 [.bool false] :: blk cb 3 [.int .i64 b] :: L)[i + 6]? = some S := by simpa using hi
    rw [show Value.int .i64 z = .int .i64 ((z.toNat : Nat) : Int) from by rw [← hzN]]
    refine ixS_rd h9 (i + 6) hi9 hr (fun _ => rfl) hy fun q hq => ?_
    refine ld1_of h9 (i + 6) hi9 hq (v := .int .i64 y) rfl ?_
    refine stN_at h9 2 rfl (vs := [.int .i64 y]) rfl rfl (by simp) (by simp [flat]) (cs' := [.int .i64 y]) (by rfl) fun w10 h10 => ?_
    refine hg m _ (by omega) ⟨y, by omega, by omega, by omega, ?_, h10⟩
    rw [hiff]
    simp [Ne.symm c1]

/-! ### Who hears -/
def hearsB (ps : List Int) (c : Int) (f : Fed) : Bool := f.Subs.any fun s => decide (s ∈ above ps c)
def routesL (ps : List Int) (f c : Int) (l : List Fed) : List Int := (l.zipIdx.filter fun p => decide ((p.2 : Int) ≠ f) && hearsB ps c p.1).map fun p => (p.2 : Int)
theorem routesL_snoc (ps : List Int) (f c : Int) (l : List Fed) (x : Fed) : routesL ps f c (l ++ [x]) = routesL ps f c l ++ if (l.length : Int) ≠ f ∧ hearsB ps c x = true then [(l.length : Int)] else [] := by
  unfold routesL
  rw [List.zipIdx_append, List.filter_append, List.map_append]
  congr 1
  simp only [List.zipIdx_singleton, Nat.zero_add, List.filter_cons, List.filter_nil]
  by_cases h : (l.length : Int) ≠ f ∧ hearsB ps c x = true
  · rw [if_pos h, if_pos (by simp [h])]; rfl
  · rw [if_neg h, if_neg (by simpa using h)]; rfl
theorem routesL_len (ps : List Int) (f c : Int) (l : List Fed) : (routesL ps f c l).length ≤ l.length := by
  unfold routesL
  rw [List.length_map]
  exact Nat.le_trans (List.length_filter_le _ _) (by simp)
/-- ContainsFunc over classes, of what a closure tells. -/
theorem containsInt_s {v fv : Value} {l : List Int} {p : Int → Bool} (i : Nat) (hi : L[i]? = some S) (hS : Sat e w L) (hr : ∀ g, S g → rdS 1 (intsK .i64) v l g) (hl : l.length ≤ 1000000)
    (hp : ∀ o ∈ l, ∀ (w : World) (K : KV), Sat e w L → (∀ w', Sat e w' L → K (.bool (p o)) w') → clV prog fv #[.int .i64 o] w K)
    (hk : ∀ w', Sat e w' L → K (.bool (l.any p)) w') : Cl prog 107 #[v, fv] w K := by
  refine slices_ContainsFunc_int_int_calls ?_
  unfold slices_ContainsFunc_int_int
  refine slices_IndexFunc_int_int_calls ?_
  unfold slices_IndexFunc_int_int
  refine lnS_rd hS i hi hr ?_
  refine lpi1 (fun q t8 w => ∃ j : Nat, j ≤ l.length ∧ t8 = .int .i64 j ∧ q = l.length - j ∧ (∀ o ∈ l.take j, p o = false) ∧ Sat e w L) l.length ⟨0, Nat.zero_le _, rfl, rfl, by simp, hS⟩ ?_
  rintro q _ w g ⟨j, hj, rfl, rfl, hno, h1⟩ hg
  refine lt_c (fun c => iff_t ?_) (fun c => iff_f ?_)
  · obtain ⟨o, ho⟩ := get_of_lt (l := l) (j := j) (by omega)
    refine ixS_rd h1 i hi hr (fun _ => rfl) ho fun a ha => ?_
    refine ld1_of h1 i hi ha (v := .int .i64 o) rfl ?_
    refine hp o (List.mem_of_getElem? ho) _ _ h1 fun w2 h2 => ?_
    cases hpo : p o with
    | true =>
      refine iff_t (ge_t (by omega) ?_)
      have := hk _ h2
      rw [List.any_eq_true.2 ⟨o, List.mem_of_getElem? ho, hpo⟩] at this
      exact this
    | false =>
      refine iff_f (inc_s (by omega) ?_)
      refine hg _ _ _ (by omega) ⟨j + 1, by omega, rfl, rfl, fun y hy => ?_, h2⟩
      rw [take_snoc ho] at hy
      rcases List.mem_append.1 hy with h | h
      · exact hno y h
      · rw [List.mem_singleton.1 h]; exact hpo
  · have ej : j = l.length := by omega
    rw [ej, List.take_length] at hno
    refine ge_f (by omega) ?_
    have := hk _ h1
    rw [List.any_eq_false.2 fun o ho => by rw [hno o ho]; decide] at this
    exact this
theorem routes_s {x : WdX} {f c : Int} (i : Nat) (hi : L[i]? = some S) (hS : Sat e w L) (hr : ∀ g, S g → RdWd x g) (hs : x.short) (ht : okTree x.Parents) (hc : 0 ≤ c ∧ c < x.Parents.length)
    (hk : ∀ v w', Sat e w' (ownS 3 1 (intsK .i64) v (routesL x.w.Parents f c x.w.Feds) :: L) → K v w') : Cl prog 76 #[.agg x.cs.toArray, .int .i64 f, .int .i64 c] w K := by
  refine config_Routes_calls ?_
  unfold config_Routes
  refine al_s (cs := x.cs) hS rfl fun b w1 h1 => ?_
  refine al_s (cs := [.int .i64 c]) h1 rfl fun cb w2 h2 => ?_
  refine fld_at (ld1_at h2 1 rfl (v := x.fv) rfl ?_)
  have hi2 : (blk cb 3 [.int .i64 c] :: blk b 39 x.cs :: L)[i + 2]? = some S := by simpa using hi
  refine lnS_rd h2 (i + 2) hi2 (fun g hg => (hr g hg).feds) ?_
  have hfl := hs.feds
  rw [zero_72]
  refine lpi2 (fun q t7 t13 w => ∃ j : Nat, j ≤ x.Feds.length ∧ t13 = .int .i64 j ∧ q = x.Feds.length - j ∧ Sat e w (ownS 3 1 (intsK .i64) t7 (routesL x.Parents f c ((x.Feds.take j).map FedX.f)) :: blk cb 3 [.int .i64 c] :: blk b 39 x.cs :: L)) x.Feds.length
    ⟨0, Nat.zero_le _, rfl, rfl, h2.own_nil 3 1 (intsK .i64)⟩ ?_
  rintro q t7 _ w g ⟨j, hj, rfl, rfl, h3⟩ hg
  have hi3 : (ownS 3 1 (intsK .i64) t7 (routesL x.Parents f c ((x.Feds.take j).map FedX.f)) :: blk cb 3 [.int .i64 c] :: blk b 39 x.cs :: L)[i + 3]? = some S := by simpa using hi
  refine lt_c (fun c0 => iff_t ?_) (fun c0 => iff_f ?_)
  · obtain ⟨fd, hf⟩ := get_of_lt (l := x.Feds) (j := j) (by omega)
    have hfm := List.mem_of_getElem? hf
    have hlen : ((x.Feds.take j).map FedX.f).length = j := by rw [List.length_map, List.length_take]; omega
    have hsn : routesL x.Parents f c ((x.Feds.take (j + 1)).map FedX.f) = routesL x.Parents f c ((x.Feds.take j).map FedX.f) ++ if (j : Int) ≠ f ∧ hearsB x.Parents c fd.f = true then [(j : Int)] else [] := by
      rw [take_snoc hf, List.map_append, List.map_singleton, routesL_snoc, hlen]
    have hrl := routesL_len x.Parents f c ((x.Feds.take j).map FedX.f)
    rw [hlen] at hrl
    refine J1.cut (fun t7 w => Sat e w (ownS 3 1 (intsK .i64) t7 (routesL x.Parents f c ((x.Feds.take (j + 1)).map FedX.f)) :: blk cb 3 [.int .i64 c] :: blk b 39 x.cs :: L)) (fun k2 hcut => ?_) (fun t7 w h4 => ?_)
    · rw [hsn] at hcut
      refine ixS_rd h3 (i + 3) hi3 (fun g hg => (hr g hg).feds) (fun _ => rfl) hf fun a ha => ?_
      refine ldN_of h3 (i + 3) hi3 ha rfl ?_
      refine al_s (cs := [.int .i64 0, .int .i64 0, .int .i64 0, .slice none 0 0, .slice none 0 0, .slice none 0 0, .slice none 0 0]) h3 rfl fun t w5 h5 => ?_
      refine stN_at h5 0 rfl (vs := fd.cs) rfl rfl (by simp) (fed_cells i hi hS fun g hg => (hr g hg).fed fd hfm) (cs' := fd.cs) (by rfl) fun w6 h6 => ?_
      refine ne_c (fun c1 => ?_) (fun c1 => ?_)
      · refine gd_tt (fld_at (gd_tt (ld1_at h6 0 rfl (v := fd.sv) rfl (gd_tt (gd_tt ?_)))))
        refine containsInt_s (p := fun s => decide (s ∈ above x.Parents c)) (i + 4) (by simpa using hi) h6 (fun g hg => ((hr g hg).fed fd hfm).subs) (by have := (hs.fed fd hfm).subs; omega) (fun o ho w K h hK => ?_) fun w7 h7 => ?_
        · refine ⟨_, _, _, rfl, ?_⟩
          refine config_Routes_1_calls (t0 := .int .i64 o) (t1 := .pointer (some ⟨b, 0, none⟩)) (t2 := .pointer (some ⟨cb, 0, none⟩)) ?_
          unfold config_Routes_1
          refine fld_at (ld1_at h 3 rfl (v := x.pv) rfl ?_)
          refine ld1_at h 2 rfl rfl ?_
          exact isA_s (i + 4) (by simpa using hi) h (fun g hg => (hr g hg).par) ht hc fun w' h' => hK _ h'
        · refine pk_t (iff_b _ (fun hh => ?_) (fun hh => ?_))
          · have hh' : hearsB x.Parents c fd.f = true := hh
            rw [if_pos ⟨c1, hh'⟩] at hcut
            refine push1 te_36 (f := intsK .i64) (fun _ => rfl) (fun _ _ h => by simp [intsK] at h; subst h; rfl) (h7.pick 1 rfl) (x := (j : Int)) rfl (by omega) fun v' w8 h8 => ?_
            exact hcut _ _ (h8.selR [_, _, _, _] [_, _, _] [0, 2, 3] (by decide) rfl)
          · have hh' : ¬ hearsB x.Parents c fd.f = true := by unfold hearsB; rw [show fd.f.Subs = fd.Subs from rfl, hh]; decide
            rw [if_neg fun h => hh' h.2, List.append_nil] at hcut
            exact hcut _ _ h7.drop
      · repeat (first | refine gd_tt ?_ | refine gd_ff ?_ | refine gd_tf ?_ | refine gd_ft ?_ | refine gd_u ?_ | refine pk_t ?_ | refine pk_f ?_ | refine iff_t ?_ | refine iff_f ?_ | refine not_t ?_ | refine not_f ?_ | refine beq_s ?_ | refine bne_s ?_ | refine ncP_p ?_ | refine nc_p ?_ | refine fld_at ?_ | refine xt_02 ?_ | refine xt_12 ?_ | refine xt_03 ?_ | refine xt_13 ?_ | refine xt_23 ?_ | refine eq_t (by omega) ?_ | refine eq_f (by omega) ?_ | refine ne_t (by omega) ?_ | refine ne_f (by omega) ?_ | refine lt_t (by omega) ?_ | refine lt_f (by omega) ?_ | refine gt_t (by omega) ?_ | refine gt_f (by omega) ?_ | refine ge_t (by omega) ?_ | refine ge_f (by omega) ?_ | refine le_t (by omega) ?_ | refine le_f (by omega) ?_)
        rw [if_neg fun h => h.1 c1, List.append_nil] at hcut
        exact hcut _ _ h6.drop
    · refine inc_s (by omega) ?_
      exact hg _ _ _ _ (by omega) ⟨j + 1, by omega, rfl, rfl, h4⟩
  · have ej : j = x.Feds.length := by omega
    rw [ej, List.take_length] at h3
    exact hk _ _ (h3.selR [_, _, _] [_] [0] (by decide) rfl)
end Go.Proofs.YtenglfaeohgkfaaGreat
namespace Go.Proofs.YtenglfaeohgkfaaGreat
open Go Go.E
set_option maxRecDepth 100000
variable {e w : World} {L R : List HP} {K : KV} {S S2 : HP}

theorem tmodK (a : Int) : ∃ k : Int, a = 1000 * k + a.tmod 1000 ∧ -999 ≤ a.tmod 1000 ∧ a.tmod 1000 ≤ 999 := by
  refine ⟨a.tdiv 1000, (Int.mul_tdiv_add_tmod a 1000).symm, ?_, ?_⟩
  · by_cases h : 0 ≤ a
    · have := Int.tmod_nonneg 1000 h; omega
    · have h1 := Int.neg_tmod a 1000
      have h2 := Int.tmod_lt_of_pos (-a) (show (0 : Int) < 1000 by decide)
      rw [h1] at h2
      omega
  · have := Int.tmod_lt_of_pos a (show (0 : Int) < 1000 by decide); omega
theorem modulo_s {n : Int} (hk : K (.int .i64 (n % 1000)) w) : Cl prog 106 #[.int .i64 n] w K := by
  refine table_modulo_calls ?_
  unfold table_modulo
  refine rem_s (by decide) ?_
  obtain ⟨k, h1, h2, h3⟩ := tmodK n
  generalize n.tmod 1000 = r at h1 h2 h3
  refine lt_c (fun c => iff_t ?_) (fun c => iff_f ?_)
  · refine add_s (by omega) (by omega) ?_
    rw [show r + 1000 = n % 1000 from by omega]
    exact hk
  · rw [show r = n % 1000 from by omega]
    exact hk
def sentM (f seq now body : Int) (o : Out) : Msg := ⟨⟨addT now o.Delay, f, seq⟩, -1, o.Class, (body + o.Add) % 1000⟩
theorem sent_s {f seq now body : Int} {o : Out} (hS : Sat e w L) (hk : ∀ w', Sat e w' L → K (.agg (sentM f seq now body o).cs.toArray) w') :
    Cl prog 75 #[.int .i64 f, .int .i64 seq, .int .i64 now, .int .i64 body, .agg o.cs.toArray] w K := by
  refine table_Sent_calls ?_
  unfold table_Sent
  refine al_s (cs := o.cs) hS rfl fun t9 w1 h1 => ?_
  rw [zero_26]
  refine al_s (cs := Msg.zero.cs) h1 rfl fun t10 w2 h2 => ?_
  refine dr_s h2 fun w3 h3 => ?_
  refine fld_at (ld1_at h3 1 rfl (v := .int .i64 o.Delay) rfl ?_)
  refine fld_at (ld1_at h3 1 rfl (v := .int .i64 o.Class) rfl ?_)
  refine fld_at (ld1_at h3 1 rfl (v := .int .i64 o.Add) rfl ?_)
  refine vtime_Add_s ?_
  have oA : ld1 (.pointer (some ⟨t9, 0 + 2, none⟩)) w3 (fun v' w'' => v' = .int .i64 o.Add ∧ w'' = w3) := ld1_at h3 1 rfl (v := .int .i64 o.Add) rfl ⟨rfl, rfl⟩
  have oC : ld1 (.pointer (some ⟨t9, 0 + 0, none⟩)) w3 (fun v' w'' => v' = .int .i64 o.Class ∧ w'' = w3) := ld1_at h3 1 rfl (v := .int .i64 o.Class) rfl ⟨rfl, rfl⟩
  have key : ∀ K : KV, K (.agg (ints [addT now o.Delay, f, seq]).toArray) w3 → bld (zeroD prog 24) #[(0, 1), (1, 1), (2, 1)] [(0, .int .i64 (addT now o.Delay)), (1, .int .i64 f), (2, .int .i64 seq)] w3 K := fun K h => bld_s (ints [addT now o.Delay, f, seq]) (by kernel_rfl) h
  have e0 : (body % 1000 + o.Add % 1000) % 1000 = (body + o.Add) % 1000 := by omega
  have fin : bld #[.int .i64 0, .int .i64 0, .int .i64 0, .int .i64 0, .int .i64 0, .int .i64 0] #[(0, 3), (3, 1), (4, 1), (5, 1)] [(0, .agg (ints [addT now o.Delay, f, seq]).toArray), (1, .int .i64 (-1)), (2, .int .i64 o.Class), (3, .int .i64 ((body % 1000 + o.Add % 1000) % 1000))] w3 fun t27 w =>
      stN 6 (.pointer (some ⟨t10, 0, none⟩)) t27 w fun _ w => ldN 6 (.pointer (some ⟨t10, 0, none⟩)) w fun r0 _ => K r0 w := by
    rw [e0]
    refine bld_s (sentM f seq now body o).cs (by kernel_rfl) ?_
    refine stN_at h3 0 rfl (vs := (sentM f seq now body o).cs) rfl rfl (by simp [ints, Msg.ns, Msg.zero]) (ints_flat _) (cs' := (sentM f seq now body o).cs) (by rfl) fun w4 h4 => ?_
    refine ldN_at h4 0 (vs := (sentM f seq now body o).cs) rfl (by rfl) rfl ?_
    exact hk _ h4.drop.drop
  have mA : ∀ K : KV, K (.int .i64 (o.Add % 1000)) w3 → Cl prog 106 #[.int .i64 o.Add] w3 K := fun K h => modulo_s h
  have mB : ∀ K : KV, K (.int .i64 (body % 1000)) w3 → Cl prog 106 #[.int .i64 body] w3 K := fun K h => modulo_s h
  have mS : ∀ K : KV, K (.int .i64 ((body % 1000 + o.Add % 1000) % 1000)) w3 → Cl prog 106 #[.int .i64 (body % 1000 + o.Add % 1000)] w3 K := fun K h => modulo_s h
  refine ⟨oA, oC, ?_, ?_⟩
  · refine key _ ⟨oA, oC, mB _ ⟨oA, oC, mA _ ⟨oC, add_s (by omega) (by omega) (mS _ ⟨oC, ?_⟩)⟩⟩⟩
    exact fin
  · refine mB _ ⟨oA, oC, key _ ⟨oA, oC, mA _ ⟨oC, add_s (by omega) (by omega) (mS _ ⟨oC, ?_⟩)⟩⟩, ?_⟩
    · exact fin
    · refine mA _ ⟨oC, add_s (by omega) (by omega) ⟨key _ ⟨oA, oC, mS _ ⟨oC, ?_⟩⟩, mS _ ⟨oC, key _ ⟨oA, oC, ?_⟩⟩⟩⟩
      · exact fin
      · exact fin

/-! ### Spread -/
def spreadL (ps : List Int) (feds : List Fed) (f seq now body : Int) (outs : List Out) : List Msg := outs.zipIdx.flatMap fun p => (routesL ps f p.1.Class feds).map fun to => { sentM f (seq + p.2) now body p.1 with To := to }
theorem spreadL_snoc (ps : List Int) (feds : List Fed) (f seq now body : Int) (outs : List Out) (o : Out) : spreadL ps feds f seq now body (outs ++ [o]) = spreadL ps feds f seq now body outs ++ (routesL ps f o.Class feds).map fun to => { sentM f (seq + outs.length) now body o with To := to } := by
  unfold spreadL
  rw [List.zipIdx_append, List.flatMap_append]
  simp
theorem spreadL_len (ps : List Int) (feds : List Fed) (f seq now body : Int) (outs : List Out) : (spreadL ps feds f seq now body outs).length ≤ outs.length * feds.length := by
  have key : ∀ (l : List (Out × Nat)), (l.flatMap fun p => (routesL ps f p.1.Class feds).map fun to => ({ sentM f (seq + p.2) now body p.1 with To := to } : Msg)).length ≤ l.length * feds.length := by
    intro l
    induction l with
    | nil => simp
    | cons p l ih =>
      rw [List.flatMap_cons, List.length_append, List.length_map, List.length_cons, Nat.add_mul]
      have := routesL_len ps f p.1.Class feds
      omega
  have := key outs.zipIdx
  rw [List.length_zipIdx] at this
  exact this
/-- What may be sent in a federation of so many classes. -/
def okSend (n : Nat) (o : Out) : Prop := 0 ≤ o.Class ∧ o.Class < n ∧ 0 ≤ o.Add
theorem spread_s {x : WdX} {f seq now body : Int} {v : Value} {outs : List Out} (i k : Nat) (hi : L[i]? = some S) (hk2 : L[k]? = some S2) (hS : Sat e w L) (hr : ∀ g, S g → RdWd x g) (hr2 : ∀ g, S2 g → rdS 3 Out.cs v outs g) (hs : x.short) (ht : okTree x.Parents)
    (ho : ∀ o ∈ outs, okSend x.Parents.length o) (hl : outs.length ≤ 1000) (hq : 0 ≤ seq ∧ seq ≤ 1125899906842624)
    (hk : ∀ v w', Sat e w' (ownS 26 6 Msg.cs v (spreadL x.w.Parents x.w.Feds f seq now body outs) :: L) → K v w') : Cl prog 43 #[.agg x.cs.toArray, .int .i64 f, .int .i64 seq, .int .i64 now, .int .i64 body, v] w K := by
  refine config_Spread_calls ?_
  unfold config_Spread
  refine al_s (cs := x.cs) hS rfl fun b w1 h1 => ?_
  have hi1 : (blk b 39 x.cs :: L)[i + 1]? = some S := by simpa using hi
  have hk1 : (blk b 39 x.cs :: L)[k + 1]? = some S2 := by simpa using hk2
  refine lnS_rd h1 (k + 1) hk1 hr2 ?_
  have hfl := hs.feds
  rw [zero_78, zero_26]
  have hflat := wd_cells i hi hS hr
  refine lpi2 (fun q t13 t21 w => ∃ j : Nat, j ≤ outs.length ∧ t21 = .int .i64 j ∧ q = outs.length - j ∧ Sat e w (ownS 26 6 Msg.cs t13 (spreadL x.w.Parents x.w.Feds f seq now body (outs.take j)) :: blk b 39 x.cs :: L)) outs.length
    ⟨0, Nat.zero_le _, rfl, rfl, h1.own_nil 26 6 Msg.cs⟩ ?_
  rintro q t13 _ w g ⟨j, hj, rfl, rfl, h2⟩ hg
  refine lt_c (fun c0 => iff_t ?_) (fun c0 => iff_f ?_)
  · obtain ⟨o, hoj⟩ := get_of_lt (l := outs) (j := j) (by omega)
    obtain ⟨o1, o2, o3⟩ := ho o (List.mem_of_getElem? hoj)
    have hlen : (outs.take j).length = j := by rw [List.length_take]; omega
    have hsn : spreadL x.w.Parents x.w.Feds f seq now body (outs.take (j + 1)) = spreadL x.w.Parents x.w.Feds f seq now body (outs.take j) ++ (routesL x.w.Parents f o.Class x.w.Feds).map fun to => { sentM f (seq + j) now body o with To := to } := by
      rw [take_snoc hoj, spreadL_snoc, hlen]
    have hsl := spreadL_len x.w.Parents x.w.Feds f seq now body (outs.take j)
    have hfl2 : x.w.Feds.length ≤ 1000 := by simp only [WdX.w, List.length_map]; exact hfl
    rw [hlen] at hsl
    have hsl2 : j * x.w.Feds.length ≤ 1000 * 1000 := Nat.mul_le_mul (by omega) hfl2
    have hi2 : (ownS 26 6 Msg.cs t13 (spreadL x.w.Parents x.w.Feds f seq now body (outs.take j)) :: blk b 39 x.cs :: L)[i + 2]? = some S := by simpa using hi
    have hk3 : (ownS 26 6 Msg.cs t13 (spreadL x.w.Parents x.w.Feds f seq now body (outs.take j)) :: blk b 39 x.cs :: L)[k + 2]? = some S2 := by simpa using hk2
    refine ixS_rd h2 (k + 2) hk3 hr2 (fun _ => rfl) hoj fun a ha => ?_
    refine ldN_of h2 (k + 2) hk3 ha rfl ?_
    refine al_s (cs := ints [0, 0, 0]) h2 rfl fun t w3 h3 => ?_
    refine stN_at h3 0 rfl (vs := o.cs) rfl rfl (by decide) (ints_flat _) (cs' := o.cs) (by rfl) fun w4 h4 => ?_
    refine add_s (by omega) (by omega) ?_
    refine ldN_at h4 0 (vs := o.cs) rfl (by rfl) rfl ?_
    refine sent_s h4 fun w5 h5 => ?_
    refine al_s (cs := Msg.zero.cs) h5 rfl fun tm w6 h6 => ?_
    generalize hm : sentM f (seq + j) now body o = m at hsn h6 ⊢
    have hmc : m.Class = o.Class := by rw [← hm]; rfl
    refine stN_at h6 0 rfl (vs := m.cs) rfl rfl (by decide) (ints_flat _) (cs' := m.cs) (by rfl) fun w7 h7 => ?_
    refine ldN_at h7 3 (vs := x.cs) rfl (by rfl) rfl ?_
    refine fld_at (ld1_at h7 0 rfl (v := .int .i64 m.Class) rfl ?_)
    rw [hmc]
    refine routes_s (x := x) (i + 4) (by simpa using hi) h7 hr hs ht ⟨o1, o2⟩ fun tv w8 h8 => ?_
    refine lnS_rd h8 0 rfl (fun g hg => own_rd hg) ?_
    generalize hrt : routesL x.w.Parents f o.Class x.w.Feds = rt at hsn h8 ⊢
    have hrtl : rt.length ≤ 1000 := by rw [← hrt]; exact Nat.le_trans (routesL_len _ _ _ _) hfl2
    refine lpi2 (fun q t13 t40 w => ∃ (n : Nat) (m' : Msg), n ≤ rt.length ∧ t40 = .int .i64 n ∧ q = rt.length - n ∧ (∀ to, { m' with To := to } = { m with To := to }) ∧
        Sat e w (ownS 26 6 Msg.cs t13 (spreadL x.w.Parents x.w.Feds f seq now body (outs.take j) ++ (rt.take n).map fun to => { m with To := to }) :: ownS 3 1 (intsK .i64) tv rt :: blk tm 26 m'.cs :: blk t 78 o.cs :: blk b 39 x.cs :: L)) rt.length
      ⟨0, m, Nat.zero_le _, rfl, rfl, fun _ => rfl, by simpa using h8.selR [_, _, _, _, _] [_, _, _, _, _] [3, 0, 1, 2, 4] (by decide) rfl⟩ ?_
    rintro q t13' _ w g2 ⟨n, m', hn, rfl, rfl, hmm, h9⟩ hg2
    refine lt_c (fun c1 => iff_t ?_) (fun c1 => iff_f ?_)
    · obtain ⟨to, hto⟩ := get_of_lt (l := rt) (j := n) (by omega)
      refine ixS_rd h9 1 rfl (fun g hg => own_rd hg) (fun _ => rfl) hto fun a ha => ?_
      refine ld1_of h9 1 rfl ha (v := .int .i64 to) rfl ?_
      refine fld_at (stN_at h9 2 rfl (vs := ints [to]) rfl rfl (Nat.le_of_ble_eq_true rfl) (ints_flat _) (cs' := ({ m' with To := to } : Msg).cs) (by rfl) fun w10 h10 => ?_)
      refine ldN_at h10 2 (vs := ({ m' with To := to } : Msg).cs) rfl (by rfl) rfl ?_
      refine push1 te_47 (f := Msg.cs) (fun _ => rfl) (fun _ => ints_flat _) h10 (x := { m' with To := to }) rfl (by rw [List.length_append, List.length_map, List.length_take]; omega) fun v' w11 h11 => ?_
      refine inc_s (by omega) ?_
      refine hg2 _ _ _ _ (by omega) ⟨n + 1, { m' with To := to }, by omega, rfl, rfl, fun to' => hmm to', ?_⟩
      rw [take_snoc hto, List.map_append, ← List.append_assoc, List.map_singleton, ← hmm to]
      exact h11
    · have en : n = rt.length := by omega
      rw [en, List.take_length, ← hsn] at h9
      refine inc_s (by omega) ?_
      exact hg _ _ _ _ (by omega) ⟨j + 1, by omega, rfl, rfl, h9.selR [_, _, _, _, _] [_, _] [0, 4] (by decide) rfl⟩
  · have ej : j = outs.length := by omega
    rw [ej, List.take_length] at h2
    exact hk _ _ (h2.selR [_, _] [_] [0] (by decide) rfl)
end Go.Proofs.YtenglfaeohgkfaaGreat
namespace Go.Proofs.YtenglfaeohgkfaaGreat
open Go Go.E
set_option maxRecDepth 100000
variable {e w : World} {L R : List HP} {K : KV} {S S2 : HP}

structure Done where
  m : Msg
  st : Int
  deriving DecidableEq
def Done.ns (d : Done) : List Int := [d.m.key.T, d.m.key.From, d.m.key.Seq, d.m.To, d.m.Class, d.m.Body, d.st]
abbrev Done.cs (d : Done) : List Value := ints d.ns
def Done.zero : Done := ⟨Msg.zero, 0⟩
theorem Done.eq_ns (a b : Done) : (a.ns == b.ns) = decide (a = b) := by
  rw [Bool.eq_iff_iff]
  obtain ⟨⟨⟨a1, a2, a3⟩, a4, a5, a6⟩, a7⟩ := a
  obtain ⟨⟨⟨b1, b2, b3⟩, b4, b5, b6⟩, b7⟩ := b
  simp [Done.ns, and_assoc]
theorem rd_nil {α : Type} {size : Nat} {f : α → List Value} {n c : Nat} {l : List α} (hS : Sat e w (S :: R)) (hr : ∀ g, S g → rdS size f (.slice none n c) l g) : l = [] := by
  obtain ⟨g, hg, _⟩ := hS.get 0 rfl
  obtain ⟨A', c', h1, h2, h3⟩ := hr g hg
  injection h1 with e1 e2 e3
  by_cases h0 : 0 < l.length
  · obtain ⟨a, ha, _⟩ := h3 h0
    rw [← e1] at ha
    cases ha
  · exact List.length_eq_zero_iff.1 (by omega)
theorem clone_ints_s {v : Value} {l : List Int} (hl : l.length ≤ 1000000) (hff : ∀ x ∈ l, ∀ v ∈ (intsK .i64) x, flat v = true) (hS : Sat e w (S :: R)) (hr : ∀ g, S g → rdS 1 (intsK .i64) v l g)
    (hk : ∀ v' w', Sat e w' (ownS 3 1 (intsK .i64) v' l :: S :: R) → K v' w') : Cl prog 62 #[v] w K := by
  refine slices_Clone_int_int_calls ?_
  unfold slices_Clone_int_int
  obtain ⟨A, c, rfl, _⟩ := hS.shape 0 rfl hr
  cases A with
  | none =>
    refine ex_oV (w' := w) (v := .bool true) (by kernel_rfl) ?_
    obtain rfl := rd_nil hS hr
    exact iff_t (hk _ _ (hS.own_nil 3 1 (intsK .i64)))
  | some a =>
    refine ex_oV (w' := w) (v := .bool false) (by kernel_rfl) ?_
    refine iff_f ?_
    refine bsl0 hS (intsK .i64) fun v1 w2 h2 => ?_
    refine apS_ownM te_36 und_36 (f := (intsK .i64)) (fun _ => rfl) hff h2 hr (by simp; omega) fun v2 w3 h3 => ?_
    rw [List.nil_append] at h3
    exact hk _ _ h3
theorem clone_outs_s {v : Value} {l : List Out} (hl : l.length ≤ 1000000) (hff : ∀ x ∈ l, ∀ v ∈ Out.cs x, flat v = true) (hS : Sat e w (S :: R)) (hr : ∀ g, S g → rdS 3 Out.cs v l g)
    (hk : ∀ v' w', Sat e w' (ownS 78 3 Out.cs v' l :: S :: R) → K v' w') : Cl prog 64 #[v] w K := by
  refine slices_Clone_api_Out_api_Out_calls ?_
  unfold slices_Clone_api_Out_api_Out
  obtain ⟨A, c, rfl, _⟩ := hS.shape 0 rfl hr
  cases A with
  | none =>
    refine ex_oV (w' := w) (v := .bool true) (by kernel_rfl) ?_
    obtain rfl := rd_nil hS hr
    exact iff_t (hk _ _ (hS.own_nil 78 3 Out.cs))
  | some a =>
    refine ex_oV (w' := w) (v := .bool false) (by kernel_rfl) ?_
    refine iff_f ?_
    refine bsl0 hS Out.cs fun v1 w2 h2 => ?_
    refine apS_ownM te_70 und_70 (f := Out.cs) (fun _ => rfl) hff h2 hr (by simp; omega) fun v2 w3 h3 => ?_
    rw [List.nil_append] at h3
    exact hk _ _ h3
theorem clone_rules_s {v : Value} {l : List RuleX} (hl : l.length ≤ 1000000) (hff : ∀ x ∈ l, ∀ v ∈ RuleX.cs x, flat v = true) (hS : Sat e w (S :: R)) (hr : ∀ g, S g → rdS 4 RuleX.cs v l g)
    (hk : ∀ v' w', Sat e w' (ownS 80 4 RuleX.cs v' l :: S :: R) → K v' w') : Cl prog 65 #[v] w K := by
  refine slices_Clone_api_Rule_api_Rule_calls ?_
  unfold slices_Clone_api_Rule_api_Rule
  obtain ⟨A, c, rfl, _⟩ := hS.shape 0 rfl hr
  cases A with
  | none =>
    refine ex_oV (w' := w) (v := .bool true) (by kernel_rfl) ?_
    obtain rfl := rd_nil hS hr
    exact iff_t (hk _ _ (hS.own_nil 80 4 RuleX.cs))
  | some a =>
    refine ex_oV (w' := w) (v := .bool false) (by kernel_rfl) ?_
    refine iff_f ?_
    refine bsl0 hS RuleX.cs fun v1 w2 h2 => ?_
    refine apS_ownM te_69 und_69 (f := RuleX.cs) (fun _ => rfl) hff h2 hr (by simp; omega) fun v2 w3 h3 => ?_
    rw [List.nil_append] at h3
    exact hk _ _ h3
theorem clone_feds_s {v : Value} {l : List FedX} (hl : l.length ≤ 1000000) (hff : ∀ x ∈ l, ∀ v ∈ FedX.cs x, flat v = true) (hS : Sat e w (S :: R)) (hr : ∀ g, S g → rdS 7 FedX.cs v l g)
    (hk : ∀ v' w', Sat e w' (ownS 72 7 FedX.cs v' l :: S :: R) → K v' w') : Cl prog 63 #[v] w K := by
  refine slices_Clone_api_Fed_api_Fed_calls ?_
  unfold slices_Clone_api_Fed_api_Fed
  obtain ⟨A, c, rfl, _⟩ := hS.shape 0 rfl hr
  cases A with
  | none =>
    refine ex_oV (w' := w) (v := .bool true) (by kernel_rfl) ?_
    obtain rfl := rd_nil hS hr
    exact iff_t (hk _ _ (hS.own_nil 72 7 FedX.cs))
  | some a =>
    refine ex_oV (w' := w) (v := .bool false) (by kernel_rfl) ?_
    refine iff_f ?_
    refine bsl0 hS FedX.cs fun v1 w2 h2 => ?_
    refine apS_ownM te_37 und_37 (f := FedX.cs) (fun _ => rfl) hff h2 hr (by simp; omega) fun v2 w3 h3 => ?_
    rw [List.nil_append] at h3
    exact hk _ _ h3
theorem clone_dones_s {v : Value} {l : List Done} (hl : l.length ≤ 1000000) (hff : ∀ x ∈ l, ∀ v ∈ Done.cs x, flat v = true) (hS : Sat e w (S :: R)) (hr : ∀ g, S g → rdS 7 Done.cs v l g)
    (hk : ∀ v' w', Sat e w' (ownS 46 7 Done.cs v' l :: S :: R) → K v' w') : Cl prog 49 #[v] w K := by
  refine slices_Clone_api_Done_api_Done_calls ?_
  unfold slices_Clone_api_Done_api_Done
  obtain ⟨A, c, rfl, _⟩ := hS.shape 0 rfl hr
  cases A with
  | none =>
    refine ex_oV (w' := w) (v := .bool true) (by kernel_rfl) ?_
    obtain rfl := rd_nil hS hr
    exact iff_t (hk _ _ (hS.own_nil 46 7 Done.cs))
  | some a =>
    refine ex_oV (w' := w) (v := .bool false) (by kernel_rfl) ?_
    refine iff_f ?_
    refine bsl0 hS Done.cs fun v1 w2 h2 => ?_
    refine apS_ownM te_55 und_55 (f := Done.cs) (fun _ => rfl) hff h2 hr (by simp; omega) fun v2 w3 h3 => ?_
    rw [List.nil_append] at h3
    exact hk _ _ h3
/-! ### The first messages -/
def startsL (ps : List Int) (feds : List Fed) (l : List Fed) : List Msg := l.zipIdx.flatMap fun p => spreadL ps feds (p.2 : Int) 0 0 0 p.1.Init
theorem startsL_snoc (ps : List Int) (feds : List Fed) (l : List Fed) (x : Fed) : startsL ps feds (l ++ [x]) = startsL ps feds l ++ spreadL ps feds (l.length : Int) 0 0 0 x.Init := by
  unfold startsL
  rw [List.zipIdx_append, List.flatMap_append]
  simp
/-! ### A step of a table -/
def stepR (l : List Rule) (s c : Int) : Int × List Out := match l.find? fun r => decide (r.State = s) && decide (r.Class = c) with
  | some r => (r.Next, r.Sends)
  | none => (s, [])
theorem stepR_none {l : List RuleX} {s c : Int} (h : ∀ r ∈ l, ¬ isOn s c r) : stepR (l.map RuleX.r) s c = (s, []) := by
  unfold stepR
  rw [List.find?_eq_none.2]
  intro r hr
  obtain ⟨x, hx, rfl⟩ := List.mem_map.1 hr
  have := h x hx
  unfold isOn at this
  intro hd
  rw [Bool.and_eq_true] at hd
  exact this ⟨of_decide_eq_true hd.1, of_decide_eq_true hd.2⟩
theorem stepR_some {l : List RuleX} {s c : Int} {j : Nat} {r : RuleX} (hj : l[j]? = some r) (hon : isOn s c r) (hlo : ∀ y ∈ l.take j, ¬ isOn s c y) : stepR (l.map RuleX.r) s c = (r.Next, r.Sends) := by
  unfold stepR
  have hsp : l.map RuleX.r = (l.take j).map RuleX.r ++ r.r :: (l.drop (j + 1)).map RuleX.r := by
    conv => lhs; rw [take_split hj]
    simp
  rw [hsp, List.find?_append]
  have h1 : ((l.take j).map RuleX.r).find? (fun r => decide (r.State = s) && decide (r.Class = c)) = none := by
    rw [List.find?_eq_none]
    intro r hr
    obtain ⟨x, hx, rfl⟩ := List.mem_map.1 hr
    have := hlo x hx
    unfold isOn at this
    intro hd
    rw [Bool.and_eq_true] at hd
    exact this ⟨of_decide_eq_true hd.1, of_decide_eq_true hd.2⟩
  unfold isOn at hon
  rw [h1, Option.none_or, List.find?_cons_of_pos (by simp [RuleX.r, hon])]
  rfl
theorem table_Step_s {v : Value} {l : List RuleX} {s c : Int} (hS : Sat e w (S :: R)) (hr : ∀ g, S g → RdRules v l g) (hl : l.length ≤ 1000) (hl2 : ∀ r ∈ l, r.Sends.length ≤ 1000)
    (hk : ∀ v' w', Sat e w' (ownS 78 3 Out.cs v' (stepR (l.map RuleX.r) s c).2 :: S :: R) → K (.tuple #[.int .i64 (stepR (l.map RuleX.r) s c).1, v']) w') : Cl prog 42 #[v, .int .i64 s, .int .i64 c] w K := by
  refine table_Step_calls ?_
  unfold table_Step
  refine table_Find_calls ?_
  unfold table_Find
  refine al_s (cs := [.int .i64 s]) hS rfl fun bs w1 h1 => ?_
  refine al_s (cs := [.int .i64 c]) h1 rfl fun bc w2 h2 => ?_
  refine slices_IndexFunc_api_Rule_api_Rule_calls ?_
  unfold slices_IndexFunc_api_Rule_api_Rule
  refine lnS_rd h2 2 rfl (fun g hg => (hr g hg).s) ?_
  refine lpi1 (fun q t8 w => ∃ j : Nat, j ≤ l.length ∧ t8 = .int .i64 j ∧ q = l.length - j ∧ (∀ y ∈ l.take j, ¬ isOn s c y) ∧ Sat e w (blk bc 3 [.int .i64 c] :: blk bs 3 [.int .i64 s] :: S :: R)) l.length ⟨0, Nat.zero_le _, rfl, rfl, by simp, h2⟩ ?_
  rintro q _ w g ⟨j, hj, rfl, rfl, hlo, h3⟩ hg
  refine lt_c (fun c0 => iff_t ?_) (fun c0 => iff_f ?_)
  · obtain ⟨r, hrj⟩ := get_of_lt (l := l) (j := j) (by omega)
    have hrm := List.mem_of_getElem? hrj
    refine ixS_rd h3 2 rfl (fun g hg => (hr g hg).s) (fun _ => rfl) hrj fun a ha => ?_
    refine ldN_of h3 2 rfl ha rfl ?_
    refine ⟨_, _, _, rfl, ?_⟩
    refine table_Find_1_calls (t0 := .agg r.cs.toArray) (t1 := .pointer (some ⟨bs, 0, none⟩)) (t2 := .pointer (some ⟨bc, 0, none⟩)) ?_
    unfold table_Find_1
    refine al_s (cs := r.cs) h3 rfl fun t w4 h4 => ?_
    refine fld_at (ld1_at h4 0 rfl (v := .int .i64 r.State) rfl ?_)
    refine ld1_at h4 2 rfl rfl ?_
    have hnext : ¬ isOn s c r → bi .add .i64 (.int .i64 j) (.int .i64 1) w4 fun t18 w => g [t18] w := by
      intro h
      refine inc_s (by omega) ?_
      refine hg _ _ _ (by omega) ⟨j + 1, by omega, rfl, rfl, fun y hy => ?_, h4.drop⟩
      rw [take_snoc hrj] at hy
      rcases List.mem_append.1 hy with h' | h'
      · exact hlo y h'
      · rw [List.mem_singleton.1 h']; exact h
    refine eq_c (fun c1 => ?_) (fun c1 => ?_)
    · refine gd_tt (fld_at (gd_tt (ld1_at h4 0 rfl (v := .int .i64 r.Class) rfl (gd_tt (ld1_at h4 1 rfl rfl ?_)))))
      refine gd_tt (eq_c (fun c2 => ?_) (fun c2 => ?_))
      · refine pk_t (iff_t (lt_f (by omega) (iff_f ?_)))
        rw [stepR_some hrj ⟨c1, c2⟩ hlo] at hk
        refine dr_s h4.drop.drop.drop fun w5 h5 => ?_
        refine ixS_rd h5 0 rfl (fun g hg => (hr g hg).s) (fun _ => rfl) hrj fun a ha => ?_
        refine fld_of ha fun a1 ha1 => ?_
        refine ld1_of h5 0 rfl ha1 (v := .int .i64 r.Next) rfl ?_
        refine ixS_rd h5 0 rfl (fun g hg => (hr g hg).s) (fun _ => rfl) hrj fun a2 ha2 => ?_
        refine fld_of ha2 fun a3 ha3 => ?_
        refine ld1_of h5 0 rfl ha3 (v := r.sv) rfl ?_
        refine clone_outs_s (by have := hl2 r hrm; omega) (fun _ _ => ints_flat _) h5 (fun g hg => (hr g hg).e r hrm) fun v' w6 h6 => ?_
        exact ⟨ld1_of h6 1 rfl ha1 (v := .int .i64 r.Next) rfl ⟨rfl, rfl⟩, hk _ _ h6⟩
      · exact pk_t (iff_f (hnext fun h => c2 h.2))
    · repeat (first | refine gd_tt ?_ | refine gd_ff ?_ | refine gd_tf ?_ | refine gd_ft ?_ | refine gd_u ?_ | refine pk_t ?_ | refine pk_f ?_ | refine iff_t ?_ | refine iff_f ?_ | refine not_t ?_ | refine not_f ?_ | refine beq_s ?_ | refine bne_s ?_ | refine ncP_p ?_ | refine nc_p ?_ | refine fld_at ?_ | refine xt_02 ?_ | refine xt_12 ?_ | refine xt_03 ?_ | refine xt_13 ?_ | refine xt_23 ?_ | refine eq_t (by omega) ?_ | refine eq_f (by omega) ?_ | refine ne_t (by omega) ?_ | refine ne_f (by omega) ?_ | refine lt_t (by omega) ?_ | refine lt_f (by omega) ?_ | refine gt_t (by omega) ?_ | refine gt_f (by omega) ?_ | refine ge_t (by omega) ?_ | refine ge_f (by omega) ?_ | refine le_t (by omega) ?_ | refine le_f (by omega) ?_)
      exact hnext fun h => c1 h.1
  · have ej : j = l.length := by omega
    rw [ej, List.take_length] at hlo
    rw [stepR_none hlo] at hk
    refine lt_t (by omega) (iff_t ?_)
    exact hk _ _ (h3.drop.drop.own_nil 78 3 Out.cs)
end Go.Proofs.YtenglfaeohgkfaaGreat
