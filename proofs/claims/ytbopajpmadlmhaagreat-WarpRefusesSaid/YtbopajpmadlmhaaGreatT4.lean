/- Texts of the proof, joined: SoloJ, TimeB, EngS, SoloL, SoloO, ClockA, ClockL, PrioA, PrioD, PrioQ, PastA, PastB, GateA. Conditions: none. -/
import Derived.Test.YtbopajpmadlmhaaGreatT3
section
namespace Go.Proofs.YtbopajpmadlmhaaGreat
open Go Go.E
set_option maxRecDepth 100000
variable {e w : World} {L R : List HP} {K : KV} {S S2 : HP}

def upL (ps : List Int) : Nat → Int → List Int
  | 0, _ => []
  | n + 1, a => if a < 0 then [] else a :: upL ps n (ps.getD a.toNat (-1))
theorem upL_succ (ps : List Int) (n : Nat) (a : Int) : upL ps (n + 1) a = if a < 0 then [] else a :: upL ps n (ps.getD a.toNat (-1)) := rfl
theorem upL_neg (ps : List Int) {a : Int} (h : a < 0) : ∀ n, upL ps n a = []
  | 0 => rfl
  | n + 1 => by rw [upL_succ, if_pos h]
def above (ps : List Int) (a : Int) : List Int := upL ps (a.toNat + 1) a
theorem isA_s {v : Value} {ps : List Int} {a b : Int} (i : Nat) (hi : L[i]? = some S) (hS : Sat e w L) (hr : ∀ g, S g → rdS 1 (intsK .i64) v ps g) (ht : okTree ps) (ha : 0 ≤ a ∧ a < ps.length) (hk : ∀ w', Sat e w' L → K (.bool (decide (b ∈ above ps a))) w') :
    Cl prog 158 #[v, .int .i64 a, .int .i64 b] w K := by
  refine tree_IsA_calls ?_
  unfold tree_IsA
  rw [zero_4]
  refine al_s (cs := [.int .i64 b]) hS rfl fun cb w1 h1 => ?_
  refine al_s (cs := [.bool false]) h1 rfl fun cr w2 h2 => ?_
  refine tree_up_calls ?_
  unfold tree_up
  refine al_s (cs := [v]) h2 ?_ fun cp w3 h3 => ?_
  · obtain ⟨A, c, rfl, _⟩ := hS.shape i hi hr
    rfl
  refine al_s (cs := [.int .i64 a]) h3 rfl fun ca w4 h4 => ?_
  refine rfC_s rfl (by kernel_rfl) h4 fun l E LR w5 Kf rule fin finr h5 => ?_
  refine tree_up_1_calls (t0 := .func (.yield l) #[] #[]) (t1 := .pointer (some ⟨ca, 0, none⟩)) (t2 := .pointer (some ⟨cp, 0, none⟩)) ?_
  unfold tree_up_1
  refine ld1_at h5 2 rfl rfl ?_
  refine ld1_at h5 3 rfl rfl ?_
  have hi6 : (lpC LR l .ready :: dfC E :: blk ca 3 [.int .i64 a] :: blk cp 24 [v] :: blk cr 4 [.bool false] :: blk cb 3 [.int .i64 b] :: L)[i + 6]? = some S := by simpa using hi
  refine lnS_rd h5 (i + 6) hi6 hr ?_
  refine ge_f (by omega) (gd_ff (ld1_at h5 3 rfl rfl (gd_ff (tree_Check_s (i + 6) hi6 h5 hr ?_))))
  have htE : treeE ps = 0 := by unfold treeE; exact if_pos ht
  rw [htE]
  repeat (first | refine gd_tt ?_ | refine gd_ff ?_ | refine gd_tf ?_ | refine gd_ft ?_ | refine gd_u ?_ | refine pk_t ?_ | refine pk_f ?_ | refine iff_t ?_ | refine iff_f ?_ | refine not_t ?_ | refine not_f ?_ | refine beq_s ?_ | refine bne_s ?_ | refine ncP_p ?_ | refine nc_p ?_ | refine fld_at ?_ | refine xt_02 ?_ | refine xt_12 ?_ | refine xt_03 ?_ | refine xt_13 ?_ | refine xt_23 ?_ | refine eq_t (by omega) ?_ | refine eq_f (by omega) ?_ | refine ne_t (by omega) ?_ | refine ne_f (by omega) ?_ | refine lt_t (by omega) ?_ | refine lt_f (by omega) ?_ | refine gt_t (by omega) ?_ | refine gt_f (by omega) ?_ | refine ge_t (by omega) ?_ | refine ge_f (by omega) ?_ | refine le_t (by omega) ?_ | refine le_f (by omega) ?_)
  refine lpi0 (fun n w => ∃ z : Int, z < n ∧ -1 ≤ z ∧ z < ps.length ∧ (b ∈ above ps a ↔ b ∈ upL ps n z) ∧
      Sat e w (lpC LR l .ready :: dfC E :: blk ca 3 [.int .i64 z] :: blk cp 24 [v] :: blk cr 4 [.bool false] :: blk cb 3 [.int .i64 b] :: L)) (a.toNat + 1) ⟨a, by omega, by omega, by omega, Iff.rfl, h5⟩ ?_
  rintro n w g1 ⟨z, hzn, hz1, hzl, hiff, h6⟩ hg
  refine ld1_at h6 2 rfl rfl ?_
  by_cases hz : 0 ≤ z
  case neg =>
    refine ge_f (by omega) (iff_f ?_)
    have hb : ¬ b ∈ above ps a := by rw [hiff, upL_neg ps (by omega)]; simp
    refine fin h6 fun w7 h7 => ?_
    refine stN_at h7 3 rfl (vs := [.bool false]) rfl rfl (by simp) (by simp [flat]) (cs' := [.bool false]) (by rfl) fun w8 h8 => ?_
    refine rdef_s h8 fun w9 h9 => ?_
    refine ld1_at h9 2 rfl rfl ?_
    have := hk _ (h9.selR [_, _, _, _] [] [] (by decide) rfl)
    rw [decide_eq_false hb] at this
    exact this
  refine ge_t (by omega) (iff_t (ld1_at h6 2 rfl rfl ?_))
  obtain ⟨m, rfl⟩ : ∃ m, n = m + 1 := ⟨n - 1, by omega⟩
  rw [upL_succ, if_neg (by omega)] at hiff
  refine rule h6 rfl ?_
  show bgn l w fun w => ld1 _ w fun t13 w => bi .eql .i64 (.int .i64 z) t13 w fun t14 w => _
  refine bgn_s h6 fun w7 h7 => ?_
  refine ld1_at h7 5 rfl rfl ?_
  refine eq_c (fun c1 => iff_t ?_) (fun c1 => iff_f ?_)
  · refine stN_at h7 4 rfl (vs := [.bool true]) rfl rfl (by simp) (by simp [flat]) (cs' := [.bool true]) (by rfl) fun w8 h8 => ?_
    refine edr_s h8 fun w9 h9 => ?_
    refine not_f (iff_t ?_)
    have hb : b ∈ above ps a := by rw [hiff, c1]; simp
    refine finr h9 fun w10 h10 => ?_
    refine rdef_s h10 fun w11 h11 => ?_
    refine ld1_at h11 2 rfl rfl ?_
    have := hk _ (h11.selR [_, _, _, _] [] [] (by decide) rfl)
    rw [decide_eq_true hb] at this
    exact this
  · refine edn_s h7 fun w9 h9 => ?_
    refine not_t (iff_f ?_)
    refine ld1_at h9 3 rfl rfl (ld1_at h9 2 rfl rfl ?_)
    obtain ⟨y, hy⟩ := get_of_lt (l := ps) (j := z.toNat) (by omega)
    have hzN : z = ((z.toNat : Nat) : Int) := by omega
    have hp := ht.2.2 z.toNat y hy
    have hpl := ht.2.1
    have hgd : ps.getD z.toNat (-1) = y := by rw [List.getD_eq_getElem?_getD, hy]; rfl
    rw [hgd] at hiff
    have hi9 : (lpC LR l .ready :: dfC E :: blk ca 3 [.int .i64 z] :: blk cp 24 [v] :: blk cr 4 [.bool false] :: blk cb 3 [.int .i64 b] :: L)[i + 6]? = some S := by simpa using hi
    rw [show Value.int .i64 z = .int .i64 ((z.toNat : Nat) : Int) from by rw [← hzN]]
    refine ixS_rd h9 (i + 6) hi9 hr (fun _ => rfl) hy fun q hq => ?_
    refine ld1_of h9 (i + 6) hi9 hq (v := .int .i64 y) rfl ?_
    refine stN_at h9 2 rfl (vs := [.int .i64 y]) rfl rfl (by simp) (by simp [flat]) (cs' := [.int .i64 y]) (by rfl) fun w10 h10 => ?_
    refine hg m _ (by omega) ⟨y, by omega, by omega, by omega, ?_, h10⟩
    rw [hiff]
    simp [Ne.symm c1]

def hearsB (ps : List Int) (c : Int) (f : Fed) : Bool := f.Subs.any fun s => decide (s ∈ above ps c)
def routesL (ps : List Int) (f c : Int) (l : List Fed) : List Int := (l.zipIdx.filter fun p => decide ((p.2 : Int) ≠ f) && hearsB ps c p.1).map fun p => (p.2 : Int)
theorem routesL_snoc (ps : List Int) (f c : Int) (l : List Fed) (x : Fed) : routesL ps f c (l ++ [x]) = routesL ps f c l ++ if (l.length : Int) ≠ f ∧ hearsB ps c x = true then [(l.length : Int)] else [] := by
  unfold routesL
  rw [List.zipIdx_append, List.filter_append, List.map_append]
  congr 1
  simp only [List.zipIdx_singleton, Nat.zero_add, List.filter_cons, List.filter_nil]
  by_cases h : (l.length : Int) ≠ f ∧ hearsB ps c x = true
  · rw [if_pos h, if_pos (by simp [h])]; rfl
  · rw [if_neg h, if_neg (by simpa using h)]; rfl
theorem routesL_len (ps : List Int) (f c : Int) (l : List Fed) : (routesL ps f c l).length ≤ l.length := by
  unfold routesL
  rw [List.length_map]
  exact Nat.le_trans (List.length_filter_le _ _) (by simp)
theorem containsInt_s {v fv : Value} {l : List Int} {p : Int → Bool} (i : Nat) (hi : L[i]? = some S) (hS : Sat e w L) (hr : ∀ g, S g → rdS 1 (intsK .i64) v l g) (hl : l.length ≤ 1000000)
    (hp : ∀ o ∈ l, ∀ (w : World) (K : KV), Sat e w L → (∀ w', Sat e w' L → K (.bool (p o)) w') → clV prog fv #[.int .i64 o] w K)
    (hk : ∀ w', Sat e w' L → K (.bool (l.any p)) w') : Cl prog 156 #[v, fv] w K := by
  refine slices_ContainsFunc_int_int_calls ?_
  unfold slices_ContainsFunc_int_int
  refine slices_IndexFunc_int_int_calls ?_
  unfold slices_IndexFunc_int_int
  refine lnS_rd hS i hi hr ?_
  refine lpi1 (fun q t8 w => ∃ j : Nat, j ≤ l.length ∧ t8 = .int .i64 j ∧ q = l.length - j ∧ (∀ o ∈ l.take j, p o = false) ∧ Sat e w L) l.length ⟨0, Nat.zero_le _, rfl, rfl, by simp, hS⟩ ?_
  rintro q _ w g ⟨j, hj, rfl, rfl, hno, h1⟩ hg
  refine lt_c (fun c => iff_t ?_) (fun c => iff_f ?_)
  · obtain ⟨o, ho⟩ := get_of_lt (l := l) (j := j) (by omega)
    refine ixS_rd h1 i hi hr (fun _ => rfl) ho fun a ha => ?_
    refine ld1_of h1 i hi ha (v := .int .i64 o) rfl ?_
    refine hp o (List.mem_of_getElem? ho) _ _ h1 fun w2 h2 => ?_
    cases hpo : p o with
    | true =>
      refine iff_t (ge_t (by omega) ?_)
      have := hk _ h2
      rw [List.any_eq_true.2 ⟨o, List.mem_of_getElem? ho, hpo⟩] at this
      exact this
    | false =>
      refine iff_f (inc_s (by omega) ?_)
      refine hg _ _ _ (by omega) ⟨j + 1, by omega, rfl, rfl, fun y hy => ?_, h2⟩
      rw [take_snoc ho] at hy
      rcases List.mem_append.1 hy with h | h
      · exact hno y h
      · rw [List.mem_singleton.1 h]; exact hpo
  · have ej : j = l.length := by omega
    rw [ej, List.take_length] at hno
    refine ge_f (by omega) ?_
    have := hk _ h1
    rw [List.any_eq_false.2 fun o ho => by rw [hno o ho]; decide] at this
    exact this
theorem routes_s {x : WdX} {f c : Int} (i : Nat) (hi : L[i]? = some S) (hS : Sat e w L) (hr : ∀ g, S g → RdWd x g) (hs : x.short) (ht : okTree x.Parents) (hc : 0 ≤ c ∧ c < x.Parents.length)
    (hk : ∀ v w', Sat e w' (ownS 3 1 (intsK .i64) v (routesL x.w.Parents f c x.w.Feds) :: L) → K v w') : Cl prog 110 #[.agg x.cs.toArray, .int .i64 f, .int .i64 c] w K := by
  refine config_Routes_calls ?_
  unfold config_Routes
  refine al_s (cs := x.cs) hS rfl fun b w1 h1 => ?_
  refine al_s (cs := [.int .i64 c]) h1 rfl fun cb w2 h2 => ?_
  refine fld_at (ld1_at h2 1 rfl (v := x.fv) rfl ?_)
  have hi2 : (blk cb 3 [.int .i64 c] :: blk b 27 x.cs :: L)[i + 2]? = some S := by simpa using hi
  refine lnS_rd h2 (i + 2) hi2 (fun g hg => (hr g hg).feds) ?_
  have hfl := hs.feds
  rw [zero_66]
  refine lpi2 (fun q t7 t13 w => ∃ j : Nat, j ≤ x.Feds.length ∧ t13 = .int .i64 j ∧ q = x.Feds.length - j ∧ Sat e w (ownS 3 1 (intsK .i64) t7 (routesL x.Parents f c ((x.Feds.take j).map FedX.f)) :: blk cb 3 [.int .i64 c] :: blk b 27 x.cs :: L)) x.Feds.length
    ⟨0, Nat.zero_le _, rfl, rfl, h2.own_nil 3 1 (intsK .i64)⟩ ?_
  rintro q t7 _ w g ⟨j, hj, rfl, rfl, h3⟩ hg
  have hi3 : (ownS 3 1 (intsK .i64) t7 (routesL x.Parents f c ((x.Feds.take j).map FedX.f)) :: blk cb 3 [.int .i64 c] :: blk b 27 x.cs :: L)[i + 3]? = some S := by simpa using hi
  refine lt_c (fun c0 => iff_t ?_) (fun c0 => iff_f ?_)
  · obtain ⟨fd, hf⟩ := get_of_lt (l := x.Feds) (j := j) (by omega)
    have hfm := List.mem_of_getElem? hf
    have hlen : ((x.Feds.take j).map FedX.f).length = j := by rw [List.length_map, List.length_take]; omega
    have hsn : routesL x.Parents f c ((x.Feds.take (j + 1)).map FedX.f) = routesL x.Parents f c ((x.Feds.take j).map FedX.f) ++ if (j : Int) ≠ f ∧ hearsB x.Parents c fd.f = true then [(j : Int)] else [] := by
      rw [take_snoc hf, List.map_append, List.map_singleton, routesL_snoc, hlen]
    have hrl := routesL_len x.Parents f c ((x.Feds.take j).map FedX.f)
    rw [hlen] at hrl
    refine J1.cut (fun t7 w => Sat e w (ownS 3 1 (intsK .i64) t7 (routesL x.Parents f c ((x.Feds.take (j + 1)).map FedX.f)) :: blk cb 3 [.int .i64 c] :: blk b 27 x.cs :: L)) (fun k2 hcut => ?_) (fun t7 w h4 => ?_)
    · rw [hsn] at hcut
      refine ixS_rd h3 (i + 3) hi3 (fun g hg => (hr g hg).feds) (fun _ => rfl) hf fun a ha => ?_
      refine ldN_of h3 (i + 3) hi3 ha rfl ?_
      refine al_s (cs := [.int .i64 0, .int .i64 0, .int .i64 0, .slice none 0 0, .slice none 0 0, .slice none 0 0, .slice none 0 0]) h3 rfl fun t w5 h5 => ?_
      refine stN_at h5 0 rfl (vs := fd.cs) rfl rfl (by simp) (fed_cells i hi hS fun g hg => (hr g hg).fed fd hfm) (cs' := fd.cs) (by rfl) fun w6 h6 => ?_
      refine ne_c (fun c1 => ?_) (fun c1 => ?_)
      · refine gd_tt (fld_at (gd_tt (ld1_at h6 0 rfl (v := fd.sv) rfl (gd_tt (gd_tt ?_)))))
        refine containsInt_s (p := fun s => decide (s ∈ above x.Parents c)) (i + 4) (by simpa using hi) h6 (fun g hg => ((hr g hg).fed fd hfm).subs) (by have := (hs.fed fd hfm).subs; omega) (fun o ho w K h hK => ?_) fun w7 h7 => ?_
        · refine ⟨_, _, _, rfl, ?_⟩
          refine config_Routes_1_calls (t0 := .int .i64 o) (t1 := .pointer (some ⟨b, 0, none⟩)) (t2 := .pointer (some ⟨cb, 0, none⟩)) ?_
          unfold config_Routes_1
          refine fld_at (ld1_at h 3 rfl (v := x.pv) rfl ?_)
          refine ld1_at h 2 rfl rfl ?_
          exact isA_s (i + 4) (by simpa using hi) h (fun g hg => (hr g hg).par) ht hc fun w' h' => hK _ h'
        · refine pk_t (iff_b _ (fun hh => ?_) (fun hh => ?_))
          · have hh' : hearsB x.Parents c fd.f = true := hh
            rw [if_pos ⟨c1, hh'⟩] at hcut
            refine push1 te_24 (f := intsK .i64) (fun _ => rfl) (fun _ _ h => by simp [intsK] at h; subst h; rfl) (h7.pick 1 rfl) (x := (j : Int)) rfl (by omega) fun v' w8 h8 => ?_
            exact hcut _ _ (h8.selR [_, _, _, _] [_, _, _] [0, 2, 3] (by decide) rfl)
          · have hh' : ¬ hearsB x.Parents c fd.f = true := by unfold hearsB; rw [show fd.f.Subs = fd.Subs from rfl, hh]; decide
            rw [if_neg fun h => hh' h.2, List.append_nil] at hcut
            exact hcut _ _ h7.drop
      · repeat (first | refine gd_tt ?_ | refine gd_ff ?_ | refine gd_tf ?_ | refine gd_ft ?_ | refine gd_u ?_ | refine pk_t ?_ | refine pk_f ?_ | refine iff_t ?_ | refine iff_f ?_ | refine not_t ?_ | refine not_f ?_ | refine beq_s ?_ | refine bne_s ?_ | refine ncP_p ?_ | refine nc_p ?_ | refine fld_at ?_ | refine xt_02 ?_ | refine xt_12 ?_ | refine xt_03 ?_ | refine xt_13 ?_ | refine xt_23 ?_ | refine eq_t (by omega) ?_ | refine eq_f (by omega) ?_ | refine ne_t (by omega) ?_ | refine ne_f (by omega) ?_ | refine lt_t (by omega) ?_ | refine lt_f (by omega) ?_ | refine gt_t (by omega) ?_ | refine gt_f (by omega) ?_ | refine ge_t (by omega) ?_ | refine ge_f (by omega) ?_ | refine le_t (by omega) ?_ | refine le_f (by omega) ?_)
        rw [if_neg fun h => h.1 c1, List.append_nil] at hcut
        exact hcut _ _ h6.drop
    · refine inc_s (by omega) ?_
      exact hg _ _ _ _ (by omega) ⟨j + 1, by omega, rfl, rfl, h4⟩
  · have ej : j = x.Feds.length := by omega
    rw [ej, List.take_length] at h3
    exact hk _ _ (h3.selR [_, _, _] [_] [0] (by decide) rfl)
end Go.Proofs.YtbopajpmadlmhaaGreat
namespace Go.Proofs.YtbopajpmadlmhaaGreat
open Go Go.E
set_option maxRecDepth 100000
variable {e w : World} {L R : List HP} {K : KV} {S S2 : HP}

theorem tmodK (a : Int) : ∃ k : Int, a = 1000 * k + a.tmod 1000 ∧ -999 ≤ a.tmod 1000 ∧ a.tmod 1000 ≤ 999 := by
  refine ⟨a.tdiv 1000, (Int.mul_tdiv_add_tmod a 1000).symm, ?_, ?_⟩
  · by_cases h : 0 ≤ a
    · have := Int.tmod_nonneg 1000 h; omega
    · have h1 := Int.neg_tmod a 1000
      have h2 := Int.tmod_lt_of_pos (-a) (show (0 : Int) < 1000 by decide)
      rw [h1] at h2
      omega
  · have := Int.tmod_lt_of_pos a (show (0 : Int) < 1000 by decide); omega
theorem modulo_s {n : Int} (hk : K (.int .i64 (n % 1000)) w) : Cl prog 155 #[.int .i64 n] w K := by
  refine table_modulo_calls ?_
  unfold table_modulo
  refine rem_s (by decide) ?_
  obtain ⟨k, h1, h2, h3⟩ := tmodK n
  generalize n.tmod 1000 = r at h1 h2 h3
  refine lt_c (fun c => iff_t ?_) (fun c => iff_f ?_)
  · refine add_s (by omega) (by omega) ?_
    rw [show r + 1000 = n % 1000 from by omega]
    exact hk
  · rw [show r = n % 1000 from by omega]
    exact hk
def sentM (f seq now body : Int) (o : Out) : Msg := ⟨⟨addT now o.Delay, f, seq⟩, -1, o.Class, (body + o.Add) % 1000⟩
theorem sent_s {f seq now body : Int} {o : Out} (hS : Sat e w L) (hk : ∀ w', Sat e w' L → K (.agg (sentM f seq now body o).cs.toArray) w') :
    Cl prog 109 #[.int .i64 f, .int .i64 seq, .int .i64 now, .int .i64 body, .agg o.cs.toArray] w K := by
  refine table_Sent_calls ?_
  unfold table_Sent
  refine al_s (cs := o.cs) hS rfl fun t9 w1 h1 => ?_
  rw [zero_37]
  refine al_s (cs := Msg.zero.cs) h1 rfl fun t10 w2 h2 => ?_
  refine dr_s h2 fun w3 h3 => ?_
  refine fld_at (ld1_at h3 1 rfl (v := .int .i64 o.Delay) rfl ?_)
  refine fld_at (ld1_at h3 1 rfl (v := .int .i64 o.Class) rfl ?_)
  refine fld_at (ld1_at h3 1 rfl (v := .int .i64 o.Add) rfl ?_)
  refine vtime_Add_s ?_
  have oA : ld1 (.pointer (some ⟨t9, 0 + 2, none⟩)) w3 (fun v' w'' => v' = .int .i64 o.Add ∧ w'' = w3) := ld1_at h3 1 rfl (v := .int .i64 o.Add) rfl ⟨rfl, rfl⟩
  have oC : ld1 (.pointer (some ⟨t9, 0 + 0, none⟩)) w3 (fun v' w'' => v' = .int .i64 o.Class ∧ w'' = w3) := ld1_at h3 1 rfl (v := .int .i64 o.Class) rfl ⟨rfl, rfl⟩
  have key : ∀ K : KV, K (.agg (ints [addT now o.Delay, f, seq]).toArray) w3 → bld (zeroD prog 35) #[(0, 1), (1, 1), (2, 1)] [(0, .int .i64 (addT now o.Delay)), (1, .int .i64 f), (2, .int .i64 seq)] w3 K := fun K h => bld_s (ints [addT now o.Delay, f, seq]) (by kernel_rfl) h
  have e0 : (body % 1000 + o.Add % 1000) % 1000 = (body + o.Add) % 1000 := by omega
  have fin : bld #[.int .i64 0, .int .i64 0, .int .i64 0, .int .i64 0, .int .i64 0, .int .i64 0] #[(0, 3), (3, 1), (4, 1), (5, 1)] [(0, .agg (ints [addT now o.Delay, f, seq]).toArray), (1, .int .i64 (-1)), (2, .int .i64 o.Class), (3, .int .i64 ((body % 1000 + o.Add % 1000) % 1000))] w3 fun t27 w =>
      stN 6 (.pointer (some ⟨t10, 0, none⟩)) t27 w fun _ w => ldN 6 (.pointer (some ⟨t10, 0, none⟩)) w fun r0 _ => K r0 w := by
    rw [e0]
    refine bld_s (sentM f seq now body o).cs (by kernel_rfl) ?_
    refine stN_at h3 0 rfl (vs := (sentM f seq now body o).cs) rfl rfl (by simp [ints, Msg.ns, Msg.zero]) (ints_flat _) (cs' := (sentM f seq now body o).cs) (by rfl) fun w4 h4 => ?_
    refine ldN_at h4 0 (vs := (sentM f seq now body o).cs) rfl (by rfl) rfl ?_
    exact hk _ h4.drop.drop
  have mA : ∀ K : KV, K (.int .i64 (o.Add % 1000)) w3 → Cl prog 155 #[.int .i64 o.Add] w3 K := fun K h => modulo_s h
  have mB : ∀ K : KV, K (.int .i64 (body % 1000)) w3 → Cl prog 155 #[.int .i64 body] w3 K := fun K h => modulo_s h
  have mS : ∀ K : KV, K (.int .i64 ((body % 1000 + o.Add % 1000) % 1000)) w3 → Cl prog 155 #[.int .i64 (body % 1000 + o.Add % 1000)] w3 K := fun K h => modulo_s h
  refine ⟨oA, oC, ?_, ?_⟩
  · refine key _ ⟨oA, oC, mB _ ⟨oA, oC, mA _ ⟨oC, add_s (by omega) (by omega) (mS _ ⟨oC, ?_⟩)⟩⟩⟩
    exact fin
  · refine mB _ ⟨oA, oC, key _ ⟨oA, oC, mA _ ⟨oC, add_s (by omega) (by omega) (mS _ ⟨oC, ?_⟩)⟩⟩, ?_⟩
    · exact fin
    · refine mA _ ⟨oC, add_s (by omega) (by omega) ⟨key _ ⟨oA, oC, mS _ ⟨oC, ?_⟩⟩, mS _ ⟨oC, key _ ⟨oA, oC, ?_⟩⟩⟩⟩
      · exact fin
      · exact fin

def spreadL (ps : List Int) (feds : List Fed) (f seq now body : Int) (outs : List Out) : List Msg := outs.zipIdx.flatMap fun p => (routesL ps f p.1.Class feds).map fun to => { sentM f (seq + p.2) now body p.1 with To := to }
theorem spreadL_snoc (ps : List Int) (feds : List Fed) (f seq now body : Int) (outs : List Out) (o : Out) : spreadL ps feds f seq now body (outs ++ [o]) = spreadL ps feds f seq now body outs ++ (routesL ps f o.Class feds).map fun to => { sentM f (seq + outs.length) now body o with To := to } := by
  unfold spreadL
  rw [List.zipIdx_append, List.flatMap_append]
  simp
theorem spreadL_len (ps : List Int) (feds : List Fed) (f seq now body : Int) (outs : List Out) : (spreadL ps feds f seq now body outs).length ≤ outs.length * feds.length := by
  have key : ∀ (l : List (Out × Nat)), (l.flatMap fun p => (routesL ps f p.1.Class feds).map fun to => ({ sentM f (seq + p.2) now body p.1 with To := to } : Msg)).length ≤ l.length * feds.length := by
    intro l
    induction l with
    | nil => simp
    | cons p l ih =>
      rw [List.flatMap_cons, List.length_append, List.length_map, List.length_cons, Nat.add_mul]
      have := routesL_len ps f p.1.Class feds
      omega
  have := key outs.zipIdx
  rw [List.length_zipIdx] at this
  exact this
def okSend (n : Nat) (o : Out) : Prop := 0 ≤ o.Class ∧ o.Class < n ∧ 0 ≤ o.Add
theorem spread_s {x : WdX} {f seq now body : Int} {v : Value} {outs : List Out} (i k : Nat) (hi : L[i]? = some S) (hk2 : L[k]? = some S2) (hS : Sat e w L) (hr : ∀ g, S g → RdWd x g) (hr2 : ∀ g, S2 g → rdS 3 Out.cs v outs g) (hs : x.short) (ht : okTree x.Parents)
    (ho : ∀ o ∈ outs, okSend x.Parents.length o) (hl : outs.length ≤ 1000) (hq : 0 ≤ seq ∧ seq ≤ 1125899906842624)
    (hk : ∀ v w', Sat e w' (ownS 37 6 Msg.cs v (spreadL x.w.Parents x.w.Feds f seq now body outs) :: L) → K v w') : Cl prog 56 #[.agg x.cs.toArray, .int .i64 f, .int .i64 seq, .int .i64 now, .int .i64 body, v] w K := by
  refine config_Spread_calls ?_
  unfold config_Spread
  refine al_s (cs := x.cs) hS rfl fun b w1 h1 => ?_
  have hi1 : (blk b 27 x.cs :: L)[i + 1]? = some S := by simpa using hi
  have hk1 : (blk b 27 x.cs :: L)[k + 1]? = some S2 := by simpa using hk2
  refine lnS_rd h1 (k + 1) hk1 hr2 ?_
  have hfl := hs.feds
  rw [zero_87, zero_37]
  have hflat := wd_cells i hi hS hr
  refine lpi2 (fun q t13 t21 w => ∃ j : Nat, j ≤ outs.length ∧ t21 = .int .i64 j ∧ q = outs.length - j ∧ Sat e w (ownS 37 6 Msg.cs t13 (spreadL x.w.Parents x.w.Feds f seq now body (outs.take j)) :: blk b 27 x.cs :: L)) outs.length
    ⟨0, Nat.zero_le _, rfl, rfl, h1.own_nil 37 6 Msg.cs⟩ ?_
  rintro q t13 _ w g ⟨j, hj, rfl, rfl, h2⟩ hg
  refine lt_c (fun c0 => iff_t ?_) (fun c0 => iff_f ?_)
  · obtain ⟨o, hoj⟩ := get_of_lt (l := outs) (j := j) (by omega)
    obtain ⟨o1, o2, o3⟩ := ho o (List.mem_of_getElem? hoj)
    have hlen : (outs.take j).length = j := by rw [List.length_take]; omega
    have hsn : spreadL x.w.Parents x.w.Feds f seq now body (outs.take (j + 1)) = spreadL x.w.Parents x.w.Feds f seq now body (outs.take j) ++ (routesL x.w.Parents f o.Class x.w.Feds).map fun to => { sentM f (seq + j) now body o with To := to } := by
      rw [take_snoc hoj, spreadL_snoc, hlen]
    have hsl := spreadL_len x.w.Parents x.w.Feds f seq now body (outs.take j)
    have hfl2 : x.w.Feds.length ≤ 1000 := by simp only [WdX.w, List.length_map]; exact hfl
    rw [hlen] at hsl
    have hsl2 : j * x.w.Feds.length ≤ 1000 * 1000 := Nat.mul_le_mul (by omega) hfl2
    have hi2 : (ownS 37 6 Msg.cs t13 (spreadL x.w.Parents x.w.Feds f seq now body (outs.take j)) :: blk b 27 x.cs :: L)[i + 2]? = some S := by simpa using hi
    have hk3 : (ownS 37 6 Msg.cs t13 (spreadL x.w.Parents x.w.Feds f seq now body (outs.take j)) :: blk b 27 x.cs :: L)[k + 2]? = some S2 := by simpa using hk2
    refine ixS_rd h2 (k + 2) hk3 hr2 (fun _ => rfl) hoj fun a ha => ?_
    refine ldN_of h2 (k + 2) hk3 ha rfl ?_
    refine al_s (cs := ints [0, 0, 0]) h2 rfl fun t w3 h3 => ?_
    refine stN_at h3 0 rfl (vs := o.cs) rfl rfl (by decide) (ints_flat _) (cs' := o.cs) (by rfl) fun w4 h4 => ?_
    refine add_s (by omega) (by omega) ?_
    refine ldN_at h4 0 (vs := o.cs) rfl (by rfl) rfl ?_
    refine sent_s h4 fun w5 h5 => ?_
    refine al_s (cs := Msg.zero.cs) h5 rfl fun tm w6 h6 => ?_
    generalize hm : sentM f (seq + j) now body o = m at hsn h6 ⊢
    have hmc : m.Class = o.Class := by rw [← hm]; rfl
    refine stN_at h6 0 rfl (vs := m.cs) rfl rfl (by decide) (ints_flat _) (cs' := m.cs) (by rfl) fun w7 h7 => ?_
    refine ldN_at h7 3 (vs := x.cs) rfl (by rfl) rfl ?_
    refine fld_at (ld1_at h7 0 rfl (v := .int .i64 m.Class) rfl ?_)
    rw [hmc]
    refine routes_s (x := x) (i + 4) (by simpa using hi) h7 hr hs ht ⟨o1, o2⟩ fun tv w8 h8 => ?_
    refine lnS_rd h8 0 rfl (fun g hg => own_rd hg) ?_
    generalize hrt : routesL x.w.Parents f o.Class x.w.Feds = rt at hsn h8 ⊢
    have hrtl : rt.length ≤ 1000 := by rw [← hrt]; exact Nat.le_trans (routesL_len _ _ _ _) hfl2
    refine lpi2 (fun q t13 t40 w => ∃ (n : Nat) (m' : Msg), n ≤ rt.length ∧ t40 = .int .i64 n ∧ q = rt.length - n ∧ (∀ to, { m' with To := to } = { m with To := to }) ∧
        Sat e w (ownS 37 6 Msg.cs t13 (spreadL x.w.Parents x.w.Feds f seq now body (outs.take j) ++ (rt.take n).map fun to => { m with To := to }) :: ownS 3 1 (intsK .i64) tv rt :: blk tm 37 m'.cs :: blk t 87 o.cs :: blk b 27 x.cs :: L)) rt.length
      ⟨0, m, Nat.zero_le _, rfl, rfl, fun _ => rfl, by simpa using h8.selR [_, _, _, _, _] [_, _, _, _, _] [3, 0, 1, 2, 4] (by decide) rfl⟩ ?_
    rintro q t13' _ w g2 ⟨n, m', hn, rfl, rfl, hmm, h9⟩ hg2
    refine lt_c (fun c1 => iff_t ?_) (fun c1 => iff_f ?_)
    · obtain ⟨to, hto⟩ := get_of_lt (l := rt) (j := n) (by omega)
      refine ixS_rd h9 1 rfl (fun g hg => own_rd hg) (fun _ => rfl) hto fun a ha => ?_
      refine ld1_of h9 1 rfl ha (v := .int .i64 to) rfl ?_
      refine fld_at (stN_at h9 2 rfl (vs := ints [to]) rfl rfl (Nat.le_of_ble_eq_true rfl) (ints_flat _) (cs' := ({ m' with To := to } : Msg).cs) (by rfl) fun w10 h10 => ?_)
      refine ldN_at h10 2 (vs := ({ m' with To := to } : Msg).cs) rfl (by rfl) rfl ?_
      refine push1 te_33 (f := Msg.cs) (fun _ => rfl) (fun _ => ints_flat _) h10 (x := { m' with To := to }) rfl (by rw [List.length_append, List.length_map, List.length_take]; omega) fun v' w11 h11 => ?_
      refine inc_s (by omega) ?_
      refine hg2 _ _ _ _ (by omega) ⟨n + 1, { m' with To := to }, by omega, rfl, rfl, fun to' => hmm to', ?_⟩
      rw [take_snoc hto, List.map_append, ← List.append_assoc, List.map_singleton, ← hmm to]
      exact h11
    · have en : n = rt.length := by omega
      rw [en, List.take_length, ← hsn] at h9
      refine inc_s (by omega) ?_
      exact hg _ _ _ _ (by omega) ⟨j + 1, by omega, rfl, rfl, h9.selR [_, _, _, _, _] [_, _] [0, 4] (by decide) rfl⟩
  · have ej : j = outs.length := by omega
    rw [ej, List.take_length] at h2
    exact hk _ _ (h2.selR [_, _] [_] [0] (by decide) rfl)
end Go.Proofs.YtbopajpmadlmhaaGreat
namespace Go.Proofs.YtbopajpmadlmhaaGreat
open Go Go.E
set_option maxRecDepth 100000
variable {e w : World} {L R : List HP} {K : KV} {S S2 : HP}

structure Done where
  m : Msg
  st : Int
  deriving DecidableEq
def Done.ns (d : Done) : List Int := [d.m.key.T, d.m.key.From, d.m.key.Seq, d.m.To, d.m.Class, d.m.Body, d.st]
abbrev Done.cs (d : Done) : List Value := ints d.ns
def Done.zero : Done := ⟨Msg.zero, 0⟩
theorem Done.eq_ns (a b : Done) : (a.ns == b.ns) = decide (a = b) := by
  rw [Bool.eq_iff_iff]
  obtain ⟨⟨⟨a1, a2, a3⟩, a4, a5, a6⟩, a7⟩ := a
  obtain ⟨⟨⟨b1, b2, b3⟩, b4, b5, b6⟩, b7⟩ := b
  simp [Done.ns, and_assoc]
theorem rd_nil {α : Type} {size : Nat} {f : α → List Value} {n c : Nat} {l : List α} (hS : Sat e w (S :: R)) (hr : ∀ g, S g → rdS size f (.slice none n c) l g) : l = [] := by
  obtain ⟨g, hg, _⟩ := hS.get 0 rfl
  obtain ⟨A', c', h1, h2, h3⟩ := hr g hg
  injection h1 with e1 e2 e3
  by_cases h0 : 0 < l.length
  · obtain ⟨a, ha, _⟩ := h3 h0
    rw [← e1] at ha
    cases ha
  · exact List.length_eq_zero_iff.1 (by omega)
theorem clone_ints_s {v : Value} {l : List Int} (hl : l.length ≤ 1000000) (hff : ∀ x ∈ l, ∀ v ∈ (intsK .i64) x, flat v = true) (hS : Sat e w (S :: R)) (hr : ∀ g, S g → rdS 1 (intsK .i64) v l g)
    (hk : ∀ v' w', Sat e w' (ownS 3 1 (intsK .i64) v' l :: S :: R) → K v' w') : Cl prog 95 #[v] w K := by
  refine slices_Clone_int_int_calls ?_
  unfold slices_Clone_int_int
  obtain ⟨A, c, rfl, _⟩ := hS.shape 0 rfl hr
  cases A with
  | none =>
    refine ex_oV (w' := w) (v := .bool true) (by kernel_rfl) ?_
    obtain rfl := rd_nil hS hr
    exact iff_t (hk _ _ (hS.own_nil 3 1 (intsK .i64)))
  | some a =>
    refine ex_oV (w' := w) (v := .bool false) (by kernel_rfl) ?_
    refine iff_f ?_
    refine bsl0 hS (intsK .i64) fun v1 w2 h2 => ?_
    refine apS_ownM te_24 und_24 (f := (intsK .i64)) (fun _ => rfl) hff h2 hr (by simp; omega) fun v2 w3 h3 => ?_
    rw [List.nil_append] at h3
    exact hk _ _ h3
theorem clone_outs_s {v : Value} {l : List Out} (hl : l.length ≤ 1000000) (hff : ∀ x ∈ l, ∀ v ∈ Out.cs x, flat v = true) (hS : Sat e w (S :: R)) (hr : ∀ g, S g → rdS 3 Out.cs v l g)
    (hk : ∀ v' w', Sat e w' (ownS 87 3 Out.cs v' l :: S :: R) → K v' w') : Cl prog 97 #[v] w K := by
  refine slices_Clone_api_Out_api_Out_calls ?_
  unfold slices_Clone_api_Out_api_Out
  obtain ⟨A, c, rfl, _⟩ := hS.shape 0 rfl hr
  cases A with
  | none =>
    refine ex_oV (w' := w) (v := .bool true) (by kernel_rfl) ?_
    obtain rfl := rd_nil hS hr
    exact iff_t (hk _ _ (hS.own_nil 87 3 Out.cs))
  | some a =>
    refine ex_oV (w' := w) (v := .bool false) (by kernel_rfl) ?_
    refine iff_f ?_
    refine bsl0 hS Out.cs fun v1 w2 h2 => ?_
    refine apS_ownM te_61 und_61 (f := Out.cs) (fun _ => rfl) hff h2 hr (by simp; omega) fun v2 w3 h3 => ?_
    rw [List.nil_append] at h3
    exact hk _ _ h3
theorem clone_rules_s {v : Value} {l : List RuleX} (hl : l.length ≤ 1000000) (hff : ∀ x ∈ l, ∀ v ∈ RuleX.cs x, flat v = true) (hS : Sat e w (S :: R)) (hr : ∀ g, S g → rdS 4 RuleX.cs v l g)
    (hk : ∀ v' w', Sat e w' (ownS 89 4 RuleX.cs v' l :: S :: R) → K v' w') : Cl prog 98 #[v] w K := by
  refine slices_Clone_api_Rule_api_Rule_calls ?_
  unfold slices_Clone_api_Rule_api_Rule
  obtain ⟨A, c, rfl, _⟩ := hS.shape 0 rfl hr
  cases A with
  | none =>
    refine ex_oV (w' := w) (v := .bool true) (by kernel_rfl) ?_
    obtain rfl := rd_nil hS hr
    exact iff_t (hk _ _ (hS.own_nil 89 4 RuleX.cs))
  | some a =>
    refine ex_oV (w' := w) (v := .bool false) (by kernel_rfl) ?_
    refine iff_f ?_
    refine bsl0 hS RuleX.cs fun v1 w2 h2 => ?_
    refine apS_ownM te_64 und_64 (f := RuleX.cs) (fun _ => rfl) hff h2 hr (by simp; omega) fun v2 w3 h3 => ?_
    rw [List.nil_append] at h3
    exact hk _ _ h3
theorem clone_feds_s {v : Value} {l : List FedX} (hl : l.length ≤ 1000000) (hff : ∀ x ∈ l, ∀ v ∈ FedX.cs x, flat v = true) (hS : Sat e w (S :: R)) (hr : ∀ g, S g → rdS 7 FedX.cs v l g)
    (hk : ∀ v' w', Sat e w' (ownS 66 7 FedX.cs v' l :: S :: R) → K v' w') : Cl prog 96 #[v] w K := by
  refine slices_Clone_api_Fed_api_Fed_calls ?_
  unfold slices_Clone_api_Fed_api_Fed
  obtain ⟨A, c, rfl, _⟩ := hS.shape 0 rfl hr
  cases A with
  | none =>
    refine ex_oV (w' := w) (v := .bool true) (by kernel_rfl) ?_
    obtain rfl := rd_nil hS hr
    exact iff_t (hk _ _ (hS.own_nil 66 7 FedX.cs))
  | some a =>
    refine ex_oV (w' := w) (v := .bool false) (by kernel_rfl) ?_
    refine iff_f ?_
    refine bsl0 hS FedX.cs fun v1 w2 h2 => ?_
    refine apS_ownM te_25 und_25 (f := FedX.cs) (fun _ => rfl) hff h2 hr (by simp; omega) fun v2 w3 h3 => ?_
    rw [List.nil_append] at h3
    exact hk _ _ h3
def stepR (l : List Rule) (s c : Int) : Int × List Out := match l.find? fun r => decide (r.State = s) && decide (r.Class = c) with
  | some r => (r.Next, r.Sends)
  | none => (s, [])
theorem stepR_none {l : List RuleX} {s c : Int} (h : ∀ r ∈ l, ¬ isOn s c r) : stepR (l.map RuleX.r) s c = (s, []) := by
  unfold stepR
  rw [List.find?_eq_none.2]
  intro r hr
  obtain ⟨x, hx, rfl⟩ := List.mem_map.1 hr
  have := h x hx
  unfold isOn at this
  intro hd
  rw [Bool.and_eq_true] at hd
  exact this ⟨of_decide_eq_true hd.1, of_decide_eq_true hd.2⟩
theorem stepR_some {l : List RuleX} {s c : Int} {j : Nat} {r : RuleX} (hj : l[j]? = some r) (hon : isOn s c r) (hlo : ∀ y ∈ l.take j, ¬ isOn s c y) : stepR (l.map RuleX.r) s c = (r.Next, r.Sends) := by
  unfold stepR
  have hsp : l.map RuleX.r = (l.take j).map RuleX.r ++ r.r :: (l.drop (j + 1)).map RuleX.r := by
    conv => lhs; rw [take_split hj]
    simp
  rw [hsp, List.find?_append]
  have h1 : ((l.take j).map RuleX.r).find? (fun r => decide (r.State = s) && decide (r.Class = c)) = none := by
    rw [List.find?_eq_none]
    intro r hr
    obtain ⟨x, hx, rfl⟩ := List.mem_map.1 hr
    have := hlo x hx
    unfold isOn at this
    intro hd
    rw [Bool.and_eq_true] at hd
    exact this ⟨of_decide_eq_true hd.1, of_decide_eq_true hd.2⟩
  unfold isOn at hon
  rw [h1, Option.none_or, List.find?_cons_of_pos (by simp [RuleX.r, hon])]
  rfl
theorem table_Step_s {v : Value} {l : List RuleX} {s c : Int} (hS : Sat e w (S :: R)) (hr : ∀ g, S g → RdRules v l g) (hl : l.length ≤ 1000) (hl2 : ∀ r ∈ l, r.Sends.length ≤ 1000)
    (hk : ∀ v' w', Sat e w' (ownS 87 3 Out.cs v' (stepR (l.map RuleX.r) s c).2 :: S :: R) → K (.tuple #[.int .i64 (stepR (l.map RuleX.r) s c).1, v']) w') : Cl prog 55 #[v, .int .i64 s, .int .i64 c] w K := by
  refine table_Step_calls ?_
  unfold table_Step
  refine table_Find_calls ?_
  unfold table_Find
  refine al_s (cs := [.int .i64 s]) hS rfl fun bs w1 h1 => ?_
  refine al_s (cs := [.int .i64 c]) h1 rfl fun bc w2 h2 => ?_
  refine slices_IndexFunc_api_Rule_api_Rule_calls ?_
  unfold slices_IndexFunc_api_Rule_api_Rule
  refine lnS_rd h2 2 rfl (fun g hg => (hr g hg).s) ?_
  refine lpi1 (fun q t8 w => ∃ j : Nat, j ≤ l.length ∧ t8 = .int .i64 j ∧ q = l.length - j ∧ (∀ y ∈ l.take j, ¬ isOn s c y) ∧ Sat e w (blk bc 3 [.int .i64 c] :: blk bs 3 [.int .i64 s] :: S :: R)) l.length ⟨0, Nat.zero_le _, rfl, rfl, by simp, h2⟩ ?_
  rintro q _ w g ⟨j, hj, rfl, rfl, hlo, h3⟩ hg
  refine lt_c (fun c0 => iff_t ?_) (fun c0 => iff_f ?_)
  · obtain ⟨r, hrj⟩ := get_of_lt (l := l) (j := j) (by omega)
    have hrm := List.mem_of_getElem? hrj
    refine ixS_rd h3 2 rfl (fun g hg => (hr g hg).s) (fun _ => rfl) hrj fun a ha => ?_
    refine ldN_of h3 2 rfl ha rfl ?_
    refine ⟨_, _, _, rfl, ?_⟩
    refine table_Find_1_calls (t0 := .agg r.cs.toArray) (t1 := .pointer (some ⟨bs, 0, none⟩)) (t2 := .pointer (some ⟨bc, 0, none⟩)) ?_
    unfold table_Find_1
    refine al_s (cs := r.cs) h3 rfl fun t w4 h4 => ?_
    refine fld_at (ld1_at h4 0 rfl (v := .int .i64 r.State) rfl ?_)
    refine ld1_at h4 2 rfl rfl ?_
    have hnext : ¬ isOn s c r → bi .add .i64 (.int .i64 j) (.int .i64 1) w4 fun t18 w => g [t18] w := by
      intro h
      refine inc_s (by omega) ?_
      refine hg _ _ _ (by omega) ⟨j + 1, by omega, rfl, rfl, fun y hy => ?_, h4.drop⟩
      rw [take_snoc hrj] at hy
      rcases List.mem_append.1 hy with h' | h'
      · exact hlo y h'
      · rw [List.mem_singleton.1 h']; exact h
    refine eq_c (fun c1 => ?_) (fun c1 => ?_)
    · refine gd_tt (fld_at (gd_tt (ld1_at h4 0 rfl (v := .int .i64 r.Class) rfl (gd_tt (ld1_at h4 1 rfl rfl ?_)))))
      refine gd_tt (eq_c (fun c2 => ?_) (fun c2 => ?_))
      · refine pk_t (iff_t (lt_f (by omega) (iff_f ?_)))
        rw [stepR_some hrj ⟨c1, c2⟩ hlo] at hk
        refine dr_s h4.drop.drop.drop fun w5 h5 => ?_
        refine ixS_rd h5 0 rfl (fun g hg => (hr g hg).s) (fun _ => rfl) hrj fun a ha => ?_
        refine fld_of ha fun a1 ha1 => ?_
        refine ld1_of h5 0 rfl ha1 (v := .int .i64 r.Next) rfl ?_
        refine ixS_rd h5 0 rfl (fun g hg => (hr g hg).s) (fun _ => rfl) hrj fun a2 ha2 => ?_
        refine fld_of ha2 fun a3 ha3 => ?_
        refine ld1_of h5 0 rfl ha3 (v := r.sv) rfl ?_
        refine clone_outs_s (by have := hl2 r hrm; omega) (fun _ _ => ints_flat _) h5 (fun g hg => (hr g hg).e r hrm) fun v' w6 h6 => ?_
        exact ⟨ld1_of h6 1 rfl ha1 (v := .int .i64 r.Next) rfl ⟨rfl, rfl⟩, hk _ _ h6⟩
      · exact pk_t (iff_f (hnext fun h => c2 h.2))
    · repeat (first | refine gd_tt ?_ | refine gd_ff ?_ | refine gd_tf ?_ | refine gd_ft ?_ | refine gd_u ?_ | refine pk_t ?_ | refine pk_f ?_ | refine iff_t ?_ | refine iff_f ?_ | refine not_t ?_ | refine not_f ?_ | refine beq_s ?_ | refine bne_s ?_ | refine ncP_p ?_ | refine nc_p ?_ | refine fld_at ?_ | refine xt_02 ?_ | refine xt_12 ?_ | refine xt_03 ?_ | refine xt_13 ?_ | refine xt_23 ?_ | refine eq_t (by omega) ?_ | refine eq_f (by omega) ?_ | refine ne_t (by omega) ?_ | refine ne_f (by omega) ?_ | refine lt_t (by omega) ?_ | refine lt_f (by omega) ?_ | refine gt_t (by omega) ?_ | refine gt_f (by omega) ?_ | refine ge_t (by omega) ?_ | refine ge_f (by omega) ?_ | refine le_t (by omega) ?_ | refine le_f (by omega) ?_)
      exact hnext fun h => c1 h.1
  · have ej : j = l.length := by omega
    rw [ej, List.take_length] at hlo
    rw [stepR_none hlo] at hk
    refine lt_t (by omega) (iff_t ?_)
    exact hk _ _ (h3.drop.drop.own_nil 87 3 Out.cs)
end Go.Proofs.YtbopajpmadlmhaaGreat
end
section
namespace Go.Proofs.YtbopajpmadlmhaaGreat
open Go Go.E
set_option maxRecDepth 100000
variable {e w : World} {R : List HP} {K : KV}

def KeyLt (a b : Key) : Prop := a.T < b.T ∨ (a.T = b.T ∧ (a.From < b.From ∨ (a.From = b.From ∧ a.Seq < b.Seq)))
theorem cmpK_cases (a b : Key) : (KeyLt a b ∧ cmpK a b = -1) ∨ (a = b ∧ cmpK a b = 0) ∨ (KeyLt b a ∧ cmpK a b = 1) := by
  obtain ⟨a1, a2, a3⟩ := a
  obtain ⟨b1, b2, b3⟩ := b
  unfold KeyLt cmpK cmpI
  simp only [Key.mk.injEq]
  rcases Int.lt_trichotomy a1 b1 with h | h | h
  · left
    rw [if_pos h]
    simp [h]
  · subst h
    rcases Int.lt_trichotomy a2 b2 with h | h | h
    · left; simp [h]
    · subst h
      rcases Int.lt_trichotomy a3 b3 with h | h | h
      · left; simp [h]
      · subst h; right; left; simp
      · right; right
        have : ¬ a3 < b3 := by omega
        simp [h, this]
    · right; right
      have : ¬ a2 < b2 := by omega
      simp [h, this]
  · right; right
    have : ¬ a1 < b1 := by omega
    simp [h, this]
theorem KeyLt.asymm {a b : Key} (h : KeyLt a b) : ¬ KeyLt b a := by unfold KeyLt at *; omega
theorem KeyLt.trans {a b c : Key} (h : KeyLt a b) (k : KeyLt b c) : KeyLt a c := by unfold KeyLt at *; omega
theorem KeyLt.irrefl (a : Key) : ¬ KeyLt a a := by unfold KeyLt; omega
theorem cmpK_lt {a b : Key} : cmpK a b < 0 ↔ KeyLt a b := by
  rcases cmpK_cases a b with ⟨h, e⟩ | ⟨h, e⟩ | ⟨h, e⟩ <;> rw [e]
  · exact ⟨fun _ => h, fun _ => by decide⟩
  · subst h; exact ⟨fun h => by omega, fun h => absurd h (KeyLt.irrefl a)⟩
  · exact ⟨fun h => by omega, fun k => absurd k h.asymm⟩
theorem cmpK_eq {a b : Key} : cmpK a b = 0 ↔ a = b := by
  rcases cmpK_cases a b with ⟨h, e⟩ | ⟨h, e⟩ | ⟨h, e⟩ <;> rw [e]
  · exact ⟨fun h => by omega, fun k => by subst k; exact absurd h (KeyLt.irrefl a)⟩
  · exact ⟨fun _ => h, fun _ => rfl⟩
  · exact ⟨fun h => by omega, fun k => by subst k; exact absurd h (KeyLt.irrefl a)⟩
theorem KeyLt.tri (a b : Key) : KeyLt a b ∨ a = b ∨ KeyLt b a := by
  rcases cmpK_cases a b with ⟨h, _⟩ | ⟨h, _⟩ | ⟨h, _⟩
  · exact .inl h
  · exact .inr (.inl h)
  · exact .inr (.inr h)

theorem ref01_Cmp_s {a b : Key} (hS : Sat e w R) (hk : ∀ w', Sat e w' R → K (.int .i64 (cmpK a b)) w') : Cl prog 29 #[.agg a.cs.toArray, .agg b.cs.toArray] w K := by
  refine pacelineref01_Cmp_calls ?_
  unfold pacelineref01_Cmp
  refine al_s (cs := a.cs) hS rfl fun b2 w1 h1 => ?_
  refine al_s (cs := b.cs) h1 rfl fun b3 w2 h2 => ?_
  refine ldN_at h2 1 (vs := a.cs) rfl (by rfl) rfl ?_
  refine ldN_at h2 0 (vs := b.cs) rfl (by rfl) rfl ?_
  refine bO_eq (ns := a.ns) (ms := b.ns) eqT_35 agg_35 egt_35 (by decide) rfl ?_
  rw [Key.eq_ns]
  have h3 := hk _ h2.drop.drop
  by_cases hab : a = b
  · rw [decide_eq_true hab]
    rw [cmpK_eq.2 hab] at h3
    exact iff_t h3
  · rw [decide_eq_false hab]
    refine iff_f ?_
    rcases cmpK_cases a b with ⟨h, e1⟩ | ⟨h, _⟩ | ⟨h, e1⟩
    · rw [e1] at h3
      rcases h with h | ⟨h0, h | ⟨h1', h⟩⟩
      · repeat (first | refine gd_tt ?_ | refine gd_ff ?_ | refine gd_tf ?_ | refine gd_ft ?_ | refine gd_u ?_ | refine pk_t ?_ | refine pk_f ?_ | refine iff_t ?_ | refine iff_f ?_ | refine not_t ?_ | refine not_f ?_ | refine beq_s ?_ | refine bne_s ?_ | refine ncP_p ?_ | refine nc_p ?_ | refine fld_at ?_ | refine xt_02 ?_ | refine xt_12 ?_ | refine xt_03 ?_ | refine xt_13 ?_ | refine xt_23 ?_ | refine eq_t (by omega) ?_ | refine eq_f (by omega) ?_ | refine ne_t (by omega) ?_ | refine ne_f (by omega) ?_ | refine lt_t (by omega) ?_ | refine lt_f (by omega) ?_ | refine gt_t (by omega) ?_ | refine gt_f (by omega) ?_ | refine ge_t (by omega) ?_ | refine ge_f (by omega) ?_ | refine le_t (by omega) ?_ | refine le_f (by omega) ?_ | refine ld1_at h2 0 rfl rfl ?_ | refine ld1_at h2 1 rfl rfl ?_ | refine ld1_at h2 2 rfl rfl ?_)
        exact h3
      · repeat (first | refine gd_tt ?_ | refine gd_ff ?_ | refine gd_tf ?_ | refine gd_ft ?_ | refine gd_u ?_ | refine pk_t ?_ | refine pk_f ?_ | refine iff_t ?_ | refine iff_f ?_ | refine not_t ?_ | refine not_f ?_ | refine beq_s ?_ | refine bne_s ?_ | refine ncP_p ?_ | refine nc_p ?_ | refine fld_at ?_ | refine xt_02 ?_ | refine xt_12 ?_ | refine xt_03 ?_ | refine xt_13 ?_ | refine xt_23 ?_ | refine eq_t (by omega) ?_ | refine eq_f (by omega) ?_ | refine ne_t (by omega) ?_ | refine ne_f (by omega) ?_ | refine lt_t (by omega) ?_ | refine lt_f (by omega) ?_ | refine gt_t (by omega) ?_ | refine gt_f (by omega) ?_ | refine ge_t (by omega) ?_ | refine ge_f (by omega) ?_ | refine le_t (by omega) ?_ | refine le_f (by omega) ?_ | refine ld1_at h2 0 rfl rfl ?_ | refine ld1_at h2 1 rfl rfl ?_ | refine ld1_at h2 2 rfl rfl ?_)
        exact h3
      · repeat (first | refine gd_tt ?_ | refine gd_ff ?_ | refine gd_tf ?_ | refine gd_ft ?_ | refine gd_u ?_ | refine pk_t ?_ | refine pk_f ?_ | refine iff_t ?_ | refine iff_f ?_ | refine not_t ?_ | refine not_f ?_ | refine beq_s ?_ | refine bne_s ?_ | refine ncP_p ?_ | refine nc_p ?_ | refine fld_at ?_ | refine xt_02 ?_ | refine xt_12 ?_ | refine xt_03 ?_ | refine xt_13 ?_ | refine xt_23 ?_ | refine eq_t (by omega) ?_ | refine eq_f (by omega) ?_ | refine ne_t (by omega) ?_ | refine ne_f (by omega) ?_ | refine lt_t (by omega) ?_ | refine lt_f (by omega) ?_ | refine gt_t (by omega) ?_ | refine gt_f (by omega) ?_ | refine ge_t (by omega) ?_ | refine ge_f (by omega) ?_ | refine le_t (by omega) ?_ | refine le_f (by omega) ?_ | refine ld1_at h2 0 rfl rfl ?_ | refine ld1_at h2 1 rfl rfl ?_ | refine ld1_at h2 2 rfl rfl ?_)
        exact h3
    · exact absurd h hab
    · rw [e1] at h3
      rcases h with h | ⟨h0, h | ⟨h1', h⟩⟩
      · repeat (first | refine gd_tt ?_ | refine gd_ff ?_ | refine gd_tf ?_ | refine gd_ft ?_ | refine gd_u ?_ | refine pk_t ?_ | refine pk_f ?_ | refine iff_t ?_ | refine iff_f ?_ | refine not_t ?_ | refine not_f ?_ | refine beq_s ?_ | refine bne_s ?_ | refine ncP_p ?_ | refine nc_p ?_ | refine fld_at ?_ | refine xt_02 ?_ | refine xt_12 ?_ | refine xt_03 ?_ | refine xt_13 ?_ | refine xt_23 ?_ | refine eq_t (by omega) ?_ | refine eq_f (by omega) ?_ | refine ne_t (by omega) ?_ | refine ne_f (by omega) ?_ | refine lt_t (by omega) ?_ | refine lt_f (by omega) ?_ | refine gt_t (by omega) ?_ | refine gt_f (by omega) ?_ | refine ge_t (by omega) ?_ | refine ge_f (by omega) ?_ | refine le_t (by omega) ?_ | refine le_f (by omega) ?_ | refine ld1_at h2 0 rfl rfl ?_ | refine ld1_at h2 1 rfl rfl ?_ | refine ld1_at h2 2 rfl rfl ?_)
        exact h3
      · repeat (first | refine gd_tt ?_ | refine gd_ff ?_ | refine gd_tf ?_ | refine gd_ft ?_ | refine gd_u ?_ | refine pk_t ?_ | refine pk_f ?_ | refine iff_t ?_ | refine iff_f ?_ | refine not_t ?_ | refine not_f ?_ | refine beq_s ?_ | refine bne_s ?_ | refine ncP_p ?_ | refine nc_p ?_ | refine fld_at ?_ | refine xt_02 ?_ | refine xt_12 ?_ | refine xt_03 ?_ | refine xt_13 ?_ | refine xt_23 ?_ | refine eq_t (by omega) ?_ | refine eq_f (by omega) ?_ | refine ne_t (by omega) ?_ | refine ne_f (by omega) ?_ | refine lt_t (by omega) ?_ | refine lt_f (by omega) ?_ | refine gt_t (by omega) ?_ | refine gt_f (by omega) ?_ | refine ge_t (by omega) ?_ | refine ge_f (by omega) ?_ | refine le_t (by omega) ?_ | refine le_f (by omega) ?_ | refine ld1_at h2 0 rfl rfl ?_ | refine ld1_at h2 1 rfl rfl ?_ | refine ld1_at h2 2 rfl rfl ?_)
        exact h3
      · repeat (first | refine gd_tt ?_ | refine gd_ff ?_ | refine gd_tf ?_ | refine gd_ft ?_ | refine gd_u ?_ | refine pk_t ?_ | refine pk_f ?_ | refine iff_t ?_ | refine iff_f ?_ | refine not_t ?_ | refine not_f ?_ | refine beq_s ?_ | refine bne_s ?_ | refine ncP_p ?_ | refine nc_p ?_ | refine fld_at ?_ | refine xt_02 ?_ | refine xt_12 ?_ | refine xt_03 ?_ | refine xt_13 ?_ | refine xt_23 ?_ | refine eq_t (by omega) ?_ | refine eq_f (by omega) ?_ | refine ne_t (by omega) ?_ | refine ne_f (by omega) ?_ | refine lt_t (by omega) ?_ | refine lt_f (by omega) ?_ | refine gt_t (by omega) ?_ | refine gt_f (by omega) ?_ | refine ge_t (by omega) ?_ | refine ge_f (by omega) ?_ | refine le_t (by omega) ?_ | refine le_f (by omega) ?_ | refine ld1_at h2 0 rfl rfl ?_ | refine ld1_at h2 1 rfl rfl ?_ | refine ld1_at h2 2 rfl rfl ?_)
        exact h3
end Go.Proofs.YtbopajpmadlmhaaGreat
end
section
namespace Go.E
open Go.RowKit
section
variable {κ ν : Type} [DecidableEq κ] {P : Program} {kt vt t : TypeId} {kf : κ → Value} {vf : ν → Value} {zv : Value} {e w : World} {L : List HP} {K : KV} {b : Nat} {m : List (κ × ν)}
theorem modify_same (es : Array MapEntry) (j : Nat) (e' : MapEntry) (kv : Value) (he : es[j]? = some e') (hk : e'.key = kv) : es.modify j (fun e => { e with key := kv }) = es := by
  apply Array.ext'
  rw [Array.toList_modify]
  apply List.ext_getElem?
  intro n
  rw [List.getElem?_modify]
  by_cases h : j = n
  · subst h
    rw [← Array.getElem?_toList] at he
    rw [he]
    cases e'
    simp only [if_true] at hk ⊢
    subst hk
    rfl
  · simp [h]
theorem born_idx {es : Array MapEntry} {clock j : Nat} {e' : MapEntry} (hb : Born es.toList clock) (he : es[j]? = some e') : es.findIdx? (fun e => (e.born : Int) == (e'.born : Int)) = some j := by
  obtain ⟨hj, hje⟩ := Array.getElem?_eq_some_iff.1 he
  rw [Array.findIdx?_eq_some_iff_getElem]
  refine ⟨hj, by rw [hje]; simp, fun i hi => ?_⟩
  have h1 := List.pairwise_iff_getElem.1 hb.1 i j (by simp; omega) (by simpa using hj) hi
  simp only [Array.getElem_toList] at h1
  rw [hje] at h1
  simp
  omega
theorem mes_s (KT : KeyT P kt kf) (MT : MapT P t kt vt zv) (hu : Uniq m) (hS : Sat e w (isMap kf vf b m :: L)) (k : κ) (x : ν) {xv : Value} (hx : xv = vf x) (hin : (lkA m k).isSome = true)
    (hk : ∀ w', Sat e w' (isMap kf vf b (upA m k x) :: L) → K undef w') : meM P t (.map (some b)) (kf k) w fun a w => xt 1 a w fun s _ => esM P t (.map (some b)) s xv w K := by
  subst hx
  obtain ⟨h1, h2, d, s1, s2, ⟨es, clock, hb, hm, hbo⟩, r⟩ := hS.mem
  have hh : w.heap[b]? = some (.map es clock) := s1 _ _ hb
  have hS0 : Sat e w ((fun g => g b = some (.map es clock)) :: L) := ⟨hS.os, hS.tape, hS.output, hS.drawn, hS.size, h1, h2, d, s1, s2, hb, r⟩
  have hf := KT.fnd k es.toList (m.map (·.1)) (es_keys hm) w
  have hl := fidx_lk m k
  cases hx : (m.map (·.1)).findIdx? (fun x => decide (x = k)) with
  | none =>
    rw [hx] at hl
    simp only [Option.bind_none] at hl
    rw [← hl] at hin
    cases hin
  | some j =>
    rw [hx] at hl hf
    simp only [Option.bind_some] at hl hf
    obtain ⟨hj, hjk, hjn⟩ := List.findIdx?_eq_some_iff_getElem.1 hx
    simp only [List.length_map] at hj
    simp only [List.getElem_map, decide_eq_true_eq] at hjk
    have hkey := es_key hm j
    rw [List.getElem?_eq_getElem hj] at hkey hl
    simp only [Option.map_some] at hkey hl
    obtain ⟨e', he, hek⟩ := Option.map_eq_some_iff.1 hkey
    rw [he] at hf
    simp only [Option.map_some] at hf
    have he2 : es[j]? = some e' := by rw [← Array.getElem?_toList]; exact he
    have hks : e'.key = kf k := by rw [hek, hjk]
    refine ex_oV (w' := World.setB w b (.map es clock)) (v := .tuple #[e'.val, goInt e'.born]) ?_ (xt_12 ?_)
    · unfold Instr.mapEntry
      have hst : (Instr.keyThatStays (((es[j]?).map (·.key)).getD (kf k)) (kf k)).run P w = .ok (kf k) w := by
        rw [he2]
        simp only [Option.map_some, Option.getD_some, hks, Instr.keyThatStays, KT.sam, if_true, Sem.run_pure]
      have hmd := modify_same es j e' (kf k) he2 hks
      simp only [Sem.run_bind, run_und MT.und, Result.andThen_ok, run_getObj hh, KT.chk, hf, hst, setObj, Sem.run, hh, World.setB]
      rw [he2]
      simp only [Option.map_some, Option.getD_some]
      rw [hmd]
      rfl
    · have hS1 := hS0.setB (o' := .map es clock)
      have hlt : b < w.heap.size := (Array.getElem?_eq_some_iff.1 hh).1
      have hh1 : (World.setB w b (.map es clock)).heap[b]? = some (.map es clock) := by simp [World.setB, hlt]
      refine ex_oU (w' := World.setB (World.setB w b (.map es clock)) b (.map (es.modify j fun e => { e with val := vf x }) clock)) ?_ (hk _ ?_)
      · unfold Instr.entryStore
        have hai : (asInt (goInt e'.born)).run P (World.setB w b (.map es clock)) = .ok (e'.born : Int) (World.setB w b (.map es clock)) := rfl
        simp only [Sem.run_bind, Result.andThen_ok, run_getObj hh1, hai, born_idx hbo he2, setObj, Sem.run, hh1]
        rfl
      · refine hS1.setB.imp fun g hg => ⟨_, _, hg, ?_, ?_⟩
        · unfold upA
          rw [← hl]
          simp only [Option.isSome_some, if_true]
          apply List.ext_getElem?
          intro n
          have hn := congrArg (fun l => l[n]?) hm
          simp only [List.getElem?_map] at hn ⊢
          rw [Array.toList_modify, List.getElem?_modify]
          cases hen : es.toList[n]? with
          | none =>
            rw [hen] at hn
            cases hmn : m[n]? with
            | none => rfl
            | some p => rw [hmn] at hn; cases hn
          | some en =>
            rw [hen] at hn
            cases hmn : m[n]? with
            | none => rw [hmn] at hn; cases hn
            | some p =>
              rw [hmn] at hn
              simp only [Option.map_some, Option.some.injEq] at hn ⊢
              by_cases hjn' : j = n
              · subst hjn'
                have hp : p.1 = k := by
                  rw [List.getElem?_eq_getElem hj] at hmn
                  cases hmn
                  exact hjk
                have hek2 : en.key = kf p.1 := by
                  have := congrArg Prod.fst hn
                  exact this
                simp [hp, pairOf, hek2]
              · have hp : p.1 ≠ k := by
                  intro hpk
                  have hnl := (List.getElem?_eq_some_iff.1 hmn).1
                  have e1 : (m.map (·.1))[j]? = some k := by simp [List.getElem?_eq_getElem hj, hjk]
                  have e2 : (m.map (·.1))[n]? = some k := by simp [hmn, hpk]
                  have := (List.getElem?_inj (by simpa using hj) hu).1 (e1.trans e2.symm)
                  exact hjn' this
                simp only [hjn', if_false, hp]
                exact congrArg some hn
        · rw [Array.toList_modify]
          exact born_modify hbo j _ (fun _ => rfl)
end

section
variable {P : Program} {w : World} {K : KV}
theorem tyA_ok {x : Value} {s t : TypeId} (h : (Instr.typeAssert (.iface t x) s t false).run P w = .ok x w) (hk : K x w) : tyA P (.iface t x) s t false w K := ex_oV h hk
end
end Go.E
end
section
namespace Go.Proofs.YtbopajpmadlmhaaGreat
open Go Go.E
set_option maxRecDepth 100000
variable {e w : World} {L R : List HP} {K : KV} {S S2 : HP}

def MLt (a b : Msg) : Prop := KeyLt a.key b.key ∨ (a.key = b.key ∧ a.To < b.To)
def cmpM (a b : Msg) : Int := if cmpK a.key b.key ≠ 0 then cmpK a.key b.key else cmpI a.To b.To
theorem MLt.irrefl (a : Msg) : ¬ MLt a a := by
  rintro (h | h)
  · exact KeyLt.irrefl _ h
  · omega
theorem MLt.trans {a b c : Msg} (h : MLt a b) (k : MLt b c) : MLt a c := by
  rcases h with h | ⟨h1, h2⟩
  · rcases k with k | ⟨k1, k2⟩
    · exact .inl (h.trans k)
    · rw [k1] at h; exact .inl h
  · rcases k with k | ⟨k1, k2⟩
    · rw [← h1] at k; exact .inl k
    · exact .inr ⟨h1.trans k1, by omega⟩
theorem MLt.asymm {a b : Msg} (h : MLt a b) : ¬ MLt b a := fun k => MLt.irrefl _ (h.trans k)
theorem MLt.tri (a b : Msg) : MLt a b ∨ (a.key = b.key ∧ a.To = b.To) ∨ MLt b a := by
  rcases KeyLt.tri a.key b.key with h | h | h
  · exact .inl (.inl h)
  · rcases Int.lt_trichotomy a.To b.To with k | k | k
    · exact .inl (.inr ⟨h, k⟩)
    · exact .inr (.inl ⟨h, k⟩)
    · exact .inr (.inr (.inr ⟨h.symm, k⟩))
  · exact .inr (.inr (.inl h))
theorem mLE_trans {a b c : Msg} (h : ¬ MLt a b) (k : ¬ MLt b c) : ¬ MLt a c := by
  intro hac
  rcases MLt.tri a b with h1 | h1 | h1
  · exact h h1
  · apply k
    rcases hac with h2 | h2
    · left; rw [← h1.1]; exact h2
    · right; rw [← h1.1, ← h1.2]; exact h2
  · exact k (h1.trans hac)
def swapW (l : List Msg) (i k : Nat) (x y : Msg) : List Msg := (l.set i y).set k x
theorem swapW_get {l : List Msg} {i k : Nat} {x y : Msg} (hx : l[i]? = some x) (hy : l[k]? = some y) (n : Nat) : (swapW l i k x y)[n]? = if n = k then some x else if n = i then some y else l[n]? := by
  have hi := (List.getElem?_eq_some_iff.1 hx).1
  have hk := (List.getElem?_eq_some_iff.1 hy).1
  unfold swapW
  rw [List.getElem?_set]
  by_cases h : k = n
  · subst h; simp [hk]
  · have h' : ¬ n = k := fun e => h e.symm
    rw [if_neg h, if_neg h', List.getElem?_set]
    by_cases h2 : i = n
    · subst h2; simp [hi]
    · have h2' : ¬ n = i := fun e => h2 e.symm
      rw [if_neg h2, if_neg h2']
end Go.Proofs.YtbopajpmadlmhaaGreat
namespace Go.Proofs.YtbopajpmadlmhaaGreat
open Go Go.E
set_option maxRecDepth 100000
variable {e w : World} {R : List HP} {K : KV}

def HeapyW (l : List Msg) (n : Nat) : Prop := ∀ (i : Nat) (x y : Msg), 0 < i → i < n → l[i]? = some x → l[(i - 1) / 2]? = some y → ¬ MLt x y
def UpW (l : List Msg) (j : Nat) : Prop :=
  (∀ (i : Nat) (x y : Msg), 0 < i → i ≠ j → l[i]? = some x → l[(i - 1) / 2]? = some y → ¬ MLt x y) ∧
  ∀ (i : Nat) (x y : Msg), 0 < i → 0 < j → (i - 1) / 2 = j → l[i]? = some x → l[(j - 1) / 2]? = some y → ¬ MLt x y
def DownW (l : List Msg) (j n : Nat) : Prop :=
  (∀ (i : Nat) (x y : Msg), 0 < i → i < n → (i - 1) / 2 ≠ j → l[i]? = some x → l[(i - 1) / 2]? = some y → ¬ MLt x y) ∧
  ∀ (i : Nat) (x y : Msg), 0 < i → i < n → 0 < j → (i - 1) / 2 = j → l[i]? = some x → l[(j - 1) / 2]? = some y → ¬ MLt x y
theorem HeapyW.min {l : List Msg} {n : Nat} (h : HeapyW l n) (hn : n ≤ l.length) {z : Msg} (hz : l[0]? = some z) : ∀ (i : Nat) (x : Msg), i < n → l[i]? = some x → ¬ MLt x z := by
  intro i
  induction i using Nat.strongRecOn with
  | _ i ih =>
    intro x hi hx
    by_cases h0 : i = 0
    · subst h0
      rw [hz] at hx
      injection hx with hx
      subst hx
      exact MLt.irrefl _
    · obtain ⟨y, hy⟩ := get_of_lt (l := l) (j := (i - 1) / 2) (by omega)
      exact mLE_trans (h i x y (by omega) hi hx hy) (ih _ (by omega) y (by omega) hy)
theorem UpW.done {l : List Msg} {j : Nat} (h : UpW l j) (hj : j = 0 ∨ ∃ x y, l[j]? = some x ∧ l[(j - 1) / 2]? = some y ∧ ¬ MLt x y) : HeapyW l l.length := by
  intro i x y hi _ hx hy
  by_cases hij : i = j
  · subst hij
    rcases hj with hj | ⟨x', y', hx', hy', hn⟩
    · omega
    · rw [hx] at hx'
      rw [hy] at hy'
      injection hx' with hx'
      injection hy' with hy'
      subst hx' hy'
      exact hn
  · exact h.1 i x y hi hij hx hy
theorem UpW.step {l : List Msg} {j : Nat} {x y : Msg} (h : UpW l j) (hj : 0 < j) (hx : l[j]? = some x) (hy : l[(j - 1) / 2]? = some y) (hlt : MLt x y) : UpW (swapW l ((j - 1) / 2) j y x) ((j - 1) / 2) := by
  obtain ⟨h1, h2⟩ := h
  have hg := swapW_get (i := (j - 1) / 2) (k := j) hy hx
  constructor
  · intro i a b hi hij ha hb
    rw [hg] at ha hb
    by_cases e1 : i = j
    · subst e1
      rw [if_pos rfl] at ha
      rw [if_neg (by omega), if_pos rfl] at hb
      injection ha with ha
      injection hb with hb
      subst ha hb
      exact hlt.asymm
    · rw [if_neg e1, if_neg hij] at ha
      by_cases e2 : (i - 1) / 2 = j
      · rw [if_pos e2] at hb
        injection hb with hb
        subst hb
        exact h2 i a y hi hj e2 ha hy
      · rw [if_neg e2] at hb
        by_cases e3 : (i - 1) / 2 = (j - 1) / 2
        · rw [if_pos e3] at hb
          injection hb with hb
          subst hb
          have := h1 i a y hi e1 ha (by rw [e3]; exact hy)
          intro hax
          exact this (hax.trans hlt)
        · rw [if_neg e3] at hb
          exact h1 i a b hi e1 ha hb
  · intro i a b hi hp hpar ha hb
    rw [hg] at ha hb
    rw [if_neg (by omega), if_neg (by omega)] at hb
    have hyb := h1 ((j - 1) / 2) y b hp (by omega) hy hb
    by_cases e1 : i = j
    · rw [if_pos e1] at ha
      injection ha with ha
      subst ha
      exact hyb
    · rw [if_neg e1, if_neg (by omega)] at ha
      have := h1 i a y hi e1 ha (by rw [hpar]; exact hy)
      exact mLE_trans this hyb

theorem DownW.done {l : List Msg} {j n : Nat} (h : DownW l j n) (hj : ∀ (i : Nat) (x y : Msg), 0 < i → i < n → (i - 1) / 2 = j → l[i]? = some x → l[j]? = some y → ¬ MLt x y) : HeapyW l n := by
  intro i x y hi hn hx hy
  by_cases hij : (i - 1) / 2 = j
  · exact hj i x y hi hn hij hx (by rw [← hij]; exact hy)
  · exact h.1 i x y hi hn hij hx hy
theorem DownW.step {l : List Msg} {j c n : Nat} {x y : Msg} (h : DownW l j n) (hc0 : 0 < c) (hcn : c < n) (hcj : (c - 1) / 2 = j) (hx : l[j]? = some x) (hy : l[c]? = some y) (hlt : MLt y x)
    (hmin : ∀ (i : Nat) (a : Msg), 0 < i → i < n → (i - 1) / 2 = j → l[i]? = some a → ¬ MLt a y) : DownW (swapW l j c x y) c n := by
  obtain ⟨h1, h2⟩ := h
  have hg := swapW_get (i := j) (k := c) hx hy
  constructor
  · intro i a b hi hn hij ha hb
    rw [hg] at ha hb
    rw [if_neg hij] at hb
    by_cases e1 : i = c
    · subst e1
      rw [if_pos rfl] at ha
      rw [if_pos hcj] at hb
      injection ha with ha
      injection hb with hb
      subst ha hb
      exact hlt.asymm
    · rw [if_neg e1] at ha
      by_cases e2 : (i - 1) / 2 = j
      · rw [if_pos e2] at hb
        rw [if_neg (by omega)] at ha
        injection hb with hb
        subst hb
        exact hmin i a hi hn e2 ha
      · rw [if_neg e2] at hb
        by_cases e3 : i = j
        · rw [if_pos e3] at ha
          injection ha with ha
          subst ha
          subst e3
          exact h2 c y b hc0 hcn hi hcj hy hb
        · rw [if_neg e3] at ha
          exact h1 i a b hi hn e2 ha hb
  · intro i a b hi hn hc hpar ha hb
    rw [hg] at ha hb
    rw [if_neg (by omega), if_neg (by omega)] at ha
    rw [if_neg (by omega), if_pos hcj] at hb
    injection hb with hb
    subst hb
    exact h1 i a y hi hn (by omega) ha (by rw [hpar]; exact hy)

end Go.Proofs.YtbopajpmadlmhaaGreat
end
section
namespace Go.Proofs.YtbopajpmadlmhaaGreat
open Go Go.E
set_option maxRecDepth 100000
variable {e w : World} {L R : List HP} {K : KV} {S S2 : HP}

theorem unpick {A : HP} {i : Nat} (hi : L[i]? = some S) (h : Sat e w (A :: S :: L.eraseIdx i)) : Sat e w (A :: L) := h.perm ((pick_perm L i S hi).symm.cons A)
theorem clone_ints_i {v : Value} {l : List Int} (i : Nat) (hi : L[i]? = some S) (hl : l.length ≤ 1000000) (hff : ∀ x ∈ l, ∀ v ∈ (intsK .i64) x, flat v = true) (hS : Sat e w L) (hr : ∀ g, S g → rdS 1 (intsK .i64) v l g)
    (hk : ∀ v' w', Sat e w' (ownS 3 1 (intsK .i64) v' l :: L) → K v' w') : Cl prog 95 #[v] w K :=
  clone_ints_s hl hff (hS.pick i hi) hr fun v' w' h => hk v' w' (unpick hi h)
theorem clone_outs_i {v : Value} {l : List Out} (i : Nat) (hi : L[i]? = some S) (hl : l.length ≤ 1000000) (hff : ∀ x ∈ l, ∀ v ∈ Out.cs x, flat v = true) (hS : Sat e w L) (hr : ∀ g, S g → rdS 3 Out.cs v l g)
    (hk : ∀ v' w', Sat e w' (ownS 87 3 Out.cs v' l :: L) → K v' w') : Cl prog 97 #[v] w K :=
  clone_outs_s hl hff (hS.pick i hi) hr fun v' w' h => hk v' w' (unpick hi h)
theorem clone_rules_i {v : Value} {l : List RuleX} (i : Nat) (hi : L[i]? = some S) (hl : l.length ≤ 1000000) (hff : ∀ x ∈ l, ∀ v ∈ RuleX.cs x, flat v = true) (hS : Sat e w L) (hr : ∀ g, S g → rdS 4 RuleX.cs v l g)
    (hk : ∀ v' w', Sat e w' (ownS 89 4 RuleX.cs v' l :: L) → K v' w') : Cl prog 98 #[v] w K :=
  clone_rules_s hl hff (hS.pick i hi) hr fun v' w' h => hk v' w' (unpick hi h)
theorem clone_feds_i {v : Value} {l : List FedX} (i : Nat) (hi : L[i]? = some S) (hl : l.length ≤ 1000000) (hff : ∀ x ∈ l, ∀ v ∈ FedX.cs x, flat v = true) (hS : Sat e w L) (hr : ∀ g, S g → rdS 7 FedX.cs v l g)
    (hk : ∀ v' w', Sat e w' (ownS 66 7 FedX.cs v' l :: L) → K v' w') : Cl prog 96 #[v] w K :=
  clone_feds_s hl hff (hS.pick i hi) hr fun v' w' h => hk v' w' (unpick hi h)
def RuleOwn (r : RuleX) : HP := ownS 87 3 Out.cs r.sv r.Sends
def FedOwn (f : FedX) : HP := sepL [ownS 3 1 (intsK .i64) f.pv f.Pubs, ownS 3 1 (intsK .i64) f.sv f.Subs, ownS 87 3 Out.cs f.iv f.Init, ownS 89 4 RuleX.cs f.rv f.Rules, sepL (f.Rules.map RuleOwn)]
def WdOwn (x : WdX) : HP := sepL [ownS 3 1 (intsK .i64) x.pv x.Parents, ownS 66 7 FedX.cs x.fv x.Feds, sepL (x.Feds.map FedOwn)]
theorem rdS_up {α : Type} {size : Nat} {f : α → List Value} {v : Value} {l : List α} {h g : Hp} (s : Sub h g) (k : rdS size f v l h) : rdS size f v l g := by
  obtain ⟨A, c, h1, h2, h3⟩ := k
  exact ⟨A, c, h1, h2, fun h0 => by obtain ⟨a, h4, h5⟩ := h3 h0; exact ⟨a, h4, h5.up s⟩⟩
theorem sepL_get {l : List HP} {g : Hp} {i : Nat} {P : HP} (h : sepL l g) (hi : l[i]? = some P) : ∃ g', P g' ∧ Sub g' g := SatH.get (S := P) h hi
theorem rules_rd {f : FedX} {g : Hp} (h1 : rdS 4 RuleX.cs f.rv f.Rules g) (h2 : sepL (f.Rules.map RuleOwn) g) : RdRules f.rv f.Rules g := by
  refine ⟨h1, fun r hr => ?_⟩
  obtain ⟨i, hi⟩ := List.getElem?_of_mem hr
  obtain ⟨g', h3, h4⟩ := sepL_get (i := i) (P := RuleOwn r) h2 (by rw [List.getElem?_map, hi]; rfl)
  exact rdS_up h4 (own_rd h3)
theorem RdRules.up {v : Value} {l : List RuleX} {h g : Hp} (s : Sub h g) (k : RdRules v l h) : RdRules v l g := ⟨rdS_up s k.s, fun r hr => rdS_up s (k.e r hr)⟩
theorem RdFed.up {f : FedX} {h g : Hp} (s : Sub h g) (k : RdFed f h) : RdFed f g := ⟨k.rules.up s, rdS_up s k.pubs, rdS_up s k.subs, rdS_up s k.init⟩
theorem fedOwn_rd {f : FedX} {g : Hp} (h : FedOwn f g) : RdFed f g := by
  obtain ⟨g1, k1, s1⟩ := sepL_get (i := 0) h rfl
  obtain ⟨g2, k2, s2⟩ := sepL_get (i := 1) h rfl
  obtain ⟨g3, k3, s3⟩ := sepL_get (i := 2) h rfl
  obtain ⟨g4, k4, s4⟩ := sepL_get (i := 3) h rfl
  obtain ⟨g5, k5, s5⟩ := sepL_get (i := 4) h rfl
  have k5' : sepL (f.Rules.map RuleOwn) g := SatH.up k5 s5
  exact ⟨rules_rd (rdS_up s4 (own_rd k4)) k5', rdS_up s1 (own_rd k1), rdS_up s2 (own_rd k2), rdS_up s3 (own_rd k3)⟩
theorem wdOwn_rd {x : WdX} {g : Hp} (h : WdOwn x g) : RdWd x g := by
  obtain ⟨g1, k1, s1⟩ := sepL_get (i := 0) h rfl
  obtain ⟨g2, k2, s2⟩ := sepL_get (i := 1) h rfl
  obtain ⟨g3, k3, s3⟩ := sepL_get (i := 2) h rfl
  refine ⟨rdS_up s1 (own_rd k1), rdS_up s2 (own_rd k2), fun f hf => ?_⟩
  obtain ⟨i, hi⟩ := List.getElem?_of_mem hf
  obtain ⟨g', h3, h4⟩ := sepL_get (i := i) (P := FedOwn f) k3 (by rw [List.getElem?_map, hi]; rfl)
  exact (fedOwn_rd h3).up (h4.trans s3)
theorem own_congr {α : Type} {t : TypeId} {size : Nat} {f : α → List Value} {v : Value} {l l' : List α} {g : Hp} (hl : l.map f = l'.map f) (h : ownS t size f v l g) : ownS t size f v l' g := by
  have hlen : l.length = l'.length := by simpa using congrArg List.length hl
  have hfm : l.flatMap f = l'.flatMap f := by rw [List.flatMap_def, List.flatMap_def, hl]
  rcases h with ⟨h1, h2⟩ | ⟨b, c, cs, h1, h2, h3, h4, h5⟩
  · subst h2
    refine .inl ⟨h1, List.length_eq_zero_iff.1 (by rw [← hlen]; rfl)⟩
  · exact .inr ⟨b, c, cs, by rw [← hlen]; exact h1, h2, h3, by omega, by rw [← hlen, ← hfm]; exact h5⟩
theorem rule_cells {v : Value} {l : List RuleX} (i : Nat) (hi : L[i]? = some S) (hS : Sat e w L) (hr : ∀ g, S g → RdRules v l g) : ∀ r ∈ l, ∀ c ∈ r.cs, flat c = true := by
  intro r hrm c hc
  obtain ⟨g, hg, _⟩ := hS.get i hi
  obtain ⟨A, c', hsv, _⟩ := (hr g hg).e r hrm
  simp only [RuleX.cs, List.mem_cons, List.not_mem_nil, or_false] at hc
  rcases hc with rfl | rfl | rfl | rfl
  · rfl
  · rfl
  · rfl
  · rw [hsv]; rfl
theorem sep_push {A : HP} {l : List HP} (h : Sat e w (A :: sepL l :: R)) : Sat e w (sepL (l ++ [A]) :: R) := by
  have h1 : Sat e w (sepL (A :: l) :: R) := Sat.join (l' := A :: l) (by
    have := h.swap.split
    exact this.perm (List.perm_middle (a := A) (l₁ := l) (l₂ := R)))
  exact h1.imp fun g hg => SatH.perm (List.perm_append_singleton A l).symm hg
end Go.Proofs.YtbopajpmadlmhaaGreat
namespace Go.Proofs.YtbopajpmadlmhaaGreat
open Go Go.E
set_option maxRecDepth 100000

structure FA where
  st : Int
  sent : Int
  log : List Done
def insM (m : Msg) : List Msg → List Msg
  | [] => [m]
  | a :: l => if cmpM m a < 0 then m :: a :: l else a :: insM m l
def putL (l ms : List Msg) : List Msg := ms.foldl (fun l m => insM m l) l
structure WdOk (wd : Wd) : Prop where
  tree : okTree wd.Parents
  n : 1 ≤ wd.Feds.length ∧ wd.Feds.length ≤ 8
  en : 0 ≤ wd.End ∧ wd.End ≤ 1099511627776
  sends : ∀ f ∈ wd.Feds, ∀ r ∈ f.Rules, r.Sends.length ≤ 3 ∧ ∀ o ∈ r.Sends, okSend wd.Parents.length o ∧ 1 ≤ o.Delay
  init : ∀ f ∈ wd.Feds, f.Init.length ≤ 4 ∧ ∀ o ∈ f.Init, okSend wd.Parents.length o ∧ 0 ≤ o.Delay
theorem sendsE_zero {f : Fed} : ∀ {l : List Out}, sendsE f l = 0 → ∀ o ∈ l, o.Class ∈ f.Pubs ∧ f.Look ≤ o.Delay
  | [], _, o, ho => by cases ho
  | x :: l, h, o, ho => by
    rw [sendsE_cons] at h
    split at h
    · cases h
    · rename_i h1
      split at h
      · cases h
      · rename_i h2
        rcases List.mem_cons.1 ho with rfl | ho
        · exact ⟨Classical.not_not.1 h1, by omega⟩
        · exact sendsE_zero h o ho
theorem rulesE_zero {f : Fed} {most : Int} : ∀ {l : List Rule}, rulesE f most l = 0 → ∀ r ∈ l, sendsE f r.Sends = 0
  | [], _, o, ho => by cases ho
  | x :: l, h, r, hr => by
    rw [rulesE_cons] at h
    split at h
    · cases h
    · rename_i h1
      split at h
      · rename_i h2
        exact absurd h h2
      · rename_i h2
        rcases List.mem_cons.1 hr with rfl | hr
        · exact Classical.not_not.1 h2
        · exact rulesE_zero h r hr
theorem rising_hi {most : Int} : ∀ {l : List Int} {lo : Int}, rising most lo l → ∀ c ∈ l, c < most
  | [], _, _, c, hc => by cases hc
  | a :: l, lo, h, c, hc => by
    obtain ⟨h1, h2, h3⟩ := h
    rcases List.mem_cons.1 hc with rfl | hc
    · exact h2
    · exact rising_hi h3 c hc
theorem fedE_zero {f : Fed} {most : Int} (h : fedE f most = 0) : 1 ≤ f.Look ∧ okRules f.Rules ∧ rising most (-1) f.Pubs ∧ rulesE f most f.Rules = 0 ∧ okInit f := by
  rw [fedE_chain] at h
  split at h
  · cases h
  · split at h
    · cases h
    · rename_i h1 h2
      split at h
      · cases h
      · split at h
        · cases h
        · rename_i h3 h4
          split at h
          · cases h
          · rename_i h5
            split at h
            · rename_i h6; exact absurd h h6
            · rename_i h6
              split at h
              · cases h
              · rename_i h7
                exact ⟨(Classical.not_not.1 h2).1, Classical.not_not.1 h4, (Classical.not_not.1 h5).1, Classical.not_not.1 h6, Classical.not_not.1 h7⟩
theorem fedsE_zero {most : Int} : ∀ {l : List Fed} {i : Nat}, (fedsE most i l).2 = 0 → ∀ f ∈ l, fedE f most = 0
  | [], _, _, f, hf => by cases hf
  | x :: l, i, h, f, hf => by
    rw [fedsE_cons] at h
    split at h
    · rename_i h1; exact absurd h h1
    · rename_i h1
      rcases List.mem_cons.1 hf with rfl | hf
      · exact Classical.not_not.1 h1
      · exact fedsE_zero h f hf
theorem checkW_ok {wd : Wd} (h : (checkW wd).2 = 0) : WdOk wd := by
  unfold checkW at h
  split at h
  · rename_i h1; exact absurd h h1
  · rename_i h1
    split at h
    · cases h
    · rename_i h2
      have ht : okTree wd.Parents := by
        have := Classical.not_not.1 h1
        unfold treeE at this
        split at this
        · assumption
        · cases this
      have h2 := Classical.not_not.1 h2
      have hf := fedsE_zero h
      refine ⟨ht, by omega, h2.1, fun f hfm r hr => ?_, fun f hfm => ?_⟩
      · obtain ⟨k1, k2, k3, k4, k5⟩ := fedE_zero (hf f hfm)
        have hok := k2.2.1 r hr
        refine ⟨hok.2.2.2.2.2.2.1, fun o ho => ?_⟩
        obtain ⟨p1, p2⟩ := sendsE_zero (rulesE_zero k4 r hr) o ho
        have p3 := hok.2.2.2.2.2.2.2 o ho
        exact ⟨⟨p3.1, rising_hi k3 _ p1, p3.2.2.2.2.1⟩, by omega⟩
      · obtain ⟨k1, k2, k3, k4, k5⟩ := fedE_zero (hf f hfm)
        refine ⟨k5.1, fun o ho => ?_⟩
        obtain ⟨p1, p2, p3, p4, p5⟩ := k5.2 o ho
        have := rising_lo k3 _ p1
        exact ⟨⟨by omega, rising_hi k3 _ p1, p4⟩, p2⟩

theorem routesL_mem {ps : List Int} {f c : Int} {l : List Fed} {to : Int} (h : to ∈ routesL ps f c l) : 0 ≤ to ∧ to < l.length ∧ to ≠ f := by
  unfold routesL at h
  obtain ⟨p, hp, rfl⟩ := List.mem_map.1 h
  obtain ⟨h1, h2⟩ := List.mem_filter.1 hp
  rw [Bool.and_eq_true] at h2
  have h3 := of_decide_eq_true h2.1
  have h4 := List.snd_lt_of_mem_zipIdx h1
  exact ⟨by omega, by omega, h3⟩
structure SentBy (feds : List Fed) (f seq now : Int) (k : Nat) (m : Msg) : Prop where
  from' : m.key.From = f
  seq : seq ≤ m.key.Seq ∧ m.key.Seq < seq + k
  to : 0 ≤ m.To ∧ m.To < feds.length ∧ m.To ≠ f
  body : 0 ≤ m.Body
  time : ∃ o : Out, m.key.T = addT now o.Delay
theorem spread_mem {ps : List Int} {feds : List Fed} {f seq now body : Int} {outs : List Out} {m : Msg} (h : m ∈ spreadL ps feds f seq now body outs) :
    ∃ (i : Nat) (o : Out) (to : Int), outs[i]? = some o ∧ to ∈ routesL ps f o.Class feds ∧ m = { sentM f (seq + i) now body o with To := to } := by
  unfold spreadL at h
  obtain ⟨p, hp, h⟩ := List.mem_flatMap.1 h
  obtain ⟨to, hto, rfl⟩ := List.mem_map.1 h
  have := List.mem_zipIdx_iff_getElem?.1 hp
  exact ⟨p.2, p.1, to, this, hto, rfl⟩
theorem spread_by {ps : List Int} {feds : List Fed} {f seq now body : Int} {outs : List Out} {m : Msg} (h : m ∈ spreadL ps feds f seq now body outs) : SentBy feds f seq now outs.length m := by
  obtain ⟨i, o, to, h1, h2, rfl⟩ := spread_mem h
  have hi := (List.getElem?_eq_some_iff.1 h1).1
  exact ⟨rfl, ⟨by simp only [sentM]; omega, by simp only [sentM]; omega⟩, routesL_mem h2, by simp only [sentM]; omega, o, rfl⟩
end Go.Proofs.YtbopajpmadlmhaaGreat
namespace Go.Proofs.YtbopajpmadlmhaaGreat
open Go Go.E
set_option maxRecDepth 100000

theorem stepR_cases (l : List Rule) (s c : Int) : (∃ r ∈ l, r.State = s ∧ r.Class = c ∧ stepR l s c = (r.Next, r.Sends)) ∨ ((∀ r ∈ l, ¬ (r.State = s ∧ r.Class = c)) ∧ stepR l s c = (s, [])) := by
  unfold stepR
  cases h : l.find? fun r => decide (r.State = s) && decide (r.Class = c) with
  | some r =>
    have h1 := List.find?_some h
    rw [Bool.and_eq_true] at h1
    exact .inl ⟨r, List.mem_of_find?_eq_some h, of_decide_eq_true h1.1, of_decide_eq_true h1.2, rfl⟩
  | none =>
    rw [List.find?_eq_none] at h
    exact .inr ⟨fun r hr hn => h r hr (by rw [Bool.and_eq_true]; exact ⟨decide_eq_true hn.1, decide_eq_true hn.2⟩), rfl⟩
theorem step_outs {wd : Wd} (hw : WdOk wd) {f : Fed} (hf : f ∈ wd.Feds) (s c : Int) : (stepR f.Rules s c).2.length ≤ 3 ∧ ∀ o ∈ (stepR f.Rules s c).2, okSend wd.Parents.length o ∧ 1 ≤ o.Delay := by
  rcases stepR_cases f.Rules s c with ⟨r, hr, _, _, h⟩ | ⟨_, h⟩
  · rw [h]; exact hw.sends f hf r hr
  · rw [h]; exact ⟨by simp, by simp⟩
end Go.Proofs.YtbopajpmadlmhaaGreat
end
section
namespace Go.Proofs.YtbopajpmadlmhaaGreat
open Go Go.E
set_option maxRecDepth 100000

structure Clk where
  (L : List Int) (self : Int) (told : Int)
def Clk.okJ (c : Clk) (j : Int) : Prop := 0 ≤ j ∧ j < c.L.length ∧ j ≠ c.self
instance (c : Clk) (j : Int) : Decidable (c.okJ j) := inferInstanceAs (Decidable (_ ∧ _))
def Clk.get (c : Clk) (j : Int) : Int := c.L.getD j.toNat 0
def Clk.at' (c : Clk) (j : Int) : Int := if c.okJ j then c.get j else -1
def Clk.hearE (c : Clk) (j t : Int) : Int := if ¬ c.okJ j ∨ validT t = false then 1 else if t < c.get j then 110 else 0
def Clk.hear (c : Clk) (j t : Int) : Clk := if c.hearE j t = 0 then ⟨c.L.set j.toNat t, c.self, c.told⟩ else c
def Clk.bound (c : Clk) : Int := (List.range c.L.length).foldl (fun (n : Int) (j : Nat) => if (j : Int) = c.self then n else min n (c.get j)) Inf
theorem Clk.hearE_bad {c : Clk} {j t : Int} (h : ¬ c.okJ j ∨ validT t = false) : c.hearE j t = 1 := if_pos h
theorem Clk.hearE_early {c : Clk} {j t : Int} (h : c.okJ j) (hv : validT t = true) (h1 : t < c.get j) : c.hearE j t = 110 := by
  unfold Clk.hearE
  rw [if_neg (by simp [h, hv]), if_pos h1]
theorem Clk.hearE_ok {c : Clk} {j t : Int} (h : c.okJ j) (hv : validT t = true) (h1 : ¬ t < c.get j) : c.hearE j t = 0 := by
  unfold Clk.hearE
  rw [if_neg (by simp [h, hv]), if_neg h1]
theorem Clk.hear_bad {c : Clk} {j t : Int} (h : ¬ c.okJ j ∨ validT t = false) : c.hear j t = c := by
  unfold Clk.hear
  rw [hearE_bad h, if_neg (by decide)]
theorem Clk.hear_early {c : Clk} {j t : Int} (h : c.okJ j) (hv : validT t = true) (h1 : t < c.get j) : c.hear j t = c := by
  unfold Clk.hear
  rw [hearE_early h hv h1, if_neg (by decide)]
theorem Clk.hear_ok {c : Clk} {j t : Int} (h : c.okJ j) (hv : validT t = true) (h1 : ¬ t < c.get j) : c.hear j t = ⟨c.L.set j.toNat t, c.self, c.told⟩ := by
  unfold Clk.hear
  rw [hearE_ok h hv h1, if_pos rfl]

def kI : Int → Value := fun n => .int .i64 n
def MapOf (c : Clk) (m : List (Int × Int)) : Prop := Uniq m ∧ ∀ j, lkA m j = if c.okJ j then some (c.get j) else none
variable {e w : World} {R : List HP} {K : KV}

theorem MapOf.mem {c : Clk} {m : List (Int × Int)} (h : MapOf c m) {p : Int × Int} : p ∈ m ↔ c.okJ p.1 ∧ p.2 = c.get p.1 := by
  have hk := h.2 p.1
  constructor
  · intro hp
    have hf : lkA m p.1 = some p.2 := by
      unfold lkA
      rw [find_uniq h.1 hp]
      rfl
    rw [hf] at hk
    by_cases ho : c.okJ p.1
    · rw [if_pos ho] at hk
      exact ⟨ho, Option.some.inj hk⟩
    · rw [if_neg ho] at hk
      cases hk
  · rintro ⟨ho, he⟩
    rw [if_pos ho] at hk
    unfold lkA at hk
    obtain ⟨q, hq, hv⟩ := Option.map_eq_some_iff.1 hk
    have h1 := List.mem_of_find?_eq_some hq
    have h2 := List.find?_some hq
    simp only [decide_eq_true_eq] at h2
    have : q = p := by cases q; cases p; simp_all
    exact this ▸ h1

theorem MapOf.step {c : Clk} {m : List (Int × Int)} (h : MapOf c m) {j t : Int} (hj : c.okJ j) (told : Int) : MapOf ⟨c.L.set j.toNat t, c.self, told⟩ (upA m j t) := by
  refine ⟨h.1.up j t, fun i => ?_⟩
  rw [lkA_up h.1]
  have hok : ∀ i, Clk.okJ ⟨c.L.set j.toNat t, c.self, told⟩ i ↔ c.okJ i := fun i => by simp [Clk.okJ]
  have hlt : j.toNat < c.L.length := by have := hj.2.1; have := hj.1; omega
  by_cases hij : i = j
  · subst hij
    rw [if_pos rfl, if_pos ((hok _).2 hj)]
    simp [Clk.get, List.getD_eq_getElem?_getD, hlt]
  · rw [if_neg hij, h.2 i]
    by_cases ho : c.okJ i
    · rw [if_pos ho, if_pos ((hok _).2 ho)]
      have hne : j.toNat ≠ i.toNat := by have := ho.1; have := hj.1; omega
      simp [Clk.get, List.getD_eq_getElem?_getD, hne]
    · rw [if_neg ho, if_neg (fun k => ho ((hok _).1 k))]

end Go.Proofs.YtbopajpmadlmhaaGreat
end
section
namespace Go.Proofs.YtbopajpmadlmhaaGreat
open Go Go.E
set_option maxRecDepth 100000
variable {e w : World} {R : List HP} {K : KV}

theorem clampT_id {t : Int} (h0 : 0 ≤ t) (h1 : t ≤ MaxT) : clampT t = t := by unfold clampT; rw [if_neg (by omega), if_neg (by omega)]

structure CStep where
  (Kind A B : Int)
  deriving DecidableEq
def CStep.ns (s : CStep) : List Int := [s.Kind, s.A, s.B]
abbrev CStep.cs (s : CStep) : List Value := ints s.ns
def CStep.of (l : List Int) : CStep := ⟨l.getD 0 0, l.getD 1 0, l.getD 2 0⟩
theorem CStep.of_ns {l : List Int} (h : l.length = 3) : (CStep.of l).ns = l := by
  match l, h with
  | [_, _, _], _ => rfl
theorem CStep.of_cs {l : List Int} (h : l.length = 3) : (CStep.of l).cs = ints l := congrArg ints (CStep.of_ns h)

end Go.Proofs.YtbopajpmadlmhaaGreat
namespace Go.Proofs.YtbopajpmadlmhaaGreat
open Go Go.E
set_option maxRecDepth 100000
variable {e w : World} {R : List HP} {K : KV}

def Clk.Good (c : Clk) : Prop := ∀ x ∈ c.L, 0 ≤ x ∧ x ≤ Inf
theorem validT_bd {t : Int} (h : validT t = true) : 0 ≤ t ∧ t ≤ Inf := by
  simp only [validT, decide_eq_true_eq] at h
  unfold Inf MaxT at *
  omega
theorem Clk.Good.get {c : Clk} (h : c.Good) {j : Int} (hj : c.okJ j) : 0 ≤ c.get j ∧ c.get j ≤ Inf := by
  refine h _ ?_
  have hl : j.toNat < c.L.length := by have := hj.1; have := hj.2.1; omega
  unfold Clk.get
  rw [List.getD_eq_getElem?_getD, List.getElem?_eq_getElem hl]
  exact List.getElem_mem hl
theorem Clk.hear_cases (c : Clk) (j t : Int) : (c.hearE j t ≠ 0 ∧ c.hear j t = c) ∨ (c.okJ j ∧ validT t = true ∧ ¬ t < c.get j ∧ c.hearE j t = 0 ∧ c.hear j t = ⟨c.L.set j.toNat t, c.self, c.told⟩) := by
  by_cases h : ¬ c.okJ j ∨ validT t = false
  · exact .inl ⟨by rw [Clk.hearE_bad h]; decide, Clk.hear_bad h⟩
  · have ho : c.okJ j := by by_cases k : c.okJ j; exact k; exact absurd (Or.inl k) h
    have hv : validT t = true := by cases k : validT t; exact absurd (Or.inr k) h; rfl
    by_cases h1 : t < c.get j
    · exact .inl ⟨by rw [Clk.hearE_early ho hv h1]; decide, Clk.hear_early ho hv h1⟩
    · exact .inr ⟨ho, hv, h1, Clk.hearE_ok ho hv h1, Clk.hear_ok ho hv h1⟩
theorem Clk.Good.hear {c : Clk} (h : c.Good) (j t : Int) : (c.hear j t).Good := by
  rcases c.hear_cases j t with ⟨_, h1⟩ | ⟨_, hv, _, _, h1⟩
  · rw [h1]; exact h
  · rw [h1]
    intro x hx
    rcases List.mem_or_eq_of_mem_set hx with hx | rfl
    · exact h x hx
    · exact validT_bd hv
end Go.Proofs.YtbopajpmadlmhaaGreat
end
section
namespace Go.Proofs.YtbopajpmadlmhaaGreat
open Go Go.E
set_option maxRecDepth 100000
variable {e w : World} {R : List HP} {K : KV}

def kfK (k : Key) : Value := .agg k.cs.toArray
def vfN (n : Nat) : Value := .int .i64 (n : Int)
theorem keyT_Key : KeyT prog 35 kfK :=
  keyT_chk (κ := Key) (ns := Key.ns) (n := 6) Tryz.underlying35 eqT_35 agg_35 (by decide) (fun _ => rfl) Key.eq_ns (fun b k w => by cases b <;> kernel_rfl)

structure AtOk (m : List (Key × Nat)) (l : List Msg) : Prop where
  u : Uniq m
  ok : ∀ (k : Key) (i : Nat), lkA m k = some i ↔ ∃ x, l[i]? = some x ∧ x.key = k
theorem AtOk.nil : AtOk [] [] := ⟨List.nodup_nil, fun k i => by simp [lkA]⟩
theorem AtOk.inj {m : List (Key × Nat)} {l : List Msg} (h : AtOk m l) {i j : Nat} {x y : Msg} (hx : l[i]? = some x) (hy : l[j]? = some y) (hk : x.key = y.key) : i = j := by
  have h1 := (h.ok x.key i).2 ⟨x, hx, rfl⟩
  have h2 := (h.ok x.key j).2 ⟨y, hy, hk.symm⟩
  rw [h1] at h2
  injection h2
theorem AtOk.has {m : List (Key × Nat)} {l : List Msg} (h : AtOk m l) (k : Key) : (lkA m k).isSome = true ↔ ∃ x ∈ l, x.key = k := by
  constructor
  · intro hs
    obtain ⟨i, hi⟩ := Option.isSome_iff_exists.1 hs
    obtain ⟨x, hx, hk⟩ := (h.ok k i).1 hi
    exact ⟨x, List.mem_of_getElem? hx, hk⟩
  · rintro ⟨x, hx, hk⟩
    obtain ⟨i, hi⟩ := List.mem_iff_getElem?.1 hx
    rw [(h.ok k i).2 ⟨x, hi, hk⟩]
    rfl
theorem AtOk.push {m : List (Key × Nat)} {l : List Msg} (h : AtOk m l) {x : Msg} (hx : ∀ y ∈ l, y.key ≠ x.key) : AtOk (upA m x.key l.length) (l ++ [x]) := by
  refine ⟨h.u.up _ _, fun k i => ?_⟩
  rw [lkA_up h.u]
  by_cases hk : k = x.key
  · rw [if_pos hk]
    constructor
    · intro hi
      injection hi with hi
      subst hi
      exact ⟨x, by simp, hk.symm⟩
    · rintro ⟨y, hy, hyk⟩
      by_cases hil : i < l.length
      · rw [List.getElem?_append_left hil] at hy
        exact absurd (hyk.trans hk) (hx y (List.mem_of_getElem? hy))
      · have hle := (List.getElem?_eq_some_iff.1 hy).1
        rw [List.length_append] at hle
        simp only [List.length_cons, List.length_nil] at hle
        rw [show i = l.length by omega]
  · rw [if_neg hk, h.ok k i]
    constructor
    · rintro ⟨y, hy, hyk⟩
      exact ⟨y, by rw [List.getElem?_append_left (List.getElem?_eq_some_iff.1 hy).1]; exact hy, hyk⟩
    · rintro ⟨y, hy, hyk⟩
      by_cases hil : i < l.length
      · rw [List.getElem?_append_left hil] at hy
        exact ⟨y, hy, hyk⟩
      · have hle := (List.getElem?_eq_some_iff.1 hy).1
        rw [List.length_append] at hle
        simp only [List.length_cons, List.length_nil] at hle
        rw [show i = l.length by omega] at hy
        have : y = x := by simpa using hy.symm
        rw [this] at hyk
        exact absurd hyk.symm hk
def swapM (l : List Msg) (i k : Nat) (x y : Msg) : List Msg := (l.set i y).set k x
theorem swapM_len (l : List Msg) (i k : Nat) (x y : Msg) : (swapM l i k x y).length = l.length := by simp [swapM]
theorem swapM_get {l : List Msg} {i k : Nat} {x y : Msg} (hx : l[i]? = some x) (hy : l[k]? = some y) (n : Nat) : (swapM l i k x y)[n]? = if n = k then some x else if n = i then some y else l[n]? := by
  have hi := (List.getElem?_eq_some_iff.1 hx).1
  have hk := (List.getElem?_eq_some_iff.1 hy).1
  unfold swapM
  rw [List.getElem?_set]
  by_cases h : k = n
  · subst h; simp [hk]
  · have h' : ¬ n = k := fun e => h e.symm
    rw [if_neg h, if_neg h', List.getElem?_set]
    by_cases h2 : i = n
    · subst h2; simp [hi]
    · have h2' : ¬ n = i := fun e => h2 e.symm
      rw [if_neg h2, if_neg h2']
theorem AtOk.swap {m : List (Key × Nat)} {l : List Msg} (h : AtOk m l) {i k : Nat} {x y : Msg} (hx : l[i]? = some x) (hy : l[k]? = some y) : AtOk (upA (upA m y.key i) x.key k) (swapM l i k x y) := by
  have u1 := h.u.up y.key i
  refine ⟨u1.up _ _, fun q n => ?_⟩
  rw [lkA_up u1, lkA_up h.u, swapM_get hx hy]
  by_cases h1 : q = x.key
  · rw [if_pos h1]
    constructor
    · intro hn
      injection hn with hn
      subst hn
      exact ⟨x, by rw [if_pos rfl], h1.symm⟩
    · rintro ⟨z, hz, hzk⟩
      split at hz
      · rename_i e; rw [e]
      · split at hz
        · rename_i e1 e2
          injection hz with hz
          subst hz
          have := h.inj hx hy (by rw [hzk, h1])
          omega
        · rename_i e1 e2
          have := h.inj hz hx (by rw [hzk, h1])
          omega
  · rw [if_neg h1]
    by_cases h2 : q = y.key
    · rw [if_pos h2]
      constructor
      · intro hn
        injection hn with hn
        subst hn
        refine ⟨y, ?_, h2.symm⟩
        by_cases hik : i = k
        · subst hik
          rw [hx] at hy
          injection hy with hy
          subst hy
          exact absurd h2 h1
        · rw [if_neg hik, if_pos rfl]
      · rintro ⟨z, hz, hzk⟩
        split at hz
        · injection hz with hz
          subst hz
          exact absurd hzk.symm h1
        · split at hz
          · rename_i e1 e2; rw [e2]
          · rename_i e1 e2
            have := h.inj hz hy (by rw [hzk, h2])
            omega
    · rw [if_neg h2, h.ok q n]
      constructor
      · rintro ⟨z, hz, hzk⟩
        refine ⟨z, ?_, hzk⟩
        have n1 : n ≠ k := fun e => by subst e; rw [hy] at hz; injection hz with hz; subst hz; exact h2 hzk.symm
        have n2 : n ≠ i := fun e => by subst e; rw [hx] at hz; injection hz with hz; subst hz; exact h1 hzk.symm
        rw [if_neg n1, if_neg n2]
        exact hz
      · rintro ⟨z, hz, hzk⟩
        split at hz
        · injection hz with hz; subst hz; exact absurd hzk.symm h1
        · split at hz
          · injection hz with hz; subst hz; exact absurd hzk.symm h2
          · exact ⟨z, hz, hzk⟩
theorem swapM_perm {l : List Msg} {i k : Nat} {x y : Msg} (hx : l[i]? = some x) (hy : l[k]? = some y) : (swapM l i k x y).Perm l := by
  have hi := (List.getElem?_eq_some_iff.1 hx)
  have hk := (List.getElem?_eq_some_iff.1 hy)
  by_cases hik : i = k
  · subst hik
    rw [hx] at hy
    injection hy with hy
    subst hy
    have : swapM l i i x x = l := by
      apply List.ext_getElem?
      intro n
      rw [swapM_get hx hx]
      split
      · rename_i e; subst e; exact hx.symm
      · rfl
    rw [this]
  · unfold swapM
    have h1 := List.set_set_perm hi.1 hk.1
    rw [hi.2, hk.2] at h1
    exact h1

structure PX where
  (v : Value) (b : Nat) (m : List (Key × Nat))
def IsPrio (q : Nat) (room : Int) (l : List Msg) : HP := hex fun x : PX => sepL [pur (AtOk x.m l), blk q 155 [.int .i64 room, x.v, .map (some x.b)], ownS 37 6 Msg.cs x.v l, isMap kfK vfN x.b x.m]
theorem prio_of {q : Nat} {room : Int} {l : List Msg} (h : Sat e w (IsPrio q room l :: R)) : ∃ v b m, AtOk m l ∧ Sat e w (blk q 155 [.int .i64 room, v, .map (some b)] :: ownS 37 6 Msg.cs v l :: isMap kfK vfN b m :: R) := by
  obtain ⟨x, h0⟩ := h.ex
  exact ⟨x.v, x.b, x.m, Sat.pure h0.split⟩
theorem prio_mk {q : Nat} {room : Int} {l : List Msg} {v : Value} {b : Nat} {m : List (Key × Nat)} (ha : AtOk m l) (h : Sat e w (blk q 155 [.int .i64 room, v, .map (some b)] :: ownS 37 6 Msg.cs v l :: isMap kfK vfN b m :: R)) : Sat e w (IsPrio q room l :: R) :=
  .mk_ex ⟨v, b, m⟩ (.join (l' := [_, _, _, _]) (.mk_pure ha h))

theorem prio_New_s {n : Int} (hS : Sat e w R) (hk : ∀ q w', Sat e w' (IsPrio q (max 0 (min n 64)) [] :: R) → K (.pointer (some ⟨q, 0, none⟩)) w') : Cl prog 44 #[.int .i64 n] w K := by
  refine prio_New_calls ?_
  unfold prio_New
  refine min_s (max_s ?_)
  refine mkMap_s kfK vfN hS fun b w1 h1 => ?_
  rw [zero_155]
  refine bld_s [.int .i64 (max 0 (min n 64)), .slice none 0 0, .map (some b)] (by kernel_rfl) ?_
  refine al_s (cs := [.int .i64 (max 0 (min n 64)), .slice none 0 0, .map (some b)]) h1 rfl fun q w2 h2 => ?_
  refine hk _ _ (prio_mk (v := .slice none 0 0) AtOk.nil ((h2.own_nil 37 6 Msg.cs).selR [_, _, _] [_, _, _] [1, 0, 2] (by decide) rfl))
theorem prio_Len_s {q : Nat} {room : Int} {l : List Msg} (hS : Sat e w (IsPrio q room l :: R)) (hk : K (.int .i64 (l.length : Int)) w) : Cl prog 101 #[.pointer (some ⟨q, 0, none⟩)] w K := by
  obtain ⟨v, b, m, ha, h1⟩ := prio_of hS
  refine prio_Queue_Len_calls ?_
  unfold prio_Queue_Len
  refine ncP_p (fld_at (ld1_at h1 0 rfl (v := v) rfl ?_))
  exact lnS_rd h1 1 rfl (fun g hg => own_rd hg) hk

abbrev rcv (q : Nat) : Value := .agg #[.pointer (some ⟨q, 0, none⟩)]
theorem faced_Len_s {q : Nat} {room : Int} {l : List Msg} (hS : Sat e w (IsPrio q room l :: R)) (hk : ∀ w', Sat e w' (IsPrio q room l :: R) → K (.int .i64 (l.length : Int)) w') : clI prog (.iface 172 (rcv q)) "Len" #[] w K := by
  refine clI_s (f := 224) (rcv := rcv q) (by kernel_rfl) ?_
  refine prio_faced_Len_calls (t0 := rcv q) ?_
  unfold prio_faced_Len
  obtain ⟨v, b, m, ha, h1⟩ := prio_of hS
  refine al_s (cs := [.pointer (some ⟨q, 0, none⟩)]) h1 rfl fun c w2 h2 => ?_
  refine fld_at (ld1_at h2 0 rfl (v := .pointer (some ⟨q, 0, none⟩)) rfl ?_)
  refine ncP_p (fld_at (ld1_at h2 1 rfl (v := v) rfl ?_))
  exact lnS_rd h2 2 rfl (fun g hg => own_rd hg) (hk _ (prio_mk ha h2.drop))
theorem faced_Less_s {q i k : Nat} {room : Int} {l : List Msg} {x y : Msg} (hx : l[i]? = some x) (hy : l[k]? = some y) (hS : Sat e w (IsPrio q room l :: R)) (hk : ∀ w', Sat e w' (IsPrio q room l :: R) → K (.bool (decide (cmpK x.key y.key < 0))) w') :
    clI prog (.iface 172 (rcv q)) "Less" #[.int .i64 (i : Int), .int .i64 (k : Int)] w K := by
  refine clI_s (f := 225) (rcv := rcv q) (by kernel_rfl) ?_
  refine prio_faced_Less_calls (t0 := rcv q) (t1 := .int .i64 (i : Int)) (t2 := .int .i64 (k : Int)) ?_
  unfold prio_faced_Less
  obtain ⟨v, b, m, ha, h1⟩ := prio_of hS
  refine al_s (cs := [.pointer (some ⟨q, 0, none⟩)]) h1 rfl fun c w2 h2 => ?_
  refine dr_s h2 fun w3 h3 => ?_
  refine fld_at (ld1_at h3 0 rfl (v := .pointer (some ⟨q, 0, none⟩)) rfl ?_)
  refine ncP_p (fld_at (ld1_at h3 1 rfl (v := v) rfl ?_))
  refine ixS_rd h3 2 rfl (fun g hg => own_rd hg) (fun _ => rfl) hx fun p hp => ?_
  refine fld_of hp fun p1 hp1 => ?_
  refine ldN_sub (us := x.key.cs) h3 2 rfl hp1 (by rfl) rfl ?_
  refine fld_at (ld1_at h3 0 rfl (v := .pointer (some ⟨q, 0, none⟩)) rfl ?_)
  refine ncP_p (fld_at (ld1_at h3 1 rfl (v := v) rfl ?_))
  refine ixS_rd h3 2 rfl (fun g hg => own_rd hg) (fun _ => rfl) hy fun p hp => ?_
  refine fld_of hp fun p1 hp1 => ?_
  refine ldN_sub (us := y.key.cs) h3 2 rfl hp1 (by rfl) rfl ?_
  refine vtime_Cmp_s h3 fun w4 h4 => ?_
  exact lt_d (hk _ (prio_mk ha h4.drop))
theorem faced_Swap_s {q i k : Nat} {room : Int} {l : List Msg} {x y : Msg} (hx : l[i]? = some x) (hy : l[k]? = some y) (hS : Sat e w (IsPrio q room l :: R)) (hk : ∀ w', Sat e w' (IsPrio q room (swapM l i k x y) :: R) → K (.tuple #[]) w') :
    clI prog (.iface 172 (rcv q)) "Swap" #[.int .i64 (i : Int), .int .i64 (k : Int)] w K := by
  refine clI_s (f := 228) (rcv := rcv q) (by kernel_rfl) ?_
  refine prio_faced_Swap_calls (t0 := rcv q) (t1 := .int .i64 (i : Int)) (t2 := .int .i64 (k : Int)) ?_
  unfold prio_faced_Swap
  obtain ⟨v, b, m, ha, h1⟩ := prio_of hS
  have hi := (List.getElem?_eq_some_iff.1 hx).1
  have hkl := (List.getElem?_eq_some_iff.1 hy).1
  refine al_s (cs := [.pointer (some ⟨q, 0, none⟩)]) h1 rfl fun c w2 h2 => ?_
  refine dr_s h2 fun w3 h3 => ?_
  refine fld_at (ld1_at h3 0 rfl (v := .pointer (some ⟨q, 0, none⟩)) rfl ?_)
  refine ncP_p (fld_at (ld1_at h3 1 rfl (v := v) rfl ?_))
  refine fld_at (ld1_at h3 0 rfl (v := .pointer (some ⟨q, 0, none⟩)) rfl ?_)
  refine ncP_p (fld_at (ld1_at h3 1 rfl (v := v) rfl ?_))
  refine fld_at (ld1_at h3 0 rfl (v := .pointer (some ⟨q, 0, none⟩)) rfl ?_)
  refine ncP_p (fld_at (ld1_at h3 1 rfl (v := v) rfl ?_))
  refine ixS_rd h3 2 rfl (fun g hg => own_rd hg) (fun _ => rfl) hy fun p hp => ?_
  refine ldN_of h3 2 rfl hp rfl ?_
  refine fld_at (ld1_at h3 0 rfl (v := .pointer (some ⟨q, 0, none⟩)) rfl ?_)
  refine ncP_p (fld_at (ld1_at h3 1 rfl (v := v) rfl ?_))
  refine ixS_rd h3 2 rfl (fun g hg => own_rd hg) (fun _ => rfl) hx fun p hp => ?_
  refine ldN_of h3 2 rfl hp rfl ?_
  refine st_own' h3 2 rfl (fun _ => rfl) hi (x := y) rfl (ints_flat _) fun w4 h4 => ?_
  refine st_own' h4 2 rfl (fun _ => rfl) (by rw [List.length_set]; exact hkl) (x := x) rfl (ints_flat _) fun w5 h5 => ?_
  replace h5 : Sat e w5 (blk c 172 [.pointer (some ⟨q, 0, none⟩)] :: blk q 155 [.int .i64 room, v, .map (some b)] :: ownS 37 6 Msg.cs v (swapM l i k x y) :: isMap kfK vfN b m :: R) := h5
  have hgi : (swapM l i k x y)[i]? = some y := by
    rw [swapM_get hx hy]
    by_cases hik : i = k
    · subst hik; rw [if_pos rfl]; rw [hx] at hy; exact hy
    · rw [if_neg hik, if_pos rfl]
  have hgk : (swapM l i k x y)[k]? = some x := by rw [swapM_get hx hy, if_pos rfl]
  refine dr_s h5 fun w6 h6 => ?_
  refine fld_at (ld1_at h6 0 rfl (v := .pointer (some ⟨q, 0, none⟩)) rfl ?_)
  refine ncP_p (fld_at (ld1_at h6 1 rfl (v := .map (some b)) rfl ?_))
  refine fld_at (ld1_at h6 0 rfl (v := .pointer (some ⟨q, 0, none⟩)) rfl ?_)
  refine ncP_p (fld_at (ld1_at h6 1 rfl (v := v) rfl ?_))
  refine ixS_rd h6 2 rfl (fun g hg => own_rd hg) (fun _ => rfl) hgi fun p hp => ?_
  refine fld_of hp fun p1 hp1 => ?_
  refine ldN_sub (us := y.key.cs) h6 2 rfl hp1 (by rfl) rfl ?_
  refine fld_at (ld1_at h6 0 rfl (v := .pointer (some ⟨q, 0, none⟩)) rfl ?_)
  refine ncP_p (fld_at (ld1_at h6 1 rfl (v := .map (some b)) rfl ?_))
  refine fld_at (ld1_at h6 0 rfl (v := .pointer (some ⟨q, 0, none⟩)) rfl ?_)
  refine ncP_p (fld_at (ld1_at h6 1 rfl (v := v) rfl ?_))
  refine ixS_rd h6 2 rfl (fun g hg => own_rd hg) (fun _ => rfl) hgk fun p hp => ?_
  refine fld_of hp fun p1 hp1 => ?_
  refine ldN_sub (us := x.key.cs) h6 2 rfl hp1 (by rfl) rfl ?_
  have hy1 : (lkA m y.key).isSome = true := (ha.has y.key).2 ⟨y, List.mem_of_getElem? hy, rfl⟩
  have hx1 : (lkA (upA m y.key i) x.key).isSome = true := by
    rw [lkA_up ha.u]
    split
    · rfl
    · exact (ha.has x.key).2 ⟨x, List.mem_of_getElem? hx, rfl⟩
  refine mes_s keyT_Key mapT_153 ha.u (h6.pick 3 rfl) y.key i rfl hy1 fun w7 h7 => ?_
  refine mes_s keyT_Key mapT_153 (ha.u.up _ _) h7 x.key k rfl hx1 fun w8 h8 => ?_
  exact hk _ (prio_mk (ha.swap hx hy) (h8.selR [_, _, _, _] [_, _, _] [2, 3, 0] (by decide) rfl))
theorem faced_Push_s {q : Nat} {room : Int} {l : List Msg} {x : Msg} (hx : ∀ y ∈ l, y.key ≠ x.key) (hl : l.length ≤ 1000) (hS : Sat e w (IsPrio q room l :: R)) (hk : ∀ w', Sat e w' (IsPrio q room (l ++ [x]) :: R) → K (.tuple #[]) w') :
    clI prog (.iface 172 (rcv q)) "Push" #[.iface 37 (.agg x.cs.toArray)] w K := by
  refine clI_s (f := 227) (rcv := rcv q) (by kernel_rfl) ?_
  refine prio_faced_Push_calls (t0 := rcv q) (t1 := .iface 37 (.agg x.cs.toArray)) ?_
  unfold prio_faced_Push
  obtain ⟨v, b, m, ha, h1⟩ := prio_of hS
  refine al_s (cs := [.pointer (some ⟨q, 0, none⟩)]) h1 rfl fun c w2 h2 => ?_
  refine tyA_ok (by kernel_rfl) ?_
  rw [zero_37]
  refine al_s (cs := ints [0, 0, 0, 0, 0, 0]) h2 rfl fun d w3 h3 => ?_
  refine stN_at h3 0 rfl (vs := x.cs) rfl rfl (Nat.le_of_ble_eq_true rfl) (ints_flat _) (cs' := x.cs) (by kernel_rfl) fun w4 h4 => ?_
  refine dr_s h4 fun w5 h5 => ?_
  refine fld_at (ld1_at h5 1 rfl (v := .pointer (some ⟨q, 0, none⟩)) rfl ?_)
  refine ncP_p (fld_at (ld1_at h5 2 rfl (v := .map (some b)) rfl ?_))
  refine fld_at (ldN_at h5 0 (vs := x.key.cs) rfl (by rfl) rfl ?_)
  refine fld_at (ld1_at h5 1 rfl (v := .pointer (some ⟨q, 0, none⟩)) rfl ?_)
  refine ncP_p (fld_at (ld1_at h5 2 rfl (v := v) rfl ?_))
  refine lnS_rd h5 3 rfl (fun g hg => own_rd hg) ?_
  refine upM_s keyT_Key mapT_153 ha.u (h5.pick 4 rfl) x.key l.length rfl fun w6 h6 => ?_
  replace h6 : Sat e w6 (ownS 37 6 Msg.cs v l :: blk d 37 x.cs :: blk c 172 [.pointer (some ⟨q, 0, none⟩)] :: blk q 155 [.int .i64 room, v, .map (some b)] :: isMap kfK vfN b (upA m x.key l.length) :: R) :=
    h6.selR [_, _, _, _, _] [_, _, _, _, _] [4, 1, 2, 3, 0] (by decide) rfl
  refine dr_s h6 fun w7 h7 => ?_
  refine fld_at (ld1_at h7 2 rfl (v := .pointer (some ⟨q, 0, none⟩)) rfl ?_)
  refine fld_at (ld1_at h7 2 rfl (v := .pointer (some ⟨q, 0, none⟩)) rfl ?_)
  refine ncP_p (fld_at (ld1_at h7 3 rfl (v := v) rfl ?_))
  refine ldN_at h7 1 (vs := x.cs) rfl (by rfl) rfl ?_
  refine bsl1 (vs := x.cs) rfl rfl h7 fun b30 w8 h8 => ?_
  refine ⟨ld1_at h8 4 rfl rfl ⟨rfl, rfl⟩, ld1_at h8 3 rfl rfl ⟨rfl, rfl⟩, ld1_at h8 3 rfl rfl ⟨rfl, rfl⟩, ?_⟩
  refine apS_own te_33 und_33 (f := Msg.cs) (fun _ => rfl) (fun _ => ints_flat _) h8.swap (m := [x]) (blk_rd1 (f := Msg.cs) (x := x) (Nat.le_refl _)) (by simp; omega) fun v' w9 h9 => ?_
  refine ⟨ld1_at h9 3 rfl rfl ⟨rfl, rfl⟩, ?_⟩
  refine ncP_p (fld_at ?_)
  refine st1_at h9 4 rfl (h9.own_cells 0 rfl) (Nat.le_of_ble_eq_true rfl) rfl fun w10 h10 => ?_
  exact hk _ (prio_mk (ha.push hx) (h10.selR [_, _, _, _, _, _] [_, _, _] [4, 0, 5] (by decide) rfl))
end Go.Proofs.YtbopajpmadlmhaaGreat
end
section
namespace Go.Proofs.YtbopajpmadlmhaaGreat
open Go Go.E
set_option maxRecDepth 100000
variable {e w : World} {R : List HP} {K : KV}

theorem quo_s {k : IntKind} {a b : Int} (hb : b ≠ 0) (h : K (.int k (k.wrap (a.tdiv b))) w) : bi .quo k (.int k a) (.int k b) w K := ⟨a, b, rfl, rfl, fun _ => hb, h⟩
theorem keyLE_trans {a b c : Key} (h : ¬ KeyLt a b) (k : ¬ KeyLt b c) : ¬ KeyLt a c := by
  intro hac
  rcases KeyLt.tri a b with h1 | h1 | h1
  · exact h h1
  · subst h1; exact k hac
  · exact k (h1.trans hac)
def Heapy (l : List Msg) (n : Nat) : Prop := ∀ (i : Nat) (x y : Msg), 0 < i → i < n → l[i]? = some x → l[(i - 1) / 2]? = some y → ¬ KeyLt x.key y.key
def UpInv (l : List Msg) (j : Nat) : Prop :=
  (∀ (i : Nat) (x y : Msg), 0 < i → i ≠ j → l[i]? = some x → l[(i - 1) / 2]? = some y → ¬ KeyLt x.key y.key) ∧
  ∀ (i : Nat) (x y : Msg), 0 < i → 0 < j → (i - 1) / 2 = j → l[i]? = some x → l[(j - 1) / 2]? = some y → ¬ KeyLt x.key y.key
def DownInv (l : List Msg) (j n : Nat) : Prop :=
  (∀ (i : Nat) (x y : Msg), 0 < i → i < n → (i - 1) / 2 ≠ j → l[i]? = some x → l[(i - 1) / 2]? = some y → ¬ KeyLt x.key y.key) ∧
  ∀ (i : Nat) (x y : Msg), 0 < i → i < n → 0 < j → (i - 1) / 2 = j → l[i]? = some x → l[(j - 1) / 2]? = some y → ¬ KeyLt x.key y.key
theorem Heapy.min {l : List Msg} {n : Nat} (h : Heapy l n) (hn : n ≤ l.length) {z : Msg} (hz : l[0]? = some z) : ∀ (i : Nat) (x : Msg), i < n → l[i]? = some x → ¬ KeyLt x.key z.key := by
  intro i
  induction i using Nat.strongRecOn with
  | _ i ih =>
    intro x hi hx
    by_cases h0 : i = 0
    · subst h0
      rw [hz] at hx
      injection hx with hx
      subst hx
      exact KeyLt.irrefl _
    · obtain ⟨y, hy⟩ := get_of_lt (l := l) (j := (i - 1) / 2) (by omega)
      exact keyLE_trans (h i x y (by omega) hi hx hy) (ih _ (by omega) y (by omega) hy)
theorem UpInv.done {l : List Msg} {j : Nat} (h : UpInv l j) (hj : j = 0 ∨ ∃ x y, l[j]? = some x ∧ l[(j - 1) / 2]? = some y ∧ ¬ KeyLt x.key y.key) : Heapy l l.length := by
  intro i x y hi _ hx hy
  by_cases hij : i = j
  · subst hij
    rcases hj with hj | ⟨x', y', hx', hy', hn⟩
    · omega
    · rw [hx] at hx'
      rw [hy] at hy'
      injection hx' with hx'
      injection hy' with hy'
      subst hx' hy'
      exact hn
  · exact h.1 i x y hi hij hx hy
theorem UpInv.step {l : List Msg} {j : Nat} {x y : Msg} (h : UpInv l j) (hj : 0 < j) (hx : l[j]? = some x) (hy : l[(j - 1) / 2]? = some y) (hlt : KeyLt x.key y.key) : UpInv (swapM l ((j - 1) / 2) j y x) ((j - 1) / 2) := by
  obtain ⟨h1, h2⟩ := h
  have hg := swapM_get (i := (j - 1) / 2) (k := j) hy hx
  constructor
  · intro i a b hi hij ha hb
    rw [hg] at ha hb
    by_cases e1 : i = j
    · subst e1
      rw [if_pos rfl] at ha
      rw [if_neg (by omega), if_pos rfl] at hb
      injection ha with ha
      injection hb with hb
      subst ha hb
      exact hlt.asymm
    · rw [if_neg e1, if_neg hij] at ha
      by_cases e2 : (i - 1) / 2 = j
      · rw [if_pos e2] at hb
        injection hb with hb
        subst hb
        exact h2 i a y hi hj e2 ha hy
      · rw [if_neg e2] at hb
        by_cases e3 : (i - 1) / 2 = (j - 1) / 2
        · rw [if_pos e3] at hb
          injection hb with hb
          subst hb
          have := h1 i a y hi e1 ha (by rw [e3]; exact hy)
          intro hax
          exact this (hax.trans hlt)
        · rw [if_neg e3] at hb
          exact h1 i a b hi e1 ha hb
  · intro i a b hi hp hpar ha hb
    rw [hg] at ha hb
    rw [if_neg (by omega), if_neg (by omega)] at hb
    have hyb := h1 ((j - 1) / 2) y b hp (by omega) hy hb
    by_cases e1 : i = j
    · rw [if_pos e1] at ha
      injection ha with ha
      subst ha
      exact hyb
    · rw [if_neg e1, if_neg (by omega)] at ha
      have := h1 i a y hi e1 ha (by rw [hpar]; exact hy)
      exact keyLE_trans this hyb

theorem up_s {q j0 : Nat} {room : Int} {l : List Msg} (hj : j0 < l.length) (hl : l.length ≤ 1001) (hS : Sat e w (IsPrio q room l :: R)) (hk : ∀ l' w', l'.Perm l → (UpInv l j0 → Heapy l' l'.length) → Sat e w' (IsPrio q room l' :: R) → K (.tuple #[]) w') :
    Cl prog 175 #[.iface 172 (rcv q), .int .i64 (j0 : Int)] w K := by
  refine heap_up_calls ?_
  unfold heap_up
  refine lpi1 (fun z t1 w => ∃ (j : Nat) (l' : List Msg), t1 = .int .i64 (j : Int) ∧ z = j ∧ j < l'.length ∧ l'.Perm l ∧ (UpInv l j0 → UpInv l' j) ∧ Sat e w (IsPrio q room l' :: R)) j0
    ⟨j0, l, rfl, rfl, hj, .refl _, id, hS⟩ ?_
  rintro j _ w g ⟨j', l', rfl, rfl, hjl, hp, hinv, h1⟩ hg
  have hlen := hp.length_eq
  refine sub_s (by omega) (by omega) (quo_s (by decide) ?_)
  by_cases h0 : j = 0
  · subst h0
    refine eq_t rfl (gd_tf (gd_tf (gd_tf (gd_tf (gd_tf (pk_t (iff_t (hk _ _ hp (fun hu => (hinv hu).done (.inl rfl)) h1))))))))
  · have e1 : IntKind.i64.wrap (((j : Int) - 1).tdiv 2) = (((j - 1) / 2 : Nat) : Int) := by
      rw [Int.tdiv_eq_ediv_of_nonneg (by omega), wrap_i64 (by omega) (by omega)]
      omega
    rw [e1]
    obtain ⟨x, hx⟩ := get_of_lt hjl
    obtain ⟨y, hy⟩ := get_of_lt (l := l') (j := (j - 1) / 2) (by omega)
    refine eq_f (by omega) (gd_ff (gd_ff (gd_ff (gd_ff ?_))))
    refine faced_Less_s hx hy h1 fun w2 h2 => ?_
    by_cases hlt : cmpK x.key y.key < 0
    · rw [decide_eq_true hlt]
      refine gd_ff (not_t (pk_f (iff_f ?_)))
      refine faced_Swap_s hy hx h2 fun w3 h3 => ?_
      refine hg _ _ _ (by omega) ⟨(j - 1) / 2, _, rfl, rfl, by rw [swapM_len]; omega, (swapM_perm hy hx).trans hp, fun hu => (hinv hu).step (by omega) hx hy (cmpK_lt.1 hlt), h3⟩
    · rw [decide_eq_false hlt]
      refine gd_ff (not_f (pk_f (iff_t (hk _ _ hp (fun hu => (hinv hu).done (.inr ⟨x, y, hx, hy, fun h => hlt (cmpK_lt.2 h)⟩)) h2))))

theorem DownInv.done {l : List Msg} {j n : Nat} (h : DownInv l j n) (hj : ∀ (i : Nat) (x y : Msg), 0 < i → i < n → (i - 1) / 2 = j → l[i]? = some x → l[j]? = some y → ¬ KeyLt x.key y.key) : Heapy l n := by
  intro i x y hi hn hx hy
  by_cases hij : (i - 1) / 2 = j
  · exact hj i x y hi hn hij hx (by rw [← hij]; exact hy)
  · exact h.1 i x y hi hn hij hx hy
theorem DownInv.step {l : List Msg} {j c n : Nat} {x y : Msg} (h : DownInv l j n) (hc0 : 0 < c) (hcn : c < n) (hcj : (c - 1) / 2 = j) (hx : l[j]? = some x) (hy : l[c]? = some y) (hlt : KeyLt y.key x.key)
    (hmin : ∀ (i : Nat) (a : Msg), 0 < i → i < n → (i - 1) / 2 = j → l[i]? = some a → ¬ KeyLt a.key y.key) : DownInv (swapM l j c x y) c n := by
  obtain ⟨h1, h2⟩ := h
  have hg := swapM_get (i := j) (k := c) hx hy
  constructor
  · intro i a b hi hn hij ha hb
    rw [hg] at ha hb
    rw [if_neg hij] at hb
    by_cases e1 : i = c
    · subst e1
      rw [if_pos rfl] at ha
      rw [if_pos hcj] at hb
      injection ha with ha
      injection hb with hb
      subst ha hb
      exact hlt.asymm
    · rw [if_neg e1] at ha
      by_cases e2 : (i - 1) / 2 = j
      · rw [if_pos e2] at hb
        rw [if_neg (by omega)] at ha
        injection hb with hb
        subst hb
        exact hmin i a hi hn e2 ha
      · rw [if_neg e2] at hb
        by_cases e3 : i = j
        · rw [if_pos e3] at ha
          injection ha with ha
          subst ha
          subst e3
          exact h2 c y b hc0 hcn hi hcj hy hb
        · rw [if_neg e3] at ha
          exact h1 i a b hi hn e2 ha hb
  · intro i a b hi hn hc hpar ha hb
    rw [hg] at ha hb
    rw [if_neg (by omega), if_neg (by omega)] at ha
    rw [if_neg (by omega), if_pos hcj] at hb
    injection hb with hb
    subst hb
    exact h1 i a y hi hn (by omega) ha (by rw [hpar]; exact hy)

theorem down_s {q i0 n : Nat} {room : Int} {l : List Msg} (hn : n ≤ l.length) (hi0 : i0 ≤ n) (hl : l.length ≤ 1001) (hS : Sat e w (IsPrio q room l :: R))
    (hk : ∀ l' b w', l'.Perm l → (∀ i, n ≤ i → l'[i]? = l[i]?) → (DownInv l i0 n → Heapy l' n) → Sat e w' (IsPrio q room l' :: R) → K (.bool b) w') :
    Cl prog 152 #[.iface 172 (rcv q), .int .i64 (i0 : Int), .int .i64 (n : Int)] w K := by
  refine heap_down_calls ?_
  unfold heap_down
  refine J1.cut (fun t7 w => ∃ (i : Nat) (l' : List Msg), t7 = .int .i64 (i : Int) ∧ l'.Perm l ∧ (∀ i, n ≤ i → l'[i]? = l[i]?) ∧ (DownInv l i0 n → Heapy l' n) ∧ Sat e w (IsPrio q room l' :: R)) (fun k1 hcut => ?_) ?_
  · refine lpi1 (fun z t7 w => ∃ (j : Nat) (l' : List Msg), t7 = .int .i64 (j : Int) ∧ z = n - j ∧ j ≤ n ∧ l'.Perm l ∧ (∀ i, n ≤ i → l'[i]? = l[i]?) ∧ (DownInv l i0 n → DownInv l' j n) ∧ Sat e w (IsPrio q room l' :: R)) (n - i0)
      ⟨i0, l, rfl, rfl, hi0, .refl _, fun _ _ => rfl, id, hS⟩ ?_
    rintro z _ w g ⟨j, l', rfl, rfl, hjn, hp, htail, hinv, h1⟩ hg
    have hlen := hp.length_eq
    refine muln_s (a := 2) (by omega) (addn_s (b := 1) (by omega) ?_)
    refine ge_c (fun c1 => ?_) (fun c1 => ?_)
    · refine gd_tf (gd_tf (pk_t (iff_t (hcut _ _ ⟨j, l', rfl, hp, htail, fun hd => (hinv hd).done fun i x y hi hin hpar _ _ => ?_, h1⟩))))
      omega
    · refine gd_ff (gd_ff (lt_f (by omega) (pk_f (iff_f ?_))))
      refine addn_s (b := 1) (by omega) ?_
      obtain ⟨x, hx⟩ := get_of_lt (l := l') (j := j) (by omega)
      obtain ⟨y1, hy1⟩ := get_of_lt (l := l') (j := 2 * j + 1) (by omega)
      have hrest : ∀ (c : Nat) (y : Msg) w', (c = 2 * j + 1 ∨ c = 2 * j + 1 + 1) → c < n → l'[c]? = some y → (∀ (i : Nat) (a : Msg), 0 < i → i < n → (i - 1) / 2 = j → l'[i]? = some a → ¬ KeyLt a.key y.key) → Sat e w' (IsPrio q room l' :: R) →
          clI prog (.iface 172 (rcv q)) "Less" #[.int .i64 (c : Int), .int .i64 (j : Int)] w' fun t38 w => bnot t38 w fun t39 w => iff' t39 (k1 (.int .i64 (j : Int)) w)
            (clI prog (.iface 172 (rcv q)) "Swap" #[.int .i64 (j : Int), .int .i64 (c : Int)] w fun _ w => g [.int .i64 (c : Int)] w) := by
        intro c y w' hc hcn hy hmin h2
        refine faced_Less_s hy hx h2 fun w3 h3 => ?_
        by_cases hlt : cmpK y.key x.key < 0
        · rw [decide_eq_true hlt]
          refine not_t (iff_f ?_)
          refine faced_Swap_s hx hy h3 fun w4 h4 => ?_
          refine hg _ _ _ (by omega) ⟨c, _, rfl, rfl, by omega, (swapM_perm hx hy).trans hp, fun i hi => ?_, fun hd => (hinv hd).step (by omega) hcn (by omega) hx hy (cmpK_lt.1 hlt) hmin, h4⟩
          rw [swapM_get hx hy, if_neg (by omega), if_neg (by omega)]
          exact htail i hi
        · rw [decide_eq_false hlt]
          refine not_f (iff_t (hcut _ _ ⟨j, l', rfl, hp, htail, fun hd => (hinv hd).done fun i a b hi hin hpar ha hb => ?_, h3⟩))
          rw [hx] at hb
          injection hb with hb
          subst hb
          exact keyLE_trans (hmin i a hi hin hpar ha) (fun h => hlt (cmpK_lt.2 h))
      refine lt_c (fun c2 => ?_) (fun c2 => ?_)
      · obtain ⟨y2, hy2⟩ := get_of_lt (l := l') (j := 2 * j + 1 + 1) (by omega)
        refine gd_tt (gd_tt (gd_tt (gd_tt ?_)))
        refine faced_Less_s hy2 hy1 h1 fun w2 h2 => ?_
        by_cases hlt : cmpK y2.key y1.key < 0
        · rw [decide_eq_true hlt]
          refine pk_t (iff_t ?_)
          refine hrest (2 * j + 1 + 1) y2 _ (.inr rfl) (by omega) hy2 (fun i a hi hin hpar ha => ?_) h2
          have : i = 2 * j + 1 ∨ i = 2 * j + 1 + 1 := by omega
          rcases this with rfl | rfl
          · rw [hy1] at ha; injection ha with ha; subst ha; exact (cmpK_lt.1 hlt).asymm
          · rw [hy2] at ha; injection ha with ha; subst ha; exact KeyLt.irrefl _
        · rw [decide_eq_false hlt]
          refine pk_t (iff_f ?_)
          refine hrest (2 * j + 1) y1 _ (.inl rfl) (by omega) hy1 (fun i a hi hin hpar ha => ?_) h2
          have : i = 2 * j + 1 ∨ i = 2 * j + 1 + 1 := by omega
          rcases this with rfl | rfl
          · rw [hy1] at ha; injection ha with ha; subst ha; exact KeyLt.irrefl _
          · rw [hy2] at ha; injection ha with ha; subst ha; exact fun h => hlt (cmpK_lt.2 h)
      · refine gd_ft (gd_ft (gd_ft (gd_ft (pk_f (iff_f ?_)))))
        refine hrest (2 * j + 1) y1 _ (.inl rfl) (by omega) hy1 (fun i a hi hin hpar ha => ?_) h1
        have : i = 2 * j + 1 := by omega
        subst this
        rw [hy1] at ha; injection ha with ha; subst ha; exact KeyLt.irrefl _
  · rintro _ w ⟨i, l', rfl, hp, htail, hd, h2⟩
    exact gt_d (hk _ _ _ hp htail hd h2)

theorem heapPush_s {q : Nat} {room : Int} {l : List Msg} {x : Msg} (hx : ∀ y ∈ l, y.key ≠ x.key) (hl : l.length ≤ 1000) (hS : Sat e w (IsPrio q room l :: R))
    (hk : ∀ l' w', l'.Perm (l ++ [x]) → (Heapy l l.length → Heapy l' l'.length) → Sat e w' (IsPrio q room l' :: R) → K (.tuple #[]) w') :
    Cl prog 148 #[.iface 172 (rcv q), .iface 37 (.agg x.cs.toArray)] w K := by
  refine heap_Push_calls ?_
  unfold heap_Push
  refine faced_Push_s hx hl hS fun w2 h2 => ?_
  refine faced_Len_s h2 fun w3 h3 => ?_
  have hlen : (l ++ [x]).length = l.length + 1 := by simp
  refine dec_s (by omega) (by omega) ?_
  refine up_s (by omega) (by omega) h3 fun l' w4 hp hu h4 => hk _ _ hp (fun hh => hu ⟨fun i a b hi hij ha hb => ?_, fun i a b hi hj hpar ha hb => ?_⟩) h4
  · have hil := (List.getElem?_eq_some_iff.1 ha).1
    rw [List.getElem?_append_left (by omega)] at ha hb
    exact hh i a b hi (by omega) ha hb
  · have hil := (List.getElem?_eq_some_iff.1 ha).1
    omega

def pushE (room : Int) (l : List Msg) (x : Msg) : Int := if (l.any fun y => decide (y.key = x.key)) = true then 3 else if room ≤ l.length then 2 else 0
theorem prio_Push_s {q : Nat} {room : Int} {l : List Msg} {x : Msg} (hl : l.length ≤ 1000) (hS : Sat e w (IsPrio q room l :: R))
    (hbad : pushE room l x ≠ 0 → ∀ w', Sat e w' (IsPrio q room l :: R) → K (.int .i64 (pushE room l x)) w')
    (hok : pushE room l x = 0 → (∀ y ∈ l, y.key ≠ x.key) → l.length < room → ∀ l' w', l'.Perm (l ++ [x]) → (Heapy l l.length → Heapy l' l'.length) → Sat e w' (IsPrio q room l' :: R) → K (.int .i64 0) w') :
    Cl prog 103 #[.pointer (some ⟨q, 0, none⟩), .agg x.cs.toArray] w K := by
  refine prio_Queue_Push_calls ?_
  unfold prio_Queue_Push
  obtain ⟨v, b, m, ha, h1⟩ := prio_of hS
  refine al_s (cs := x.cs) h1 rfl fun c w2 h2 => ?_
  refine dr_s h2 fun w3 h3 => ?_
  refine ncP_p (fld_at (ld1_at h3 1 rfl (v := .map (some b)) rfl ?_))
  refine fld_at (ldN_at h3 0 (vs := x.key.cs) rfl (by rfl) rfl ?_)
  refine lkM_s keyT_Key mapT_153 h3 3 rfl x.key ?_
  refine xt_02 (xt_12 ?_)
  have hany : (lkA m x.key).isSome = l.any fun y => decide (y.key = x.key) := by
    rw [Bool.eq_iff_iff, ha.has, List.any_eq_true]
    constructor
    · rintro ⟨y, hy, hk⟩; exact ⟨y, hy, by simpa using hk⟩
    · rintro ⟨y, hy, hk⟩; exact ⟨y, hy, by simpa using hk⟩
  rw [hany]
  cases hh : l.any fun y => decide (y.key = x.key) with
  | true =>
    have e1 : pushE room l x = 3 := if_pos hh
    have := hbad (by rw [e1]; decide) w3 (prio_mk ha h3.drop)
    rw [e1] at this
    exact iff_t this
  | false =>
    refine iff_f ?_
    refine dr_s h3 fun w4 h4 => ?_
    refine ncP_p (fld_at (ld1_at h4 1 rfl (v := v) rfl ?_))
    refine lnS_rd h4 2 rfl (fun g hg => own_rd hg) ?_
    refine ncP_p (fld_at (ld1_at h4 1 rfl (v := .int .i64 room) rfl ?_))
    have hno : ¬ (l.any fun y => decide (y.key = x.key)) = true := by rw [hh]; decide
    refine ge_c (fun c1 => iff_t ?_) (fun c1 => iff_f ?_)
    · have e1 : pushE room l x = 2 := by unfold pushE; rw [if_neg hno, if_pos c1]
      have := hbad (by rw [e1]; decide) w4 (prio_mk ha h4.drop)
      rw [e1] at this
      exact this
    · have e1 : pushE room l x = 0 := by unfold pushE; rw [if_neg hno, if_neg c1]
      rw [zero_172]
      refine bld_s [.pointer (some ⟨q, 0, none⟩)] (by kernel_rfl) ?_
      refine ldN_at h4 0 (vs := x.cs) rfl (by rfl) rfl ?_
      have hne : ∀ y ∈ l, y.key ≠ x.key := fun y hy hk => by
        rw [List.any_eq_false] at hh
        exact hh y hy (by simpa using hk)
      refine heapPush_s hne hl (prio_mk ha h4.drop) fun l' w5 hp hheap h5 => ?_
      exact hok e1 hne (by omega) l' w5 hp hheap h5
end Go.Proofs.YtbopajpmadlmhaaGreat
namespace Go.Proofs.YtbopajpmadlmhaaGreat
open Go Go.E
set_option maxRecDepth 100000
variable {e w : World} {R : List HP} {K : KV}

theorem AtOk.pop {m : List (Key × Nat)} {l : List Msg} {x : Msg} (h : AtOk m (l ++ [x])) : AtOk (dlA m x.key) l := by
  have hxl : (l ++ [x])[l.length]? = some x := by simp
  refine ⟨h.u.dl _, fun k i => ?_⟩
  rw [lkA_dl h.u]
  by_cases hk : k = x.key
  · rw [if_pos hk]
    constructor
    · intro hn; cases hn
    · rintro ⟨y, hy, hyk⟩
      have hil := (List.getElem?_eq_some_iff.1 hy).1
      have := h.inj (i := i) (j := l.length) (by rw [List.getElem?_append_left hil]; exact hy) hxl (by rw [hyk, hk])
      omega
  · rw [if_neg hk, h.ok k i]
    constructor
    · rintro ⟨y, hy, hyk⟩
      by_cases hil : i < l.length
      · rw [List.getElem?_append_left hil] at hy
        exact ⟨y, hy, hyk⟩
      · have hle := (List.getElem?_eq_some_iff.1 hy).1
        rw [List.length_append] at hle
        simp only [List.length_cons, List.length_nil] at hle
        rw [show i = l.length by omega, hxl] at hy
        injection hy with hy
        subst hy
        exact absurd hyk.symm hk
    · rintro ⟨y, hy, hyk⟩
      exact ⟨y, by rw [List.getElem?_append_left (List.getElem?_eq_some_iff.1 hy).1]; exact hy, hyk⟩

theorem faced_Pop_s {q : Nat} {room : Int} {l : List Msg} {x : Msg} (hl : l.length ≤ 1000) (hS : Sat e w (IsPrio q room (l ++ [x]) :: R)) (hk : ∀ w', Sat e w' (IsPrio q room l :: R) → K (.iface 37 (.agg x.cs.toArray)) w') :
    clI prog (.iface 172 (rcv q)) "Pop" #[] w K := by
  refine clI_s (f := 226) (rcv := rcv q) (by kernel_rfl) ?_
  refine prio_faced_Pop_calls (t0 := rcv q) ?_
  unfold prio_faced_Pop
  obtain ⟨v, b, m, ha, h1⟩ := prio_of hS
  have hlen : (l ++ [x]).length = l.length + 1 := by simp
  have hxl : (l ++ [x])[l.length]? = some x := by simp
  refine al_s (cs := [.pointer (some ⟨q, 0, none⟩)]) h1 rfl fun c w2 h2 => ?_
  refine fld_at (ld1_at h2 0 rfl (v := .pointer (some ⟨q, 0, none⟩)) rfl ?_)
  refine ncP_p (fld_at (ld1_at h2 1 rfl (v := v) rfl ?_))
  refine lnS_rd h2 2 rfl (fun g hg => own_rd hg) ?_
  rw [hlen]
  refine dec_s (by omega) (by omega) ?_
  rw [Nat.add_sub_cancel]
  refine fld_at (ld1_at h2 0 rfl (v := .pointer (some ⟨q, 0, none⟩)) rfl ?_)
  refine ncP_p (fld_at (ld1_at h2 1 rfl (v := v) rfl ?_))
  refine ixS_rd h2 2 rfl (fun g hg => own_rd hg) (fun _ => rfl) hxl fun p hp => ?_
  refine ldN_of h2 2 rfl hp rfl ?_
  rw [zero_37]
  refine al_s (cs := ints [0, 0, 0, 0, 0, 0]) h2 rfl fun d w3 h3 => ?_
  refine stN_at h3 0 rfl (vs := x.cs) rfl rfl (Nat.le_of_ble_eq_true rfl) (ints_flat _) (cs' := x.cs) (by kernel_rfl) fun w4 h4 => ?_
  refine dr_s h4 fun w5 h5 => ?_
  refine fld_at (ld1_at h5 1 rfl (v := .pointer (some ⟨q, 0, none⟩)) rfl ?_)
  refine fld_at (ld1_at h5 1 rfl (v := .pointer (some ⟨q, 0, none⟩)) rfl ?_)
  refine ncP_p (fld_at (ld1_at h5 2 rfl (v := v) rfl ?_))
  refine slc_own h5 3 rfl (fun _ => rfl) (hi := l.length) (by omega) fun v' h6 => ?_
  rw [List.take_left' rfl] at h6
  refine ncP_p (fld_at ?_)
  refine st1_at h6 2 rfl (h6.own_cells 3 rfl) (Nat.le_of_ble_eq_true rfl) (cs' := [.int .i64 room, v', .map (some b)]) rfl fun w7 h7 => ?_
  replace h7 : Sat e w7 (blk d 37 x.cs :: blk c 172 [.pointer (some ⟨q, 0, none⟩)] :: blk q 155 [.int .i64 room, v', .map (some b)] :: ownS 37 6 Msg.cs v' l :: isMap kfK vfN b m :: R) := h7
  refine dr_s h7 fun w8 h8 => ?_
  refine fld_at (ld1_at h8 1 rfl (v := .pointer (some ⟨q, 0, none⟩)) rfl ?_)
  refine ncP_p (fld_at (ld1_at h8 2 rfl (v := .map (some b)) rfl ?_))
  refine fld_at (ldN_at h8 0 (vs := x.key.cs) rfl (by rfl) rfl ?_)
  refine dlM_s keyT_Key mapT_153 (h8.pick 4 rfl) x.key fun w9 h9 => ?_
  refine ldN_at h9 1 (vs := x.cs) rfl (by rfl) rfl ?_
  exact hk _ (prio_mk ha.pop (h9.selR [_, _, _, _, _] [_, _, _] [3, 4, 0] (by decide) rfl))

theorem heapPop_s {q : Nat} {room : Int} {l : List Msg} {x : Msg} (hx : l[0]? = some x) (hl : l.length ≤ 1001) (hS : Sat e w (IsPrio q room l :: R))
    (hk : ∀ l' w', (l' ++ [x]).Perm l → (Heapy l l.length → Heapy l' l'.length) → Sat e w' (IsPrio q room l' :: R) → K (.iface 37 (.agg x.cs.toArray)) w') :
    Cl prog 107 #[.iface 172 (rcv q)] w K := by
  refine heap_Pop_calls ?_
  unfold heap_Pop
  have h0 := (List.getElem?_eq_some_iff.1 hx).1
  obtain ⟨n, hn⟩ : ∃ n, l.length = n + 1 := ⟨l.length - 1, by omega⟩
  obtain ⟨y, hy⟩ := get_of_lt (l := l) (j := n) (by omega)
  refine faced_Len_s hS fun w2 h2 => ?_
  rw [hn]
  refine dec_s (by omega) (by omega) ?_
  rw [Nat.add_sub_cancel]
  refine faced_Swap_s (i := 0) (k := n) hx hy h2 fun w3 h3 => ?_
  have hp1 := swapM_perm hx hy
  refine down_s (i0 := 0) (n := n) (by rw [swapM_len]; omega) (by omega) (by rw [swapM_len]; omega) h3 fun l2 bb w4 hp2 htail hd h4 => ?_
  have hl2 : l2.length = n + 1 := by rw [hp2.length_eq, swapM_len, hn]
  have hln : l2[n]? = some x := by rw [htail n (Nat.le_refl _), swapM_get hx hy, if_pos rfl]
  have hsp : l2 = l2.take n ++ [x] := by
    have := take_snoc hln
    rw [List.take_of_length_le (by omega)] at this
    exact this
  have hpf : (l2.take n ++ [x]).Perm l := by rw [← hsp]; exact hp2.trans hp1
  rw [hsp] at h4
  refine faced_Pop_s (by rw [List.length_take]; omega) h4 fun w5 h5 => hk _ _ hpf (fun hh => ?_) h5
  have hh2 := hd ⟨fun i a b hi hin hpar ha hb => ?_, fun i a b hi hin hj => by omega⟩
  · intro i a b hi hin ha hb
    rw [List.length_take] at hin
    rw [List.getElem?_take, if_pos (by omega)] at ha hb
    exact hh2 i a b hi (by omega) ha hb
  · rw [swapM_get hx hy, if_neg (by omega), if_neg (by omega)] at ha hb
    exact hh i a b hi (by omega) ha hb

theorem prio_Pop_none {q : Nat} {room : Int} (hS : Sat e w (IsPrio q room [] :: R)) (hk : ∀ w', Sat e w' (IsPrio q room [] :: R) → K (.tuple #[.agg Msg.zero.cs.toArray, .bool false]) w') : Cl prog 54 #[.pointer (some ⟨q, 0, none⟩)] w K := by
  refine prio_Queue_Pop_calls ?_
  unfold prio_Queue_Pop
  rw [zero_37]
  obtain ⟨v, b, m, ha, h1⟩ := prio_of hS
  refine al_s (cs := ints [0, 0, 0, 0, 0, 0]) h1 rfl fun d w3 h3 => ?_
  refine ncP_p (fld_at (ld1_at h3 1 rfl (v := v) rfl ?_))
  refine lnS_rd h3 2 rfl (fun g hg => own_rd hg) ?_
  refine eq_t rfl (iff_t ?_)
  refine bld_s Msg.zero.cs (by kernel_rfl) ?_
  refine stN_at h3 0 rfl (vs := Msg.zero.cs) rfl rfl (Nat.le_of_ble_eq_true rfl) (ints_flat _) (cs' := Msg.zero.cs) (by kernel_rfl) fun w4 h4 => ?_
  refine ldN_at h4 0 (vs := Msg.zero.cs) rfl (by rfl) rfl ?_
  exact hk _ (prio_mk ha h4.drop)
theorem prio_Pop_s {q : Nat} {room : Int} {l : List Msg} {x : Msg} (hx : l[0]? = some x) (hl : l.length ≤ 1001) (hS : Sat e w (IsPrio q room l :: R))
    (hk : ∀ l' w', (l' ++ [x]).Perm l → (Heapy l l.length → Heapy l' l'.length) → Sat e w' (IsPrio q room l' :: R) → K (.tuple #[.agg x.cs.toArray, .bool true]) w') : Cl prog 54 #[.pointer (some ⟨q, 0, none⟩)] w K := by
  refine prio_Queue_Pop_calls ?_
  unfold prio_Queue_Pop
  rw [zero_37, zero_172]
  obtain ⟨v, b, m, ha, h1⟩ := prio_of hS
  have h0 := (List.getElem?_eq_some_iff.1 hx).1
  refine al_s (cs := ints [0, 0, 0, 0, 0, 0]) h1 rfl fun d w3 h3 => ?_
  refine ncP_p (fld_at (ld1_at h3 1 rfl (v := v) rfl ?_))
  refine lnS_rd h3 2 rfl (fun g hg => own_rd hg) ?_
  refine eq_f (by omega) (iff_f ?_)
  refine bld_s [.pointer (some ⟨q, 0, none⟩)] (by kernel_rfl) ?_
  refine heapPop_s hx hl (prio_mk ha (h3.selR [_, _, _, _] [_, _, _, _] [1, 2, 3, 0] (by decide) rfl)) fun l' w4 hp hh h4 => ?_
  refine tyA_ok (by kernel_rfl) ?_
  refine stN_at h4 1 rfl (vs := x.cs) rfl rfl (Nat.le_of_ble_eq_true rfl) (ints_flat _) (cs' := x.cs) (by kernel_rfl) fun w5 h5 => ?_
  refine ldN_at h5 1 (vs := x.cs) rfl (by rfl) rfl ?_
  exact hk _ _ hp hh (h5.selR [_, _] [_] [0] (by decide) rfl)
end Go.Proofs.YtbopajpmadlmhaaGreat
namespace Go.Proofs.YtbopajpmadlmhaaGreat
open Go Go.E
set_option maxRecDepth 100000
variable {e w : World} {R : List HP} {K : KV}

def UpN (l : List Msg) (j n : Nat) : Prop :=
  (∀ (i : Nat) (x y : Msg), 0 < i → i < n → i ≠ j → l[i]? = some x → l[(i - 1) / 2]? = some y → ¬ KeyLt x.key y.key) ∧
  ∀ (i : Nat) (x y : Msg), 0 < i → i < n → 0 < j → (i - 1) / 2 = j → l[i]? = some x → l[(j - 1) / 2]? = some y → ¬ KeyLt x.key y.key
theorem UpN.done {l : List Msg} {j n : Nat} (h : UpN l j n) (hj : j = 0 ∨ ∃ x y, l[j]? = some x ∧ l[(j - 1) / 2]? = some y ∧ ¬ KeyLt x.key y.key) : Heapy l n := by
  intro i x y hi hin hx hy
  by_cases hij : i = j
  · subst hij
    rcases hj with hj | ⟨x', y', hx', hy', hn⟩
    · omega
    · rw [hx] at hx'
      rw [hy] at hy'
      injection hx' with hx'
      injection hy' with hy'
      subst hx' hy'
      exact hn
  · exact h.1 i x y hi hin hij hx hy
theorem UpN.step {l : List Msg} {j n : Nat} {x y : Msg} (h : UpN l j n) (hj : 0 < j) (hjn : j < n) (hx : l[j]? = some x) (hy : l[(j - 1) / 2]? = some y) (hlt : KeyLt x.key y.key) : UpN (swapM l ((j - 1) / 2) j y x) ((j - 1) / 2) n := by
  obtain ⟨h1, h2⟩ := h
  have hg := swapM_get (i := (j - 1) / 2) (k := j) hy hx
  constructor
  · intro i a b hi hin hij ha hb
    rw [hg] at ha hb
    by_cases e1 : i = j
    · subst e1
      rw [if_pos rfl] at ha
      rw [if_neg (by omega), if_pos rfl] at hb
      injection ha with ha
      injection hb with hb
      subst ha hb
      exact hlt.asymm
    · rw [if_neg e1, if_neg hij] at ha
      by_cases e2 : (i - 1) / 2 = j
      · rw [if_pos e2] at hb
        injection hb with hb
        subst hb
        exact h2 i a y hi hin hj e2 ha hy
      · rw [if_neg e2] at hb
        by_cases e3 : (i - 1) / 2 = (j - 1) / 2
        · rw [if_pos e3] at hb
          injection hb with hb
          subst hb
          have := h1 i a y hi hin e1 ha (by rw [e3]; exact hy)
          intro hax
          exact this (hax.trans hlt)
        · rw [if_neg e3] at hb
          exact h1 i a b hi hin e1 ha hb
  · intro i a b hi hin hp hpar ha hb
    rw [hg] at ha hb
    rw [if_neg (by omega), if_neg (by omega)] at hb
    have hyb := h1 ((j - 1) / 2) y b hp (by omega) (by omega) hy hb
    by_cases e1 : i = j
    · rw [if_pos e1] at ha
      injection ha with ha
      subst ha
      exact hyb
    · rw [if_neg e1, if_neg (by omega)] at ha
      have := h1 i a y hi hin e1 ha (by rw [hpar]; exact hy)
      exact keyLE_trans this hyb

theorem up2_s {q j0 n : Nat} {room : Int} {l : List Msg} (hj : j0 < n) (hn : n ≤ l.length) (hl : l.length ≤ 1001) (hS : Sat e w (IsPrio q room l :: R))
    (hk : ∀ l' w', l'.Perm l → (∀ i, n ≤ i → l'[i]? = l[i]?) → (UpN l j0 n → Heapy l' n) → Sat e w' (IsPrio q room l' :: R) → K (.tuple #[]) w') :
    Cl prog 175 #[.iface 172 (rcv q), .int .i64 (j0 : Int)] w K := by
  refine heap_up_calls ?_
  unfold heap_up
  refine lpi1 (fun z t1 w => ∃ (j : Nat) (l' : List Msg), t1 = .int .i64 (j : Int) ∧ z = j ∧ j < n ∧ l'.Perm l ∧ (∀ i, n ≤ i → l'[i]? = l[i]?) ∧ (UpN l j0 n → UpN l' j n) ∧ Sat e w (IsPrio q room l' :: R)) j0
    ⟨j0, l, rfl, rfl, hj, .refl _, fun _ _ => rfl, id, hS⟩ ?_
  rintro j _ w g ⟨j', l', rfl, rfl, hjn, hp, htail, hinv, h1⟩ hg
  have hlen := hp.length_eq
  refine sub_s (by omega) (by omega) (quo_s (by decide) ?_)
  by_cases h0 : j = 0
  · subst h0
    refine eq_t rfl (gd_tf (gd_tf (gd_tf (gd_tf (gd_tf (pk_t (iff_t (hk _ _ hp htail (fun hu => (hinv hu).done (.inl rfl)) h1))))))))
  · have e1 : IntKind.i64.wrap (((j : Int) - 1).tdiv 2) = (((j - 1) / 2 : Nat) : Int) := by
      rw [Int.tdiv_eq_ediv_of_nonneg (by omega), wrap_i64 (by omega) (by omega)]
      omega
    rw [e1]
    obtain ⟨x, hx⟩ := get_of_lt (l := l') (j := j) (by omega)
    obtain ⟨y, hy⟩ := get_of_lt (l := l') (j := (j - 1) / 2) (by omega)
    refine eq_f (by omega) (gd_ff (gd_ff (gd_ff (gd_ff ?_))))
    refine faced_Less_s hx hy h1 fun w2 h2 => ?_
    by_cases hlt : cmpK x.key y.key < 0
    · rw [decide_eq_true hlt]
      refine gd_ff (not_t (pk_f (iff_f ?_)))
      refine faced_Swap_s hy hx h2 fun w3 h3 => ?_
      refine hg _ _ _ (by omega) ⟨(j - 1) / 2, _, rfl, rfl, by omega, (swapM_perm hy hx).trans hp, fun i hi => ?_, fun hu => (hinv hu).step (by omega) hjn hx hy (cmpK_lt.1 hlt), h3⟩
      rw [swapM_get hy hx, if_neg (by omega), if_neg (by omega)]
      exact htail i hi
    · rw [decide_eq_false hlt]
      refine gd_ff (not_f (pk_f (iff_t (hk _ _ hp htail (fun hu => (hinv hu).done (.inr ⟨x, y, hx, hy, fun h => hlt (cmpK_lt.2 h)⟩)) h2))))

def Hole (l : List Msg) (j n : Nat) : Prop :=
  (∀ (i : Nat) (x y : Msg), 0 < i → i < n → i ≠ j → (i - 1) / 2 ≠ j → l[i]? = some x → l[(i - 1) / 2]? = some y → ¬ KeyLt x.key y.key) ∧
  ∀ (i : Nat) (x y : Msg), 0 < i → i < n → 0 < j → (i - 1) / 2 = j → l[i]? = some x → l[(j - 1) / 2]? = some y → ¬ KeyLt x.key y.key
theorem Hole.step {l : List Msg} {j c n : Nat} {x y : Msg} (h : Hole l j n) (hc0 : 0 < c) (hcn : c < n) (hcj : (c - 1) / 2 = j) (hx : l[j]? = some x) (hy : l[c]? = some y) (hlt : KeyLt y.key x.key)
    (hmin : ∀ (i : Nat) (a : Msg), 0 < i → i < n → (i - 1) / 2 = j → l[i]? = some a → ¬ KeyLt a.key y.key) : DownInv (swapM l j c x y) c n := by
  obtain ⟨h1, h2⟩ := h
  have hg := swapM_get (i := j) (k := c) hx hy
  constructor
  · intro i a b hi hn hij ha hb
    rw [hg] at ha hb
    rw [if_neg hij] at hb
    by_cases e1 : i = c
    · subst e1
      rw [if_pos rfl] at ha
      rw [if_pos hcj] at hb
      injection ha with ha
      injection hb with hb
      subst ha hb
      exact hlt.asymm
    · rw [if_neg e1] at ha
      by_cases e2 : (i - 1) / 2 = j
      · rw [if_pos e2] at hb
        rw [if_neg (by omega)] at ha
        injection hb with hb
        subst hb
        exact hmin i a hi hn e2 ha
      · rw [if_neg e2] at hb
        by_cases e3 : i = j
        · rw [if_pos e3] at ha
          injection ha with ha
          subst ha
          subst e3
          exact h2 c y b hc0 hcn hi hcj hy hb
        · rw [if_neg e3] at ha
          exact h1 i a b hi hn e3 e2 ha hb
  · intro i a b hi hn hc hpar ha hb
    rw [hg] at ha hb
    rw [if_neg (by omega), if_neg (by omega)] at ha
    rw [if_neg (by omega), if_pos hcj] at hb
    injection hb with hb
    subst hb
    exact h1 i a y hi hn (by omega) (by omega) ha (by rw [hpar]; exact hy)

theorem down2_s {q i0 n : Nat} {room : Int} {l : List Msg} (hn : n ≤ l.length) (hi0 : i0 ≤ n) (hl : l.length ≤ 1001) (hS : Sat e w (IsPrio q room l :: R))
    (hk0 : (∀ (i : Nat) (x y : Msg), 0 < i → i < n → (i - 1) / 2 = i0 → l[i]? = some x → l[i0]? = some y → ¬ KeyLt x.key y.key) → ∀ w', Sat e w' (IsPrio q room l :: R) → K (.bool false) w')
    (hk : ∀ l' w', l'.Perm l → (∀ i, n ≤ i → l'[i]? = l[i]?) → (Hole l i0 n → Heapy l' n) → Sat e w' (IsPrio q room l' :: R) → K (.bool true) w') :
    Cl prog 152 #[.iface 172 (rcv q), .int .i64 (i0 : Int), .int .i64 (n : Int)] w K := by
  refine heap_down_calls ?_
  unfold heap_down
  refine J1.cut (fun t7 w => ∃ (i : Nat) (l' : List Msg), t7 = .int .i64 (i : Int) ∧ i0 ≤ i ∧ l'.Perm l ∧ (∀ i, n ≤ i → l'[i]? = l[i]?) ∧ (i = i0 → l' = l ∧ ∀ (i : Nat) (x y : Msg), 0 < i → i < n → (i - 1) / 2 = i0 → l[i]? = some x → l[i0]? = some y → ¬ KeyLt x.key y.key) ∧
      (i0 < i → Hole l i0 n → Heapy l' n) ∧ Sat e w (IsPrio q room l' :: R)) (fun k1 hcut => ?_) ?_
  · refine lpi1 (fun z t7 w => ∃ (j : Nat) (l' : List Msg), t7 = .int .i64 (j : Int) ∧ z = n - j ∧ i0 ≤ j ∧ j ≤ n ∧ l'.Perm l ∧ (∀ i, n ≤ i → l'[i]? = l[i]?) ∧ (j = i0 → l' = l) ∧ (i0 < j → Hole l i0 n → DownInv l' j n) ∧ Sat e w (IsPrio q room l' :: R)) (n - i0)
      ⟨i0, l, rfl, rfl, Nat.le_refl _, hi0, .refl _, fun _ _ => rfl, fun _ => rfl, (fun h => absurd h (Nat.lt_irrefl _)), hS⟩ ?_
    rintro z _ w g ⟨j, l', rfl, rfl, hij, hjn, hp, htail, hsame, hinv, h1⟩ hg
    have hlen := hp.length_eq
    refine muln_s (a := 2) (by omega) (addn_s (b := 1) (by omega) ?_)
    have hend : ∀ w', (∀ (i : Nat) (x y : Msg), 0 < i → i < n → (i - 1) / 2 = j → l'[i]? = some x → l'[j]? = some y → ¬ KeyLt x.key y.key) → Sat e w' (IsPrio q room l' :: R) → k1 (.int .i64 (j : Int)) w' := by
      intro w' hch h
      refine hcut _ _ ⟨j, l', rfl, hij, hp, htail, fun e => ⟨hsame e, ?_⟩, fun hlt hh => (hinv hlt hh).done hch, h⟩
      subst e
      have := hsame rfl
      subst this
      exact hch
    refine ge_c (fun c1 => ?_) (fun c1 => ?_)
    · refine gd_tf (gd_tf (pk_t (iff_t (hend _ (fun i x y hi hin hpar _ _ => ?_) h1))))
      omega
    · refine gd_ff (gd_ff (lt_f (by omega) (pk_f (iff_f ?_))))
      refine addn_s (b := 1) (by omega) ?_
      obtain ⟨x, hx⟩ := get_of_lt (l := l') (j := j) (by omega)
      obtain ⟨y1, hy1⟩ := get_of_lt (l := l') (j := 2 * j + 1) (by omega)
      have hrest : ∀ (c : Nat) (y : Msg) w', (c = 2 * j + 1 ∨ c = 2 * j + 1 + 1) → c < n → l'[c]? = some y → (∀ (i : Nat) (a : Msg), 0 < i → i < n → (i - 1) / 2 = j → l'[i]? = some a → ¬ KeyLt a.key y.key) → Sat e w' (IsPrio q room l' :: R) →
          clI prog (.iface 172 (rcv q)) "Less" #[.int .i64 (c : Int), .int .i64 (j : Int)] w' fun t38 w => bnot t38 w fun t39 w => iff' t39 (k1 (.int .i64 (j : Int)) w)
            (clI prog (.iface 172 (rcv q)) "Swap" #[.int .i64 (j : Int), .int .i64 (c : Int)] w fun _ w => g [.int .i64 (c : Int)] w) := by
        intro c y w' hc hcn hy hmin h2
        refine faced_Less_s hy hx h2 fun w3 h3 => ?_
        by_cases hlt : cmpK y.key x.key < 0
        · rw [decide_eq_true hlt]
          refine not_t (iff_f ?_)
          refine faced_Swap_s hx hy h3 fun w4 h4 => ?_
          refine hg _ _ _ (by omega) ⟨c, _, rfl, rfl, by omega, by omega, (swapM_perm hx hy).trans hp, fun i hi => ?_, fun e => by omega, fun _ hh => ?_, h4⟩
          · rw [swapM_get hx hy, if_neg (by omega), if_neg (by omega)]
            exact htail i hi
          · by_cases hj0 : j = i0
            · subst hj0
              have := hsame rfl
              subst this
              exact hh.step (by omega) hcn (by omega) hx hy (cmpK_lt.1 hlt) hmin
            · exact (hinv (by omega) hh).step (by omega) hcn (by omega) hx hy (cmpK_lt.1 hlt) hmin
        · rw [decide_eq_false hlt]
          refine not_f (iff_t (hend _ (fun i a b hi hin hpar ha hb => ?_) h3))
          rw [hx] at hb
          injection hb with hb
          subst hb
          exact keyLE_trans (hmin i a hi hin hpar ha) (fun h => hlt (cmpK_lt.2 h))
      refine lt_c (fun c2 => ?_) (fun c2 => ?_)
      · obtain ⟨y2, hy2⟩ := get_of_lt (l := l') (j := 2 * j + 1 + 1) (by omega)
        refine gd_tt (gd_tt (gd_tt (gd_tt ?_)))
        refine faced_Less_s hy2 hy1 h1 fun w2 h2 => ?_
        by_cases hlt : cmpK y2.key y1.key < 0
        · rw [decide_eq_true hlt]
          refine pk_t (iff_t ?_)
          refine hrest (2 * j + 1 + 1) y2 _ (.inr rfl) (by omega) hy2 (fun i a hi hin hpar ha => ?_) h2
          have : i = 2 * j + 1 ∨ i = 2 * j + 1 + 1 := by omega
          rcases this with rfl | rfl
          · rw [hy1] at ha; injection ha with ha; subst ha; exact (cmpK_lt.1 hlt).asymm
          · rw [hy2] at ha; injection ha with ha; subst ha; exact KeyLt.irrefl _
        · rw [decide_eq_false hlt]
          refine pk_t (iff_f ?_)
          refine hrest (2 * j + 1) y1 _ (.inl rfl) (by omega) hy1 (fun i a hi hin hpar ha => ?_) h2
          have : i = 2 * j + 1 ∨ i = 2 * j + 1 + 1 := by omega
          rcases this with rfl | rfl
          · rw [hy1] at ha; injection ha with ha; subst ha; exact KeyLt.irrefl _
          · rw [hy2] at ha; injection ha with ha; subst ha; exact fun h => hlt (cmpK_lt.2 h)
      · refine gd_ft (gd_ft (gd_ft (gd_ft (pk_f (iff_f ?_)))))
        refine hrest (2 * j + 1) y1 _ (.inl rfl) (by omega) hy1 (fun i a hi hin hpar ha => ?_) h1
        have : i = 2 * j + 1 := by omega
        subst this
        rw [hy1] at ha; injection ha with ha; subst ha; exact KeyLt.irrefl _
  · rintro _ w ⟨i, l', rfl, hii, hp, htail, hsame, hd, h2⟩
    refine gt_c (fun c => ?_) (fun c => ?_)
    · exact hk l' _ hp htail (hd (by omega)) h2
    · have : i = i0 := by omega
      obtain ⟨hs1, hs2⟩ := hsame this
      subst hs1
      exact hk0 hs2 _ h2

theorem heapRemove_s {q i : Nat} {room : Int} {l : List Msg} {x : Msg} (hx : l[i]? = some x) (hl : l.length ≤ 1001) (hS : Sat e w (IsPrio q room l :: R))
    (hk : ∀ l' w', (l' ++ [x]).Perm l → (Heapy l l.length → Heapy l' l'.length) → Sat e w' (IsPrio q room l' :: R) → K (.iface 37 (.agg x.cs.toArray)) w') :
    Cl prog 149 #[.iface 172 (rcv q), .int .i64 (i : Int)] w K := by
  refine heap_Remove_calls ?_
  unfold heap_Remove
  have h0 := (List.getElem?_eq_some_iff.1 hx).1
  obtain ⟨n, hn⟩ : ∃ n, l.length = n + 1 := ⟨l.length - 1, by omega⟩
  obtain ⟨y, hy⟩ := get_of_lt (l := l) (j := n) (by omega)
  refine faced_Len_s hS fun w2 h2 => ?_
  rw [hn]
  refine dec_s (by omega) (by omega) ?_
  rw [Nat.add_sub_cancel]
  have hlast : ∀ l2 w', l2.Perm l → l2[n]? = some x → (Heapy l l.length → Heapy l2 n) → Sat e w' (IsPrio q room l2 :: R) → clI prog (.iface 172 (rcv q)) "Pop" #[] w' K := by
    intro l2 w' hp hln hh h
    have hl2 : l2.length = n + 1 := by rw [hp.length_eq, hn]
    have hsp : l2 = l2.take n ++ [x] := by
      have := take_snoc hln
      rw [List.take_of_length_le (by omega)] at this
      exact this
    have hpf : (l2.take n ++ [x]).Perm l := by rw [← hsp]; exact hp
    rw [hsp] at h
    refine faced_Pop_s (by rw [List.length_take]; omega) h fun w5 h5 => hk _ _ hpf (fun hl => ?_) h5
    have hh2 := hh hl
    intro i a b hi hin ha hb
    rw [List.length_take] at hin
    rw [List.getElem?_take, if_pos (by omega)] at ha hb
    exact hh2 i a b hi (by omega) ha hb
  refine ne_c (fun c => ?_) (fun c => ?_)
  · have hin : i ≠ n := fun e => c (by rw [e])
    refine iff_t ?_
    refine faced_Swap_s hx hy h2 fun w3 h3 => ?_
    have hp1 := swapM_perm hx hy
    have hg1 := swapM_get hx hy
    have hln1 : (swapM l i n x y)[n]? = some x := by rw [hg1, if_pos rfl]
    have hhole : Heapy l l.length → Hole (swapM l i n x y) i n := by
      intro hh
      constructor
      · intro a u v ha han hai hpi hu hv
        rw [hg1, if_neg (by omega), if_neg hai] at hu
        rw [hg1, if_neg (by omega), if_neg hpi] at hv
        exact hh a u v ha (by omega) hu hv
      · intro a u v ha han hi0 hpar hu hv
        rw [hg1, if_neg (by omega), if_neg (by omega)] at hu
        rw [hg1, if_neg (by omega), if_neg (by omega)] at hv
        have h3 := hh a u x ha (by omega) hu (by rw [hpar]; exact hx)
        have h4 := hh i x v hi0 (by omega) hx hv
        exact keyLE_trans h3 h4
    refine down2_s (by rw [swapM_len]; omega) (by omega) (by rw [swapM_len]; omega) h3 (fun hch w4 h4 => ?_) (fun l2 w4 hp2 htail hd h4 => ?_)
    · refine not_f (iff_t ?_)
      refine up2_s (n := n) (by omega) (by rw [swapM_len]; omega) (by rw [swapM_len]; omega) h4 fun l2 w5 hp2 htail hu h5 => ?_
      refine hlast l2 _ (hp2.trans hp1) (by rw [htail n (Nat.le_refl _)]; exact hln1) (fun hh => hu ⟨fun a u v ha han hai hu' hv' => ?_, (hhole hh).2⟩) h5
      by_cases hpi : (a - 1) / 2 = i
      · rw [hpi] at hv'; exact hch a u v ha han hpi hu' hv'
      · exact (hhole hh).1 a u v ha han hai hpi hu' hv'
    · refine not_t (iff_f ?_)
      exact hlast l2 _ (hp2.trans hp1) (by rw [htail n (Nat.le_refl _)]; exact hln1) (fun hh => hd (hhole hh)) h4
  · have hin : i = n := by omega
    subst hin
    refine iff_f ?_
    exact hlast l _ (.refl _) hx (fun hh a u v ha han hu hv => hh a u v ha (by omega) hu hv) h2

theorem prio_Remove_s {q : Nat} {room : Int} {l : List Msg} {x : Msg} (hx : x ∈ l) (hl : l.length ≤ 1001) (hS : Sat e w (IsPrio q room l :: R))
    (hk : ∀ l' w', (l' ++ [x]).Perm l → (Heapy l l.length → Heapy l' l'.length) → Sat e w' (IsPrio q room l' :: R) → K (.tuple #[.agg x.cs.toArray, .bool true]) w') : Cl prog 104 #[.pointer (some ⟨q, 0, none⟩), .agg x.key.cs.toArray] w K := by
  refine prio_Queue_Remove_calls ?_
  unfold prio_Queue_Remove
  rw [zero_37, zero_172]
  obtain ⟨v, b, m, ha, h1⟩ := prio_of hS
  refine al_s (cs := x.key.cs) h1 rfl fun c w2 h2 => ?_
  refine al_s (cs := ints [0, 0, 0, 0, 0, 0]) h2 rfl fun d w3 h3 => ?_
  refine dr_s h3 fun w4 h4 => ?_
  refine ncP_p (fld_at (ld1_at h4 2 rfl (v := .map (some b)) rfl ?_))
  refine ldN_at h4 1 (vs := x.key.cs) rfl (by rfl) rfl ?_
  refine lkM_s keyT_Key mapT_153 h4 4 rfl x.key ?_
  obtain ⟨i, hi⟩ := List.mem_iff_getElem?.1 hx
  rw [(ha.ok x.key i).2 ⟨x, hi, rfl⟩]
  refine xt_02 (xt_12 (not_t (iff_f ?_)))
  refine bld_s [.pointer (some ⟨q, 0, none⟩)] (by kernel_rfl) ?_
  refine heapRemove_s hi hl (prio_mk ha (h4.selR [_, _, _, _, _] [_, _, _, _] [2, 3, 4, 0] (by decide) rfl)) fun l' w5 hp hh h5 => ?_
  refine tyA_ok (by kernel_rfl) ?_
  refine stN_at h5 1 rfl (vs := x.cs) rfl rfl (Nat.le_of_ble_eq_true rfl) (ints_flat _) (cs' := x.cs) (by kernel_rfl) fun w6 h6 => ?_
  refine ldN_at h6 1 (vs := x.cs) rfl (by rfl) rfl ?_
  exact hk _ _ hp hh (h6.selR [_, _] [_] [0] (by decide) rfl)

theorem prio_First_none {q : Nat} {room : Int} (hS : Sat e w (IsPrio q room [] :: R)) (hk : ∀ w', Sat e w' (IsPrio q room [] :: R) → K (.tuple #[.agg Msg.zero.cs.toArray, .bool false]) w') : Cl prog 51 #[.pointer (some ⟨q, 0, none⟩)] w K := by
  refine prio_Queue_First_calls ?_
  unfold prio_Queue_First
  rw [zero_37]
  obtain ⟨v, b, m, ha, h1⟩ := prio_of hS
  refine al_s (cs := ints [0, 0, 0, 0, 0, 0]) h1 rfl fun d w3 h3 => ?_
  refine ncP_p (fld_at (ld1_at h3 1 rfl (v := v) rfl ?_))
  refine lnS_rd h3 2 rfl (fun g hg => own_rd hg) ?_
  refine eq_t rfl (iff_t ?_)
  refine bld_s Msg.zero.cs (by kernel_rfl) ?_
  refine stN_at h3 0 rfl (vs := Msg.zero.cs) rfl rfl (Nat.le_of_ble_eq_true rfl) (ints_flat _) (cs' := Msg.zero.cs) (by kernel_rfl) fun w4 h4 => ?_
  refine ldN_at h4 0 (vs := Msg.zero.cs) rfl (by rfl) rfl ?_
  exact hk _ (prio_mk ha h4.drop)
theorem prio_First_s {q : Nat} {room : Int} {l : List Msg} {x : Msg} (hx : l[0]? = some x) (hS : Sat e w (IsPrio q room l :: R))
    (hk : ∀ w', Sat e w' (IsPrio q room l :: R) → K (.tuple #[.agg x.cs.toArray, .bool true]) w') : Cl prog 51 #[.pointer (some ⟨q, 0, none⟩)] w K := by
  refine prio_Queue_First_calls ?_
  unfold prio_Queue_First
  rw [zero_37]
  obtain ⟨v, b, m, ha, h1⟩ := prio_of hS
  have h0 := (List.getElem?_eq_some_iff.1 hx).1
  refine al_s (cs := ints [0, 0, 0, 0, 0, 0]) h1 rfl fun d w3 h3 => ?_
  refine ncP_p (fld_at (ld1_at h3 1 rfl (v := v) rfl ?_))
  refine lnS_rd h3 2 rfl (fun g hg => own_rd hg) ?_
  refine eq_f (by omega) (iff_f ?_)
  refine ncP_p (fld_at (ld1_at h3 1 rfl (v := v) rfl ?_))
  refine ixS_rd (j := 0) h3 2 rfl (fun g hg => own_rd hg) (fun _ => rfl) hx fun p hp => ?_
  refine ldN_of h3 2 rfl hp rfl ?_
  refine stN_at h3 0 rfl (vs := x.cs) rfl rfl (Nat.le_of_ble_eq_true rfl) (ints_flat _) (cs' := x.cs) (by kernel_rfl) fun w4 h4 => ?_
  refine ldN_at h4 0 (vs := x.cs) rfl (by rfl) rfl ?_
  exact hk _ (prio_mk ha h4.drop)
end Go.Proofs.YtbopajpmadlmhaaGreat
end
section
namespace Go.Proofs.YtbopajpmadlmhaaGreat
open Go Go.E
set_option maxRecDepth 100000
variable {e w : World} {R : List HP} {K : KV}

def IsPR (q : Nat) (room : Int) (l : List Msg) : HP := hex fun v : Value => sepL [blk q 134 [.int .i64 room, v], ownS 37 6 Msg.cs v l]
theorem pr_of {q : Nat} {room : Int} {l : List Msg} (h : Sat e w (IsPR q room l :: R)) : ∃ v, Sat e w (blk q 134 [.int .i64 room, v] :: ownS 37 6 Msg.cs v l :: R) := by
  obtain ⟨v, h0⟩ := h.ex
  exact ⟨v, h0.split⟩
theorem pr_mk {q : Nat} {room : Int} {l : List Msg} {v : Value} (h : Sat e w (blk q 134 [.int .i64 room, v] :: ownS 37 6 Msg.cs v l :: R)) : Sat e w (IsPR q room l :: R) :=
  .mk_ex v (.join (l' := [_, _]) h)
theorem ref03_New_s {n : Int} (hS : Sat e w R) (hk : ∀ q w', Sat e w' (IsPR q (max 0 (min n 64)) [] :: R) → K (.pointer (some ⟨q, 0, none⟩)) w') : Cl prog 71 #[.int .i64 n] w K := by
  refine pacelineref03_New_calls ?_
  unfold pacelineref03_New
  refine min_s (max_s ?_)
  rw [zero_134]
  refine bld_s [.int .i64 (max 0 (min n 64)), .slice none 0 0] (by kernel_rfl) ?_
  refine al_s (cs := [.int .i64 (max 0 (min n 64)), .slice none 0 0]) hS rfl fun q w2 h2 => ?_
  exact hk _ _ (pr_mk (v := .slice none 0 0) (h2.own_nil 37 6 Msg.cs).swap)
theorem ref03_find_s {q : Nat} {room : Int} {l : List Msg} {k : Key} (hl : l.length ≤ 1000000) (hS : Sat e w (IsPR q room l :: R))
    (hno : (∀ x ∈ l, x.key ≠ k) → ∀ w', Sat e w' (IsPR q room l :: R) → K (.int .i64 (-1)) w')
    (hyes : ∀ (i : Nat) (x : Msg), l[i]? = some x → x.key = k → (∀ j y, j < i → l[j]? = some y → y.key ≠ k) → ∀ w', Sat e w' (IsPR q room l :: R) → K (.int .i64 (i : Int)) w') :
    Cl prog 132 #[.pointer (some ⟨q, 0, none⟩), .agg k.cs.toArray] w K := by
  refine pacelineref03_Queue_find_calls ?_
  unfold pacelineref03_Queue_find
  obtain ⟨v, h1⟩ := pr_of hS
  refine al_s (cs := k.cs) h1 rfl fun b w2 h2 => ?_
  refine lpi1 (fun z t5 w => ∃ j : Nat, j ≤ l.length ∧ t5 = .int .i64 j ∧ z = l.length - j ∧ (∀ i y, i < j → l[i]? = some y → y.key ≠ k) ∧ Sat e w (blk b 35 k.cs :: blk q 134 [.int .i64 room, v] :: ownS 37 6 Msg.cs v l :: R)) l.length
    ⟨0, Nat.zero_le _, rfl, rfl, (fun _ _ h => by omega), h2⟩ ?_
  rintro z _ w g ⟨j, hj, rfl, rfl, hne, h3⟩ hg
  refine ncP_p (fld_at (ld1_at h3 1 rfl (v := v) rfl ?_))
  refine lnS_rd h3 2 rfl (fun g hg => own_rd hg) ?_
  refine lt_c (fun c => iff_t ?_) (fun c => iff_f ?_)
  · obtain ⟨x, hx⟩ := get_of_lt (l := l) (j := j) (by omega)
    refine dr_s h3 fun w4 h4 => ?_
    refine ncP_p (fld_at (ld1_at h4 1 rfl (v := v) rfl ?_))
    refine ixS_rd h4 2 rfl (fun g hg => own_rd hg) (fun _ => rfl) hx fun p hp => ?_
    refine fld_of hp fun p1 hp1 => ?_
    refine ldN_sub (us := x.key.cs) h4 2 rfl hp1 (by rfl) rfl ?_
    refine ldN_at h4 0 (vs := k.cs) rfl (by rfl) rfl ?_
    refine bO_eq (ns := x.key.ns) (ms := k.ns) eqT_35 agg_35 egt_35 (by decide) rfl ?_
    rw [Key.eq_ns]
    by_cases hxk : x.key = k
    · rw [decide_eq_true hxk]
      exact iff_t (hyes j x hx hxk hne _ (pr_mk h4.drop))
    · rw [decide_eq_false hxk]
      refine iff_f (inc_s (by omega) ?_)
      refine hg _ _ _ (by omega) ⟨j + 1, by omega, rfl, rfl, fun i y hi hy => ?_, h4⟩
      by_cases hij : i = j
      · subst hij; rw [hx] at hy; injection hy with hy; subst hy; exact hxk
      · exact hne i y (by omega) hy
  · refine hno (fun x hx => ?_) _ (pr_mk h3.drop)
    obtain ⟨i, hi⟩ := List.mem_iff_getElem?.1 hx
    exact hne i x (by have := (List.getElem?_eq_some_iff.1 hi).1; omega) hi

structure Place (l : List Msg) (m : Msg) (p : Nat) : Prop where
  le : p ≤ l.length
  low : ∀ z ∈ l.take p, ¬ KeyLt m.key z.key
  high : p = l.length ∨ ∃ y, l[p]? = some y ∧ KeyLt m.key y.key
def insAt (l : List Msg) (m : Msg) (p : Nat) : List Msg := l.take p ++ m :: l.drop p
theorem insAt_perm (l : List Msg) (m : Msg) (p : Nat) : (insAt l m p).Perm (l ++ [m]) := by
  unfold insAt
  refine List.perm_middle.trans ?_
  rw [List.take_append_drop]
  exact (List.perm_append_comm (l₁ := [m]) (l₂ := l))
def Up (l : List Msg) : Prop := l.Pairwise fun a b => KeyLt a.key b.key
theorem Place.up {l : List Msg} {m : Msg} {p : Nat} (h : Place l m p) (hu : Up l) (hne : ∀ y ∈ l, y.key ≠ m.key) : Up (insAt l m p) := by
  unfold Up insAt at *
  have hs : (l.take p ++ l.drop p).Pairwise fun a b => KeyLt a.key b.key := by rw [List.take_append_drop]; exact hu
  obtain ⟨h1, h2, h3⟩ := List.pairwise_append.1 hs
  have hm : ∀ y ∈ l.drop p, KeyLt m.key y.key := by
    intro y hy
    rcases h.high with hp | ⟨z, hz, hmz⟩
    · rw [List.drop_of_length_le (by omega)] at hy; cases hy
    · rw [drop_cons hz] at hy h2
      rcases List.mem_cons.1 hy with rfl | hy
      · exact hmz
      · exact hmz.trans ((List.pairwise_cons.1 h2).1 y hy)
  refine List.pairwise_append.2 ⟨h1, List.pairwise_cons.2 ⟨hm, h2⟩, fun z hz y hy => ?_⟩
  rcases List.mem_cons.1 hy with rfl | hy
  · rcases KeyLt.tri z.key y.key with h4 | h4 | h4
    · exact h4
    · exact absurd h4 (hne z (List.mem_of_mem_take hz))
    · exact absurd h4 (h.low z hz)
  · exact h3 z hz y hy

structure InsM (l : List Msg) (m : Msg) (i : Nat) (d : Bool) (c : List Msg) : Prop where
  no : d = false → c = l.take i ∧ ∀ z ∈ l.take i, ¬ KeyLt m.key z.key
  yes : d = true → ∃ p y, p < i ∧ l[p]? = some y ∧ KeyLt m.key y.key ∧ (∀ z ∈ l.take p, ¬ KeyLt m.key z.key) ∧ c = l.take p ++ m :: (l.take i).drop p
theorem InsM.len {l : List Msg} {m : Msg} {i : Nat} {d : Bool} {c : List Msg} (h : InsM l m i d c) (_hi : i ≤ l.length) : c.length ≤ i + 1 := by
  cases d with
  | false => rw [(h.no rfl).1, List.length_take]; omega
  | true =>
    obtain ⟨p, y, hp, _, _, _, rfl⟩ := h.yes rfl
    simp only [List.length_append, List.length_cons, List.length_take, List.length_drop]
    omega

theorem ref03_Insert_s {v : Value} {l : List Msg} {m : Msg} {S : HP} (hl : l.length ≤ 1000000) (hS : Sat e w (S :: R)) (hr : ∀ g, S g → rdS 6 Msg.cs v l g)
    (hk : ∀ v' p w', Place l m p → Sat e w' (ownS 37 6 Msg.cs v' (insAt l m p) :: S :: R) → K v' w') : Cl prog 13 #[v, .agg m.cs.toArray] w K := by
  refine pacelineref03_Insert_calls ?_
  unfold pacelineref03_Insert
  rw [zero_37]
  refine al_s (cs := m.cs) hS rfl fun b w2 h2 => ?_
  refine bsl0 h2 Msg.cs fun v1 w3 h3 => ?_
  refine lpi3 (fun z t5 t6 t7 w => ∃ (i : Nat) (d : Bool) (c : List Msg), i ≤ l.length ∧ t6 = .bool d ∧ t7 = .int .i64 i ∧ z = l.length - i ∧ InsM l m i d c ∧ Sat e w (ownS 37 6 Msg.cs t5 c :: blk b 37 m.cs :: S :: R)) l.length
    ⟨0, false, [], Nat.zero_le _, rfl, rfl, rfl, ⟨fun _ => ⟨rfl, fun _ h => by cases h⟩, fun h => by cases h⟩, h3⟩ ?_
  rintro z t5 _ _ w g1 ⟨i, d, c, hi, rfl, rfl, rfl, hins, h4⟩ hg
  have hcl := hins.len hi
  refine lnS_rd h4 2 rfl hr ?_
  refine lt_c (fun c3 => iff_t ?_) (fun c3 => iff_f ?_)
  · obtain ⟨y, hy⟩ := get_of_lt (l := l) (j := i) (by omega)
    have hlast : ∀ t5 c' d' w, c'.length ≤ i + 1 → InsM l m (i + 1) d' (c' ++ [y]) → Sat e w (ownS 37 6 Msg.cs t5 c' :: blk b 37 m.cs :: S :: R) →
        ixS 6 v (.int .i64 (i : Int)) w fun t35 w => ldN 6 t35 w fun t36 w => bsl 37 6 1 (ints [0, 0, 0, 0, 0, 0]).toArray [(0, t36)] w fun t37 w => apS prog #[33, 33] 33 t5 t37 w fun t38 w =>
          bi .add .i64 (.int .i64 (i : Int)) (Value.int IntKind.i64 1) w fun t14 w => g1 [t38, .bool d', t14] w := by
      intro t5 c' d' w hc' hins' h5
      refine ixS_rd h5 2 rfl hr (fun _ => rfl) hy fun p hp => ?_
      refine ldN_of h5 2 rfl hp rfl ?_
      refine push1 te_33 (f := Msg.cs) (fun _ => rfl) (fun _ => ints_flat _) h5 (x := y) rfl (by omega) fun v' w6 h6 => ?_
      refine inc_s (by omega) ?_
      exact hg _ _ _ _ _ (by omega) ⟨i + 1, d', c' ++ [y], by omega, rfl, rfl, rfl, hins', h6⟩
    refine dr_s h4 fun w5 h5 => ?_
    cases d with
    | true =>
      refine not_t (gd_ft (gd_ft (gd_ft (gd_ft (gd_ft (gd_ft (gd_ft (gd_ft (gd_ft (pk_f (iff_f ?_)))))))))))
      refine hlast _ c true _ hcl ⟨(fun h => by cases h), fun _ => ?_⟩ h5
      obtain ⟨p, y', hp, hy', hxy, hlo, rfl⟩ := hins.yes rfl
      refine ⟨p, y', by omega, hy', hxy, hlo, ?_⟩
      rw [take_snoc hy, List.drop_append_of_le_length (by rw [List.length_take]; omega)]
      simp
    | false =>
      obtain ⟨rfl, hlo⟩ := hins.no rfl
      refine not_f (gd_tt (fld_at (gd_tt (ldN_at h5 1 (vs := m.key.cs) rfl (by rfl) rfl (gd_tt (gd_tt (gd_tt ?_)))))))
      refine ixS_rd h5 2 rfl hr (fun _ => rfl) hy fun p hp => ?_
      refine gd_tt (fld_of hp fun p1 hp1 => ?_)
      refine gd_tt (ldN_sub (us := y.key.cs) h5 2 rfl hp1 (by rfl) rfl ?_)
      refine gd_tt (ref01_Cmp_s h5 fun w8 h11 => ?_)
      refine gd_tt (lt_c (fun c4 => pk_t (iff_t ?_)) (fun c4 => pk_t (iff_f ?_)))
      · refine ldN_at h11 1 (vs := m.cs) rfl (by rfl) rfl ?_
        refine push1 te_33 (f := Msg.cs) (fun _ => rfl) (fun _ => ints_flat _) h11 (x := m) rfl (by omega) fun v' w9 h12 => ?_
        refine hlast _ (l.take i ++ [m]) true _ (by rw [List.length_append, List.length_take]; simp; omega) ⟨(fun h => by cases h), fun _ => ⟨i, y, by omega, hy, cmpK_lt.1 c4, hlo, ?_⟩⟩ h12
        rw [take_snoc hy, List.drop_append_of_le_length (by rw [List.length_take]; omega), List.drop_of_length_le (by rw [List.length_take]; omega)]
        simp
      · refine hlast _ (l.take i) false _ hcl ⟨fun _ => ⟨(take_snoc hy).symm, fun z hz => ?_⟩, fun h => by cases h⟩ h11
        rw [take_snoc hy] at hz
        rcases List.mem_append.1 hz with h | h
        · exact hlo z h
        · rw [List.mem_singleton.1 h]; exact fun h => c4 (cmpK_lt.2 h)
  · obtain rfl : i = l.length := by omega
    cases d with
    | true =>
      obtain ⟨p, y, hp, hy, hxy, hlo, rfl⟩ := hins.yes rfl
      rw [List.take_length] at h4
      refine not_t (iff_f (hk _ p _ ⟨by omega, hlo, .inr ⟨y, hy, hxy⟩⟩ ?_))
      exact h4.selR [_, _, _] [_, _] [0, 2] (by decide) rfl
    | false =>
      obtain ⟨rfl, hlo⟩ := hins.no rfl
      refine not_f (iff_t ?_)
      refine ldN_at h4 1 (vs := m.cs) rfl (by rfl) rfl ?_
      refine push1 te_33 (f := Msg.cs) (fun _ => rfl) (fun _ => ints_flat _) h4 (x := m) rfl (by omega) fun v' w9 h12 => ?_
      refine hk _ l.length _ ⟨Nat.le_refl _, hlo, .inl rfl⟩ ?_
      have e1 : insAt l m l.length = l.take l.length ++ [m] := by unfold insAt; rw [List.drop_length]
      rw [e1]
      exact h12.selR [_, _, _] [_, _] [0, 2] (by decide) rfl

end Go.Proofs.YtbopajpmadlmhaaGreat
namespace Go.Proofs.YtbopajpmadlmhaaGreat
open Go Go.E
set_option maxRecDepth 100000
variable {e w : World} {R : List HP} {K : KV}

def without (l : List Msg) (k : Key) : List Msg := l.filter fun x => !decide (x.key = k)
theorem filterM_snoc {p : Msg → Bool} {l : List Msg} {j : Nat} {x : Msg} (hx : l[j]? = some x) : (l.take (j + 1)).filter p = (l.take j).filter p ++ if p x then [x] else [] := by
  rw [take_snoc hx, List.filter_append]
  cases hpx : p x <;> simp [hpx]
theorem ref03_Without_s {v : Value} {l : List Msg} {k : Key} {S : HP} (hl : l.length ≤ 1000000) (hS : Sat e w (S :: R)) (hr : ∀ g, S g → rdS 6 Msg.cs v l g)
    (hk : ∀ v' w', Sat e w' (ownS 37 6 Msg.cs v' (without l k) :: S :: R) → K v' w') : Cl prog 133 #[v, .agg k.cs.toArray] w K := by
  refine pacelineref03_Without_calls ?_
  unfold pacelineref03_Without
  rw [zero_37]
  refine al_s (cs := k.cs) hS rfl fun b w2 h2 => ?_
  refine bsl0 h2 Msg.cs fun v1 w3 h3 => ?_
  refine lpi2 (fun z t5 t6 w => ∃ j : Nat, j ≤ l.length ∧ t6 = .int .i64 j ∧ z = l.length - j ∧ Sat e w (ownS 37 6 Msg.cs t5 ((l.take j).filter fun x => !decide (x.key = k)) :: blk b 35 k.cs :: S :: R)) l.length
    ⟨0, Nat.zero_le _, rfl, rfl, h3⟩ ?_
  rintro z t5 _ w g ⟨j, hj, rfl, rfl, h4⟩ hg
  refine lnS_rd h4 2 rfl hr ?_
  refine lt_c (fun c => iff_t ?_) (fun c => iff_f ?_)
  · obtain ⟨x, hx⟩ := get_of_lt (l := l) (j := j) (by omega)
    have hn2 := List.length_filter_le (fun x : Msg => !decide (x.key = k)) (l.take j)
    have hn3 : (l.take j).length ≤ 1000000 := by simp; omega
    refine J1.cut (fun t5 w => Sat e w (ownS 37 6 Msg.cs t5 ((l.take (j + 1)).filter fun x => !decide (x.key = k)) :: blk b 35 k.cs :: S :: R)) (fun k2 hcut => ?_) (fun t5 w h5 => ?_)
    · rw [filterM_snoc hx] at hcut
      refine dr_s h4 fun w5 h5 => ?_
      refine ixS_rd h5 2 rfl hr (fun _ => rfl) hx fun p hp => ?_
      refine fld_of hp fun p1 hp1 => ?_
      refine ldN_sub (us := x.key.cs) h5 2 rfl hp1 (by rfl) rfl ?_
      refine ldN_at h5 1 (vs := k.cs) rfl (by rfl) rfl ?_
      refine bO_ne (ns := x.key.ns) (ms := k.ns) eqT_35 agg_35 egt_35 (by decide) rfl ?_
      rw [Key.eq_ns]
      by_cases hxk : x.key = k
      · rw [decide_eq_true hxk] at hcut ⊢
        refine iff_f (hcut _ _ ?_)
        simpa using h5
      · rw [decide_eq_false hxk] at hcut ⊢
        refine iff_t ?_
        refine ixS_rd h5 2 rfl hr (fun _ => rfl) hx fun p hp => ?_
        refine ldN_of h5 2 rfl hp rfl ?_
        refine push1 te_33 (f := Msg.cs) (fun _ => rfl) (fun _ => ints_flat _) h5 (x := x) rfl (by omega) fun v' w6 h6 => ?_
        exact hcut _ _ h6
    · refine inc_s (by omega) ?_
      exact hg _ _ _ _ (by omega) ⟨j + 1, by omega, rfl, rfl, h5⟩
  · obtain rfl : j = l.length := by omega
    rw [List.take_length] at h4
    exact hk _ _ (h4.selR [_, _, _] [_, _] [0, 2] (by decide) rfl)
theorem ref03_Len_s {q : Nat} {room : Int} {l : List Msg} (hS : Sat e w (IsPR q room l :: R)) (hk : K (.int .i64 (l.length : Int)) w) : Cl prog 77 #[.pointer (some ⟨q, 0, none⟩)] w K := by
  obtain ⟨v, h1⟩ := pr_of hS
  refine pacelineref03_Queue_Len_calls ?_
  unfold pacelineref03_Queue_Len
  refine ncP_p (fld_at (ld1_at h1 0 rfl (v := v) rfl ?_))
  exact lnS_rd h1 1 rfl (fun g hg => own_rd hg) hk
theorem ref03_First_none {q : Nat} {room : Int} (hS : Sat e w (IsPR q room [] :: R)) (hk : ∀ w', Sat e w' (IsPR q room [] :: R) → K (.tuple #[.agg Msg.zero.cs.toArray, .bool false]) w') : Cl prog 80 #[.pointer (some ⟨q, 0, none⟩)] w K := by
  refine pacelineref03_Queue_First_calls ?_
  unfold pacelineref03_Queue_First
  rw [zero_37]
  obtain ⟨v, h1⟩ := pr_of hS
  refine al_s (cs := ints [0, 0, 0, 0, 0, 0]) h1 rfl fun d w3 h3 => ?_
  refine ncP_p (fld_at (ld1_at h3 1 rfl (v := v) rfl ?_))
  refine lnS_rd h3 2 rfl (fun g hg => own_rd hg) ?_
  refine eq_t rfl (iff_t ?_)
  refine bld_s Msg.zero.cs (by kernel_rfl) ?_
  refine stN_at h3 0 rfl (vs := Msg.zero.cs) rfl rfl (Nat.le_of_ble_eq_true rfl) (ints_flat _) (cs' := Msg.zero.cs) (by kernel_rfl) fun w4 h4 => ?_
  refine ldN_at h4 0 (vs := Msg.zero.cs) rfl (by rfl) rfl ?_
  exact hk _ (pr_mk h4.drop)
theorem ref03_First_s {q : Nat} {room : Int} {l : List Msg} {x : Msg} (hx : l[0]? = some x) (hS : Sat e w (IsPR q room l :: R))
    (hk : ∀ w', Sat e w' (IsPR q room l :: R) → K (.tuple #[.agg x.cs.toArray, .bool true]) w') : Cl prog 80 #[.pointer (some ⟨q, 0, none⟩)] w K := by
  refine pacelineref03_Queue_First_calls ?_
  unfold pacelineref03_Queue_First
  rw [zero_37]
  obtain ⟨v, h1⟩ := pr_of hS
  have h0 := (List.getElem?_eq_some_iff.1 hx).1
  refine al_s (cs := ints [0, 0, 0, 0, 0, 0]) h1 rfl fun d w3 h3 => ?_
  refine ncP_p (fld_at (ld1_at h3 1 rfl (v := v) rfl ?_))
  refine lnS_rd h3 2 rfl (fun g hg => own_rd hg) ?_
  refine eq_f (by omega) (iff_f ?_)
  refine ncP_p (fld_at (ld1_at h3 1 rfl (v := v) rfl ?_))
  refine ixS_rd (j := 0) h3 2 rfl (fun g hg => own_rd hg) (fun _ => rfl) hx fun p hp => ?_
  refine ldN_of h3 2 rfl hp rfl ?_
  refine stN_at h3 0 rfl (vs := x.cs) rfl rfl (Nat.le_of_ble_eq_true rfl) (ints_flat _) (cs' := x.cs) (by kernel_rfl) fun w4 h4 => ?_
  refine ldN_at h4 0 (vs := x.cs) rfl (by rfl) rfl ?_
  exact hk _ (pr_mk h4.drop)
theorem ref03_Pop_none {q : Nat} {room : Int} (hS : Sat e w (IsPR q room [] :: R)) (hk : ∀ w', Sat e w' (IsPR q room [] :: R) → K (.tuple #[.agg Msg.zero.cs.toArray, .bool false]) w') : Cl prog 81 #[.pointer (some ⟨q, 0, none⟩)] w K := by
  refine pacelineref03_Queue_Pop_calls ?_
  unfold pacelineref03_Queue_Pop
  rw [zero_37]
  refine al_s (cs := ints [0, 0, 0, 0, 0, 0]) hS rfl fun d w3 h3 => ?_
  refine ref03_First_none h3.swap fun w4 h4 => ?_
  refine xt_02 (xt_12 ?_)
  refine al_s (cs := ints [0, 0, 0, 0, 0, 0]) h4 rfl fun d2 w5 h5 => ?_
  refine stN_at h5 0 rfl (vs := Msg.zero.cs) rfl rfl (Nat.le_of_ble_eq_true rfl) (ints_flat _) (cs' := Msg.zero.cs) (by kernel_rfl) fun w6 h6 => ?_
  refine iff_f ?_
  refine ldN_at h6 0 (vs := Msg.zero.cs) rfl (by rfl) rfl ?_
  refine stN_at h6 2 rfl (vs := Msg.zero.cs) rfl rfl (Nat.le_of_ble_eq_true rfl) (ints_flat _) (cs' := Msg.zero.cs) (by kernel_rfl) fun w7 h7 => ?_
  refine ldN_at h7 2 (vs := Msg.zero.cs) rfl (by rfl) rfl ?_
  exact hk _ (h7.selR [_, _, _] [_] [1] (by decide) rfl)
theorem ref03_Pop_s {q : Nat} {room : Int} {l : List Msg} {x : Msg} (hl : l.length ≤ 1000) (hx : l[0]? = some x) (hS : Sat e w (IsPR q room l :: R))
    (hk : ∀ w', Sat e w' (IsPR q room (without l x.key) :: R) → K (.tuple #[.agg x.cs.toArray, .bool true]) w') : Cl prog 81 #[.pointer (some ⟨q, 0, none⟩)] w K := by
  refine pacelineref03_Queue_Pop_calls ?_
  unfold pacelineref03_Queue_Pop
  rw [zero_37]
  refine al_s (cs := ints [0, 0, 0, 0, 0, 0]) hS rfl fun d w3 h3 => ?_
  refine ref03_First_s hx h3.swap fun w4 h4 => ?_
  refine xt_02 (xt_12 ?_)
  refine al_s (cs := ints [0, 0, 0, 0, 0, 0]) h4 rfl fun d2 w5 h5 => ?_
  refine stN_at h5 0 rfl (vs := x.cs) rfl rfl (Nat.le_of_ble_eq_true rfl) (ints_flat _) (cs' := x.cs) (by kernel_rfl) fun w6 h6 => ?_
  refine iff_t ?_
  refine dr_s h6 fun w7 h7 => ?_
  obtain ⟨v, h8⟩ := pr_of (h7.selR [_, _, _] [_, _, _] [1, 0, 2] (by decide) rfl)
  refine ncP_p (fld_at (ld1_at h8 0 rfl (v := v) rfl ?_))
  refine fld_at (ldN_at h8 2 (vs := x.key.cs) rfl (by rfl) rfl ?_)
  refine ref03_Without_s (by omega) (h8.pick 1 rfl) (fun g hg => own_rd hg) fun v' w8 h9 => ?_
  refine ncP_p (fld_at ?_)
  refine st1_at h9 2 rfl (h9.own_cells 0 rfl) (Nat.le_of_ble_eq_true rfl) rfl fun w9 h10 => ?_
  refine ldN_at h10 3 (vs := x.cs) rfl (by rfl) rfl ?_
  refine stN_at h10 4 rfl (vs := x.cs) rfl rfl (Nat.le_of_ble_eq_true rfl) (ints_flat _) (cs' := x.cs) (by kernel_rfl) fun w10 h11 => ?_
  refine ldN_at h11 4 (vs := x.cs) rfl (by rfl) rfl ?_
  exact hk _ (pr_mk (h11.selR [_, _, _, _, _] [_, _] [2, 0] (by decide) rfl))
theorem ref03_Remove_none {q : Nat} {room : Int} {l : List Msg} {k : Key} (hl : l.length ≤ 1000) (hno : ∀ y ∈ l, y.key ≠ k) (hS : Sat e w (IsPR q room l :: R)) (hk : ∀ w', Sat e w' (IsPR q room l :: R) → K (.tuple #[.agg Msg.zero.cs.toArray, .bool false]) w') : Cl prog 79 #[.pointer (some ⟨q, 0, none⟩), .agg k.cs.toArray] w K := by
  refine pacelineref03_Queue_Remove_calls ?_
  unfold pacelineref03_Queue_Remove
  rw [zero_37]
  refine al_s (cs := k.cs) hS rfl fun c w2 h2 => ?_
  refine al_s (cs := ints [0, 0, 0, 0, 0, 0]) h2 rfl fun d w3 h3 => ?_
  refine ldN_at h3 1 (vs := k.cs) rfl (by rfl) rfl ?_
  refine ref03_find_s (by omega) (h3.selR [_, _, _] [_, _, _] [2, 0, 1] (by decide) rfl) (fun _ w4 h4 => ?_) (fun i x hx hxk => absurd hxk (hno x (List.mem_of_getElem? hx)))
  refine lt_t (by decide) (iff_t ?_)
  refine bld_s Msg.zero.cs (by kernel_rfl) ?_
  refine stN_at h4 1 rfl (vs := Msg.zero.cs) rfl rfl (Nat.le_of_ble_eq_true rfl) (ints_flat _) (cs' := Msg.zero.cs) (by kernel_rfl) fun w5 h5 => ?_
  refine ldN_at h5 1 (vs := Msg.zero.cs) rfl (by rfl) rfl ?_
  exact hk _ (h5.selR [_, _, _] [_] [0] (by decide) rfl)
theorem ref03_Remove_s {q : Nat} {room : Int} {l : List Msg} {x : Msg} (hl : l.length ≤ 1000) (hx : x ∈ l) (hu : (l.map Msg.key).Nodup) (hS : Sat e w (IsPR q room l :: R))
    (hk : ∀ w', Sat e w' (IsPR q room (without l x.key) :: R) → K (.tuple #[.agg x.cs.toArray, .bool true]) w') : Cl prog 79 #[.pointer (some ⟨q, 0, none⟩), .agg x.key.cs.toArray] w K := by
  refine pacelineref03_Queue_Remove_calls ?_
  unfold pacelineref03_Queue_Remove
  rw [zero_37]
  refine al_s (cs := x.key.cs) hS rfl fun c w2 h2 => ?_
  refine al_s (cs := ints [0, 0, 0, 0, 0, 0]) h2 rfl fun d w3 h3 => ?_
  refine ldN_at h3 1 (vs := x.key.cs) rfl (by rfl) rfl ?_
  refine ref03_find_s (by omega) (h3.selR [_, _, _] [_, _, _] [2, 0, 1] (by decide) rfl) (fun hno => absurd rfl (hno x hx)) (fun i y hy hyk _ w4 h4 => ?_)
  have hyx : y = x := by
    obtain ⟨j, hj⟩ := List.mem_iff_getElem?.1 hx
    have e1 : (l.map Msg.key)[i]? = some x.key := by simp [hy, hyk]
    have e2 : (l.map Msg.key)[j]? = some x.key := by simp [hj]
    have hil := (List.getElem?_eq_some_iff.1 hy).1
    have := (List.getElem?_inj (by simpa using hil) hu).1 (e1.trans e2.symm)
    subst this
    rw [hj] at hy
    injection hy with hy
    exact hy.symm
  subst hyx
  obtain ⟨v, h5⟩ := pr_of h4
  refine lt_f (by omega) (iff_f ?_)
  refine ncP_p (fld_at (ld1_at h5 0 rfl (v := v) rfl ?_))
  refine ixS_rd h5 1 rfl (fun g hg => own_rd hg) (fun _ => rfl) hy fun p hp => ?_
  refine ldN_of h5 1 rfl hp rfl ?_
  refine al_s (cs := ints [0, 0, 0, 0, 0, 0]) h5 rfl fun d2 w6 h6 => ?_
  refine stN_at h6 0 rfl (vs := y.cs) rfl rfl (Nat.le_of_ble_eq_true rfl) (ints_flat _) (cs' := y.cs) (by kernel_rfl) fun w7 h7 => ?_
  refine dr_s h7 fun w8 h8 => ?_
  refine ncP_p (fld_at (ld1_at h8 1 rfl (v := v) rfl ?_))
  refine ldN_at h8 4 (vs := y.key.cs) rfl (by rfl) rfl ?_
  refine ref03_Without_s (by omega) (h8.pick 2 rfl) (fun g hg => own_rd hg) fun v' w9 h9 => ?_
  refine ncP_p (fld_at ?_)
  refine st1_at h9 3 rfl (h9.own_cells 0 rfl) (Nat.le_of_ble_eq_true rfl) rfl fun w10 h10 => ?_
  refine ldN_at h10 2 (vs := y.cs) rfl (by rfl) rfl ?_
  refine stN_at h10 4 rfl (vs := y.cs) rfl rfl (Nat.le_of_ble_eq_true rfl) (ints_flat _) (cs' := y.cs) (by kernel_rfl) fun w11 h11 => ?_
  refine ldN_at h11 4 (vs := y.cs) rfl (by rfl) rfl ?_
  exact hk _ (pr_mk (h11.selR [_, _, _, _, _, _] [_, _] [3, 0] (by decide) rfl))
end Go.Proofs.YtbopajpmadlmhaaGreat
end
section
namespace Go.Proofs.YtbopajpmadlmhaaGreat
open Go Go.E
set_option maxRecDepth 100000
instance (a b : Key) : Decidable (KeyLt a b) := by unfold KeyLt; infer_instance
structure En where
  m : Msg
  ahead : Int
  sent : Int
  st : Int
  outs : List Msg
structure EnX where
  m : Msg
  ahead : Int
  sent : Int
  st : Int
  ov : Value
  outs : List Msg
def EnX.e (x : EnX) : En := ⟨x.m, x.ahead, x.sent, x.st, x.outs⟩
variable {e w : World} {L Q R : List HP} {K : KV} {S S2 : HP}

def EnX.cs (x : EnX) : List Value := [.int .i64 x.m.key.T, .int .i64 x.m.key.From, .int .i64 x.m.key.Seq, .int .i64 x.m.To, .int .i64 x.m.Class, .int .i64 x.m.Body, .int .i64 x.ahead, .int .i64 x.sent, .int .i64 x.st, x.ov]
def EnX.zero : EnX := ⟨Msg.zero, 0, 0, 0, .slice none 0 0, []⟩
def eOwn (x : EnX) : HP := ownS 37 6 Msg.cs x.ov x.outs
theorem EnX.flat {x : EnX} (h : flat x.ov = true) : ∀ c ∈ x.cs, Go.E.flat c = true := by
  intro c hc
  simp only [EnX.cs, List.mem_cons, List.not_mem_nil, or_false] at hc
  rcases hc with rfl | rfl | rfl | rfl | rfl | rfl | rfl | rfl | rfl | rfl <;> first | rfl | exact h
theorem sepL_parts {a b : List HP} (h : Sat e w (sepL (a ++ b) :: R)) : Sat e w (sepL a :: sepL b :: R) := by
  have h1 := h.split
  rw [List.append_assoc] at h1
  have h2 : Sat e w (sepL a :: (b ++ R)) := Sat.join h1
  have h3 : Sat e w (b ++ (sepL a :: R)) := h2.perm List.perm_middle.symm
  exact (Sat.join h3).swap
theorem sepL_both {a b : List HP} (h : Sat e w (sepL a :: sepL b :: R)) : Sat e w (sepL (a ++ b) :: R) := by
  have h1 : Sat e w (b ++ (sepL a :: R)) := Sat.split h.swap
  have h2 : Sat e w (sepL a :: (b ++ R)) := h1.perm List.perm_middle
  have h3 := h2.split
  rw [← List.append_assoc] at h3
  exact Sat.join h3
theorem sepL_perm {a b : List HP} (hp : a.Perm b) (h : Sat e w (sepL a :: R)) : Sat e w (sepL b :: R) := Sat.join (h.split.perm (hp.append_right R))
theorem en_flat {xs : List EnX} (i : Nat) (hS : Sat e w L) (hi : L[i]? = some (sepL (xs.map eOwn))) {x : EnX} (hx : x ∈ xs) : flat x.ov = true := by
  obtain ⟨j, hj⟩ := List.getElem?_of_mem hx
  have h1 := (hS.pick i hi).split
  have h2 : (xs.map eOwn ++ L.eraseIdx i)[j]? = some (eOwn x) := by
    rw [List.getElem?_append_left (by rw [List.length_map]; exact (List.getElem?_eq_some_iff.1 hj).1), List.getElem?_map, hj]
    rfl
  exact (h1.own_cells j h2).2

structure PastOk (l : List En) : Prop where
  up : l.Pairwise fun a b => KeyLt a.m.key b.m.key
  len : l.length ≤ 64
  outs : ∀ x ∈ l, x.outs.length ≤ 1000
structure PV where
  lv : Value
  xs : List EnX
def IsPast (p : Nat) (fl : Int) (l : List En) : HP := hex fun v : PV => sepL [pur (v.xs.map EnX.e = l ∧ PastOk l), blk p 157 [.int .i64 fl, v.lv], ownS 113 10 EnX.cs v.lv v.xs, sepL (v.xs.map eOwn)]
theorem past_of {p : Nat} {fl : Int} {l : List En} (h : Sat e w (IsPast p fl l :: R)) : ∃ lv xs, (xs.map EnX.e = l ∧ PastOk l) ∧ Sat e w (blk p 157 [.int .i64 fl, lv] :: ownS 113 10 EnX.cs lv xs :: sepL (xs.map eOwn) :: R) := by
  obtain ⟨v, h0⟩ := h.ex
  exact ⟨v.lv, v.xs, Sat.pure h0.split⟩
theorem past_mk {p : Nat} {fl : Int} {l : List En} {lv : Value} {xs : List EnX} (hp : xs.map EnX.e = l ∧ PastOk l) (h : Sat e w (blk p 157 [.int .i64 fl, lv] :: ownS 113 10 EnX.cs lv xs :: sepL (xs.map eOwn) :: R)) : Sat e w (IsPast p fl l :: R) :=
  .mk_ex ⟨lv, xs⟩ (.join (l' := [_, _, _, _]) (.mk_pure hp h))
def IsEns (v : Value) (l : List En) : HP := hex fun xs : List EnX => sepL [pur (xs.map EnX.e = l), ownS 113 10 EnX.cs v xs, sepL (xs.map eOwn)]
theorem ens_of {v : Value} {l : List En} (h : Sat e w (IsEns v l :: R)) : ∃ xs, xs.map EnX.e = l ∧ Sat e w (ownS 113 10 EnX.cs v xs :: sepL (xs.map eOwn) :: R) := by
  obtain ⟨xs, h0⟩ := h.ex
  exact ⟨xs, Sat.pure h0.split⟩
theorem ens_mk {v : Value} {xs : List EnX} (h : Sat e w (ownS 113 10 EnX.cs v xs :: sepL (xs.map eOwn) :: R)) : Sat e w (IsEns v (xs.map EnX.e) :: R) := .mk_ex xs (.join (l' := [_, _, _]) (.mk_pure rfl h))

theorem past_New_s (hS : Sat e w R) (hk : ∀ p w', Sat e w' (IsPast p 0 [] :: R) → K (.pointer (some ⟨p, 0, none⟩)) w') : Cl prog 45 #[] w K := by
  refine past_New_calls ?_
  unfold past_New
  refine bld_s [.int .i64 0, .slice none 0 0] (by kernel_rfl) ?_
  refine al_s (cs := [.int .i64 0, .slice none 0 0]) hS rfl fun p w1 h1 => ?_
  refine hk p _ (past_mk (lv := .slice none 0 0) (xs := []) ⟨rfl, .nil, by simp, by simp⟩ ?_)
  have h2 : Sat e w1 (sepL [] :: blk p 157 [.int .i64 0, .slice none 0 0] :: R) := Sat.join (l' := []) h1
  have h3 := h2.own_nil 113 10 EnX.cs
  exact h3.selR [_, _, _] [_, _, _] [2, 0, 1] (by decide) rfl
theorem past_Floor_s {p : Nat} {fl : Int} {l : List En} (hS : Sat e w (IsPast p fl l :: R)) (hk : K (.int .i64 fl) w) : Cl prog 61 #[.pointer (some ⟨p, 0, none⟩)] w K := by
  refine past_Past_Floor_calls ?_
  unfold past_Past_Floor
  obtain ⟨lv, xs, hp, h1⟩ := past_of hS
  exact ncP_p (fld_at (ld1_at h1 0 rfl (v := .int .i64 fl) rfl hk))
theorem past_Len_s {p : Nat} {fl : Int} {l : List En} (hS : Sat e w (IsPast p fl l :: R)) (hk : K (.int .i64 (l.length : Int)) w) : Cl prog 52 #[.pointer (some ⟨p, 0, none⟩)] w K := by
  refine past_Past_Len_calls ?_
  unfold past_Past_Len
  obtain ⟨lv, xs, hp, h1⟩ := past_of hS
  refine ncP_p (fld_at (ld1_at h1 0 rfl (v := lv) rfl ?_))
  refine lnS_rd h1 1 rfl (fun g hg => own_rd hg) ?_
  rw [show (xs.length : Int) = l.length from by rw [← hp.1, List.length_map]]
  exact hk
theorem past_Keys_s {p : Nat} {fl : Int} {l : List En} (hS : Sat e w (IsPast p fl l :: R)) (hk : ∀ v w', Sat e w' (ownS 35 3 Key.cs v (l.map fun x => x.m.key) :: IsPast p fl l :: R) → K v w') : Cl prog 143 #[.pointer (some ⟨p, 0, none⟩)] w K := by
  refine past_Past_Keys_calls ?_
  unfold past_Past_Keys
  obtain ⟨lv, xs, hp, h1⟩ := past_of hS
  have hxl : xs.length ≤ 64 := by have := hp.2.len; rw [← hp.1, List.length_map] at this; exact this
  refine ncP_p (fld_at (ld1_at h1 0 rfl (v := lv) rfl ?_))
  refine lnS_rd h1 1 rfl (fun g hg => own_rd hg) ?_
  rw [zero_113]
  refine lpi2 (fun q t3 t11 w => ∃ j : Nat, j ≤ xs.length ∧ t11 = .int .i64 j ∧ q = xs.length - j ∧ Sat e w (ownS 35 3 Key.cs t3 ((xs.take j).map fun x => x.m.key) :: blk p 157 [.int .i64 fl, lv] :: ownS 113 10 EnX.cs lv xs :: sepL (xs.map eOwn) :: R)) xs.length
    ⟨0, Nat.zero_le _, rfl, rfl, h1.own_nil 35 3 Key.cs⟩ ?_
  rintro q t3 _ w g ⟨j, hj, rfl, rfl, h2⟩ hg
  refine lt_c (fun c => iff_t ?_) (fun c => iff_f ?_)
  · obtain ⟨x, hx⟩ := get_of_lt (l := xs) (j := j) (by omega)
    refine ixS_rd h2 2 rfl (fun g hg => own_rd hg) (fun _ => rfl) hx fun a ha => ldN_of h2 2 rfl ha rfl ?_
    refine al_s (cs := EnX.zero.cs) h2 rfl fun b w3 h3 => ?_
    refine stN_at h3 0 rfl (vs := x.cs) rfl rfl (by simp [EnX.zero, EnX.cs]) (EnX.flat (en_flat 4 h3 rfl (List.mem_of_getElem? hx))) (cs' := x.cs) (by rfl) fun w4 h4 => ?_
    refine fld_at (fld_at (ldN_at h4 0 (vs := x.m.key.cs) rfl (by rfl) rfl ?_))
    refine push1 te_202 (f := Key.cs) (fun _ => rfl) (fun _ => ints_flat _) h4.swap (x := x.m.key) rfl (by rw [List.length_map, List.length_take]; omega) fun v' w5 h5 => ?_
    refine inc_s (by omega) ?_
    refine hg _ _ _ _ (by omega) ⟨j + 1, by omega, rfl, rfl, ?_⟩
    rw [take_snoc hx, List.map_append]
    exact h5.selR [_, _] [_] [0] (by decide) rfl
  · have ej : j = xs.length := by omega
    rw [ej, List.take_length] at h2
    have hke : xs.map (fun x => x.m.key) = l.map fun x => x.m.key := by rw [← hp.1, List.map_map]; rfl
    rw [hke] at h2
    refine hk _ _ (Sat.swap (past_mk (lv := lv) hp ?_))
    exact h2.selR [_, _, _, _] [_, _, _, _] [1, 2, 3, 0] (by decide) rfl
theorem cloneM_s {v : Value} {l : List Msg} (i : Nat) (hi : L[i]? = some S) (hl : l.length ≤ 1000000) (hS : Sat e w L) (hr : ∀ g, S g → rdS 6 Msg.cs v l g)
    (hk : ∀ v' w', Sat e w' (ownS 37 6 Msg.cs v' l :: L) → K v' w') : Cl prog 114 #[v] w K := by
  have hback : ∀ {X : HP} {w'}, Sat e w' (X :: S :: L.eraseIdx i) → Sat e w' (X :: L) := fun h => h.perm (List.Perm.cons _ (pick_perm L i S hi).symm)
  have h0 := hS.pick i hi
  refine slices_Clone_api_Msg_api_Msg_calls ?_
  unfold slices_Clone_api_Msg_api_Msg
  obtain ⟨A, c, rfl, _⟩ := h0.shape 0 rfl hr
  cases A with
  | none =>
    refine ex_oV (w' := w) (v := .bool true) (by kernel_rfl) ?_
    have hnil : l = [] := by
      obtain ⟨g, hg, _⟩ := h0.get 0 rfl
      obtain ⟨A', c', h1, h2, h3⟩ := hr g hg
      injection h1 with e1 e2 e3
      by_cases h0 : 0 < l.length
      · obtain ⟨a, ha, _⟩ := h3 h0
        rw [← e1] at ha
        cases ha
      · exact List.length_eq_zero_iff.1 (by omega)
    subst hnil
    exact iff_t (hk _ _ (hback (h0.own_nil 37 6 Msg.cs)))
  | some a =>
    refine ex_oV (w' := w) (v := .bool false) (by kernel_rfl) ?_
    refine iff_f ?_
    refine bsl0 h0 Msg.cs fun v1 w2 h2 => ?_
    refine apS_own te_33 und_33 (f := Msg.cs) (fun _ => rfl) (fun _ => ints_flat _) h2 hr (by simp; omega) fun v2 w3 h3 => ?_
    rw [List.nil_append] at h3
    exact hk _ _ (hback h3)
theorem past_own_s {x : EnX} (i : Nat) (hi : L[i]? = some S) (hl : x.outs.length ≤ 1000000) (hS : Sat e w L) (hr : ∀ g, S g → rdS 6 Msg.cs x.ov x.outs g)
    (hk : ∀ v' w', Sat e w' (eOwn ⟨x.m, x.ahead, x.sent, x.st, v', x.outs⟩ :: L) → K (.agg (EnX.cs ⟨x.m, x.ahead, x.sent, x.st, v', x.outs⟩).toArray) w') : Cl prog 113 #[.agg x.cs.toArray] w K := by
  refine past_own_calls ?_
  unfold past_own
  refine al_s (cs := x.cs) hS rfl fun b w1 h1 => ?_
  rw [zero_113]
  refine al_s (cs := EnX.zero.cs) h1 rfl fun b2 w2 h2 => ?_
  refine fld_at (ld1_at h2 1 rfl (v := x.ov) rfl ?_)
  refine cloneM_s (i + 2) (by simpa using hi) hl h2 hr fun v' w3 h3 => ?_
  have q1 := h3.own_cells 0 rfl
  refine fld_at (stN_at h3 2 rfl (vs := [v']) q1.1 rfl (Nat.le_of_ble_eq_true rfl) (fun c hc => by rw [List.mem_singleton.1 hc]; exact q1.2) (cs' := (EnX.cs ⟨x.m, x.ahead, x.sent, x.st, v', x.outs⟩)) (by rfl) fun w4 h4 => ?_)
  refine ldN_at h4 2 (vs := (EnX.cs ⟨x.m, x.ahead, x.sent, x.st, v', x.outs⟩)) rfl (by rfl) rfl ?_
  refine stN_at h4 1 rfl (vs := (EnX.cs ⟨x.m, x.ahead, x.sent, x.st, v', x.outs⟩)) rfl rfl (by simp [EnX.zero, EnX.cs]) (EnX.flat q1.2) (cs' := (EnX.cs ⟨x.m, x.ahead, x.sent, x.st, v', x.outs⟩)) (by rfl) fun w5 h5 => ?_
  refine ldN_at h5 1 (vs := (EnX.cs ⟨x.m, x.ahead, x.sent, x.st, v', x.outs⟩)) rfl (by rfl) rfl ?_
  exact hk _ _ (h5.selR [_, _, _] [_] [0] (by decide) rfl)
theorem past_Last_s {p : Nat} {fl : Int} {l : List En} (hS : Sat e w (IsPast p fl l :: R))
    (h0 : l = [] → ∀ w', Sat e w' (IsPast p fl l :: R) → K (.tuple #[.agg EnX.zero.cs.toArray, .bool false]) w')
    (h1 : ∀ (x : EnX) (l' : List En), l = l' ++ [x.e] → ∀ w', Sat e w' (eOwn x :: IsPast p fl l :: R) → K (.tuple #[.agg x.cs.toArray, .bool true]) w') : Cl prog 111 #[.pointer (some ⟨p, 0, none⟩)] w K := by
  refine past_Past_Last_calls ?_
  unfold past_Past_Last
  obtain ⟨lv, xs, hp, h2⟩ := past_of hS
  have hxl : xs.length ≤ 64 := by have := hp.2.len; rw [← hp.1, List.length_map] at this; exact this
  rw [zero_113]
  refine al_s (cs := EnX.zero.cs) h2 rfl fun t2 w3 h3 => ?_
  refine ncP_p (fld_at (ld1_at h3 1 rfl (v := lv) rfl ?_))
  refine lnS_rd h3 2 rfl (fun g hg => own_rd hg) ?_
  refine eq_c (fun c => iff_t ?_) (fun c => iff_f ?_)
  · have hx0 : xs = [] := List.length_eq_zero_iff.1 (by omega)
    refine bld_s EnX.zero.cs (by kernel_rfl) ?_
    refine stN_at h3 0 rfl (vs := EnX.zero.cs) rfl rfl (by simp [EnX.zero, EnX.cs]) (EnX.flat rfl) (cs' := EnX.zero.cs) (by kernel_rfl) fun w4 h4 => ?_
    refine ldN_at h4 0 (vs := EnX.zero.cs) rfl (by rfl) rfl ?_
    exact h0 (by rw [← hp.1, hx0]; rfl) _ (past_mk hp h4.drop)
  · refine dr_s h3 fun w4 h4 => ?_
    refine ncP_p (fld_at (ld1_at h4 1 rfl (v := lv) rfl ?_))
    refine ncP_p (fld_at (ld1_at h4 1 rfl (v := lv) rfl ?_))
    refine lnS_rd h4 2 rfl (fun g hg => own_rd hg) ?_
    refine sub_s (by omega) (by omega) ?_
    rw [show (xs.length : Int) - 1 = ((xs.length - 1 : Nat) : Int) from by omega]
    obtain ⟨x, hx⟩ := get_of_lt (l := xs) (j := xs.length - 1) (by omega)
    have hxm := List.mem_of_getElem? hx
    have hout : x.outs.length ≤ 1000 := hp.2.outs x.e (by rw [← hp.1]; exact List.mem_map_of_mem hxm)
    refine ixS_rd h4 2 rfl (fun g hg => own_rd hg) (fun _ => rfl) hx fun a ha => ldN_of h4 2 rfl ha rfl ?_
    refine past_own_s (x := x) 3 rfl (by omega) h4 (fun g hg => ?_) fun v' w5 h5 => ?_
    · obtain ⟨j, hj⟩ := List.getElem?_of_mem hxm
      obtain ⟨hs, k1, k2⟩ := SatH.get (S := eOwn x) (l := xs.map eOwn) hg (i := j) (by rw [List.getElem?_map, hj]; rfl)
      obtain ⟨A, c, q1, q2, q3⟩ := own_rd k1
      exact ⟨A, c, q1, q2, fun h0 => by obtain ⟨a, h4, h5⟩ := q3 h0; exact ⟨a, h4, h5.up k2⟩⟩
    have q1 := h5.own_cells 0 rfl
    refine stN_at h5 1 rfl (vs := (EnX.cs ⟨x.m, x.ahead, x.sent, x.st, v', x.outs⟩)) rfl rfl (by simp [EnX.zero, EnX.cs]) (EnX.flat q1.2) (cs' := (EnX.cs ⟨x.m, x.ahead, x.sent, x.st, v', x.outs⟩)) (by rfl) fun w6 h6 => ?_
    refine ldN_at h6 1 (vs := (EnX.cs ⟨x.m, x.ahead, x.sent, x.st, v', x.outs⟩)) rfl (by rfl) rfl ?_
    have hsp : xs = xs.take (xs.length - 1) ++ [x] := by
      conv => lhs; rw [← List.take_append_drop (xs.length - 1) xs, drop_cons hx, List.drop_of_length_le (by omega)]
    refine h1 ⟨x.m, x.ahead, x.sent, x.st, v', x.outs⟩ ((xs.take (xs.length - 1)).map EnX.e) ?_ _ ?_
    · rw [← hp.1]
      conv => lhs; rw [hsp, List.map_append]
      rfl
    · have h7 := past_mk hp (h6.selR [_, _, _, _, _] [_, _, _, _] [2, 3, 4, 0] (by decide) rfl)
      exact h7.swap
end Go.Proofs.YtbopajpmadlmhaaGreat
end
section
namespace Go.Proofs.YtbopajpmadlmhaaGreat
open Go Go.E
set_option maxRecDepth 100000
variable {e w : World} {L Q R : List HP} {K : KV} {S S2 : HP}

theorem search_s {n : Nat} {fv : Value} {f : Nat → Bool} (hn : n ≤ 1000000) (hmono : ∀ i j, i ≤ j → j < n → f i = true → f j = true) (hS : Sat e w L)
    (hp : ∀ j, j < n → ∀ (w : World) (K : KV), Sat e w L → (∀ w', Sat e w' L → K (.bool (f j)) w') → clV prog fv #[.int .i64 (j : Int)] w K)
    (hk : ∀ (m : Nat) w', m ≤ n → (∀ j, j < m → f j = false) → (∀ j, m ≤ j → j < n → f j = true) → Sat e w' L → K (.int .i64 (m : Int)) w') : Cl prog 163 #[.int .i64 (n : Int), fv] w K := by
  refine sort_Search_calls ?_
  unfold sort_Search
  refine lpi2 (fun q t5 t6 w => ∃ lo hi : Nat, t5 = .int .i64 lo ∧ t6 = .int .i64 hi ∧ q = hi - lo ∧ lo ≤ hi ∧ hi ≤ n ∧ (∀ j, j < lo → f j = false) ∧ (∀ j, hi ≤ j → j < n → f j = true) ∧ Sat e w L) n
    ⟨0, n, rfl, rfl, by omega, Nat.zero_le _, Nat.le_refl _, fun _ h => absurd h (by omega), fun _ h1 h2 => absurd h2 (by omega), hS⟩ ?_
  rintro q _ _ w g ⟨lo, hi, rfl, rfl, rfl, h1, h2, h3, h4, h5⟩ hg
  refine lt_c (fun c => iff_t ?_) (fun c => iff_f ?_)
  · refine addn_s (by omega) ?_
    refine half_s (xo := fun _ => _) (yo := fun _ => _) (n := lo + hi) (by omega) ?_
    have hm1 : lo ≤ (lo + hi) / 2 := by omega
    have hm2 : (lo + hi) / 2 < hi := by omega
    generalize (lo + hi) / 2 = m at hm1 hm2
    refine hp m (by omega) _ _ h5 fun w6 h6 => ?_
    cases hf : f m with
    | false =>
      refine not_f (iff_t (inc_s (by omega) ?_))
      refine hg _ _ _ _ (by omega) ⟨m + 1, hi, rfl, rfl, rfl, by omega, h2, fun j hj => ?_, h4, h6⟩
      cases hfj : f j with
      | false => rfl
      | true =>
        have := hmono j m (by omega) (by omega) hfj
        rw [hf] at this
        cases this
    | true =>
      refine not_t (iff_f ?_)
      exact hg _ _ _ _ (by omega) ⟨lo, m, rfl, rfl, rfl, by omega, by omega, h3, fun j hj1 hj2 => hmono m j hj1 hj2 hf, h6⟩
  · have e1 : lo = hi := by omega
    subst e1
    exact hk lo _ h2 h3 h4 h5
theorem many_s {p : Nat} {fl : Int} {lv : Value} {xs : List EnX} {k : Key} {by' : Value} {P : EnX → Bool} (hx : xs.length ≤ 64) (hby : flat by' = true ∧ by'.cells.toList = [by'])
    (hmono : ∀ (i j : Nat) x y, i ≤ j → xs[i]? = some x → xs[j]? = some y → P y = true → P x = true)
    (hP : ∀ (x : EnX) (w : World) (L : List HP) (K : KV), Sat e w L → (∀ w', Sat e w' L → K (.bool (P x)) w') → clV prog by' #[.agg x.cs.toArray, .agg k.cs.toArray] w K)
    (hS : Sat e w (blk p 157 [.int .i64 fl, lv] :: ownS 113 10 EnX.cs lv xs :: Q))
    (hk : ∀ (m : Nat) w', m ≤ xs.length → (∀ x ∈ xs.take m, P x = true) → (∀ x ∈ xs.drop m, P x = false) → Sat e w' (blk p 157 [.int .i64 fl, lv] :: ownS 113 10 EnX.cs lv xs :: Q) → K (.int .i64 (m : Int)) w') :
    Cl prog 118 #[.pointer (some ⟨p, 0, none⟩), by', .agg k.cs.toArray] w K := by
  refine past_Past_many_calls ?_
  unfold past_Past_many
  refine al_s (cs := [.pointer (some ⟨p, 0, none⟩)]) hS rfl fun b3 w1 h1 => ?_
  refine al_s (cs := [by']) h1 hby.2 fun b4 w2 h2 => ?_
  refine al_s (cs := k.cs) h2 rfl fun b5 w3 h3 => ?_
  refine ld1_at h3 2 rfl rfl ?_
  refine ncP_p (fld_at (ld1_at h3 3 rfl (v := lv) rfl ?_))
  refine lnS_rd h3 4 rfl (fun g hg => own_rd hg) ?_
  refine search_s (n := xs.length) (f := fun j => !(xs[j]?.map P).getD false) (by omega) (fun i j hij hj hi => ?_) h3 (fun j hj w K h4 hK => ?_) (fun m w4 hm hlo hhi h4 => ?_)
  · obtain ⟨y, hy⟩ := get_of_lt (l := xs) (j := j) hj
    obtain ⟨x, hx⟩ := get_of_lt (l := xs) (j := i) (by omega)
    simp only [hy, hx, Option.map_some, Option.getD_some, Bool.not_eq_true'] at hi ⊢
    cases hpy : P y with
    | false => rfl
    | true => rw [hmono i j x y hij hx hy hpy] at hi; cases hi
  · obtain ⟨y, hy⟩ := get_of_lt (l := xs) (j := j) hj
    refine ⟨_, _, _, rfl, ?_⟩
    refine past_Past_many_1_calls (t0 := .int .i64 (j : Int)) (t1 := .pointer (some ⟨b4, 0, none⟩)) (t2 := .pointer (some ⟨b3, 0, none⟩)) (t3 := .pointer (some ⟨b5, 0, none⟩)) ?_
    unfold past_Past_many_1
    refine dr_s h4 fun w5 h5 => ?_
    refine ld1_at h5 1 rfl rfl (ld1_at h5 2 rfl rfl ?_)
    refine ncP_p (fld_at (ld1_at h5 3 rfl (v := lv) rfl ?_))
    refine ixS_rd h5 4 rfl (fun g hg => own_rd hg) (fun _ => rfl) hy fun a ha => ldN_of h5 4 rfl ha rfl ?_
    refine ldN_at h5 0 (vs := k.cs) rfl (by rfl) rfl ?_
    refine hP y _ _ _ h5 fun w6 h6 => ?_
    have hK' := hK _ h6
    simp only [hy, Option.map_some, Option.getD_some] at hK'
    cases hpy : P y with
    | false => rw [hpy] at hK'; exact not_f hK'
    | true => rw [hpy] at hK'; exact not_t hK'
  · refine hk m _ hm (fun x hx => ?_) (fun x hx => ?_) (h4.selR [_, _, _, _, _] [_, _] [3, 4] (by decide) rfl)
    · obtain ⟨j, hj⟩ := List.getElem?_of_mem hx
      have hjl := (List.getElem?_eq_some_iff.1 hj).1
      rw [List.length_take] at hjl
      rw [List.getElem?_take, if_pos (by omega)] at hj
      have := hlo j (by omega)
      simp only [hj, Option.map_some, Option.getD_some, Bool.not_eq_false'] at this
      exact this
    · obtain ⟨j, hj⟩ := List.getElem?_of_mem hx
      have hjl := (List.getElem?_eq_some_iff.1 hj).1
      rw [List.length_drop] at hjl
      rw [List.getElem?_drop] at hj
      have := hhi (m + j) (by omega) (by omega)
      simp only [hj, Option.map_some, Option.getD_some, Bool.not_eq_true'] at this
      exact this
theorem aheadF_s (x : EnX) (k : Key) (hS : Sat e w L) (hk : ∀ w', Sat e w' L → K (.bool (decide (KeyLt x.m.key k))) w') : clV prog (.func (.func 112) #[] #[]) #[.agg x.cs.toArray, .agg k.cs.toArray] w K := by
  refine ⟨_, _, _, rfl, ?_⟩
  refine past_Entry_ahead_calls (t0 := .agg x.cs.toArray) (t1 := .agg k.cs.toArray) ?_
  unfold past_Entry_ahead
  refine al_s (cs := x.cs) hS rfl fun b w1 h1 => ?_
  refine al_s (cs := k.cs) h1 rfl fun b2 w2 h2 => ?_
  refine fld_at (fld_at (ldN_at h2 1 (vs := x.m.key.cs) rfl (by rfl) rfl ?_))
  refine ldN_at h2 0 (vs := k.cs) rfl (by rfl) rfl ?_
  refine vtime_Cmp_s h2 fun w3 h3 => ?_
  refine lt_d ?_
  have := hk _ h3.drop.drop
  rwa [show decide (KeyLt x.m.key k) = decide (cmpK x.m.key k < 0) from by rw [Bool.eq_iff_iff, decide_eq_true_iff, decide_eq_true_iff, cmpK_lt]] at this
theorem ahead_s' (x : EnX) (k : Key) (hS : Sat e w L) (hk : ∀ w', Sat e w' L → K (.bool (decide (KeyLt x.m.key k))) w') : Cl prog 112 #[.agg x.cs.toArray, .agg k.cs.toArray] w K := by
  obtain ⟨_, _, _, h1, h2⟩ := aheadF_s x k hS hk
  cases h1
  exact h2
theorem earlyF_s (x : EnX) (k : Key) (hS : Sat e w L) (hk : ∀ w', Sat e w' L → K (.bool (decide (x.m.key.T < k.T))) w') : clV prog (.func (.func 119) #[] #[]) #[.agg x.cs.toArray, .agg k.cs.toArray] w K := by
  refine ⟨_, _, _, rfl, ?_⟩
  refine past_Entry_early_calls (t0 := .agg x.cs.toArray) (t1 := .agg k.cs.toArray) ?_
  unfold past_Entry_early
  refine al_s (cs := x.cs) hS rfl fun b w1 h1 => ?_
  refine al_s (cs := k.cs) h1 rfl fun b2 w2 h2 => ?_
  refine fld_at (fld_at (fld_at (ld1_at h2 1 rfl (v := .int .i64 x.m.key.T) rfl ?_)))
  refine fld_at (ld1_at h2 0 rfl (v := .int .i64 k.T) rfl ?_)
  exact lt_d (hk _ h2.drop.drop)

def lastLt (l : List En) (k : Key) : Prop := ∀ x, l.getLast? = some x → KeyLt x.m.key k
theorem past_Push_s {p : Nat} {fl : Int} {l : List En} {x : EnX} (i : Nat) (hi : Q[i]? = some S) (hl : x.outs.length ≤ 1000) (hr : ∀ g, S g → rdS 6 Msg.cs x.ov x.outs g) (h1 : ¬ x.m.key.T < fl) (h2 : lastLt l x.m.key) (h3 : l.length < 64)
    (hS : Sat e w (IsPast p fl l :: Q)) (hk : ∀ w', Sat e w' (IsPast p fl (l ++ [x.e]) :: Q) → K (.int .i64 0) w') : Cl prog 57 #[.pointer (some ⟨p, 0, none⟩), .agg x.cs.toArray] w K := by
  refine past_Past_Push_calls ?_
  unfold past_Past_Push
  rw [zero_113]
  refine al_s (cs := x.cs) hS rfl fun b w1 h4 => ?_
  have key : ∀ (q : Bool) (y : EnX) (w' : World), flat y.ov = true → (q = true → KeyLt y.m.key x.m.key) → Sat e w' (IsPast p fl l :: blk b 113 x.cs :: Q) →
      al EnX.zero.cs.toArray 113 w' fun t5 w => stN 10 t5 (.agg y.cs.toArray) w fun _ w => dr w fun w => fld 0 (.pointer (some ⟨b, 0, none⟩)) w fun t13 _ => fld 0 t13 w fun t14 _ => fld 0 t14 w fun t15 _ => ld1 t15 w fun t16 _ =>
        ncP (.pointer (some ⟨p, 0, none⟩)) <| fld 0 (.pointer (some ⟨p, 0, none⟩)) w fun t19 _ => ld1 t19 w fun t20 _ => bi .lss .i64 t16 t20 w fun t21 _ => iff' t21 (K (.int .i64 110) w)
          (gd (.bool q) true (fun k => ldN 10 t5 w k) w fun t25 w => gd (.bool q) true (fun k => fld 0 (.pointer (some ⟨b, 0, none⟩)) w k) w fun t26 w => gd (.bool q) true (fun k => fld 0 t26 w k) w fun t27 w => gd (.bool q) true (fun k => ldN 3 t27 w k) w fun t28 w =>
          gd (.bool q) true (fun k => Cl prog 112 #[t25, t28] w k) w fun t29 w => gd (.bool q) true (fun k => bnot t29 w k) w fun t30 w => pk (.bool q) t30 (.bool false) w fun t31 w => iff' t31 (K (.int .i64 130) w)
          (ncP (.pointer (some ⟨p, 0, none⟩)) <| fld 1 (.pointer (some ⟨p, 0, none⟩)) w fun t35 w => ld1 t35 w fun t36 w => lnS t36 w fun t37 w => bi .geq .i64 t37 (.int .i64 64) w fun t38 w => iff' t38 (K (.int .i64 2) w)
          (dr w fun w => ncP (.pointer (some ⟨p, 0, none⟩)) <| fld 1 (.pointer (some ⟨p, 0, none⟩)) w fun t42 _ => ld1 t42 w fun t43 _ => ldN 10 (.pointer (some ⟨b, 0, none⟩)) w fun t44 _ => Cl prog 113 #[t44] w fun t45 w =>
          (ld1 t42 w (fun v' w'' => v' = t43 ∧ w'' = w)) ∧ (bsl 113 10 1 (zeroD prog 113) [(0, t45)] w fun t46 w => (ld1 t42 w (fun v' w'' => v' = t43 ∧ w'' = w)) ∧ (apS prog #[115, 115] 115 t43 t46 w fun t47 w =>
          ncP (.pointer (some ⟨p, 0, none⟩)) <| fld 1 (.pointer (some ⟨p, 0, none⟩)) w fun t49 _ => stN 1 t49 t47 w fun _ w => K (.int .i64 0) w))))) := by
    intro q y w' hyf hq h5
    refine al_s (cs := EnX.zero.cs) h5 rfl fun t5 w2 h6 => ?_
    refine stN_at h6 0 rfl (vs := y.cs) rfl rfl (by simp [EnX.zero, EnX.cs]) (EnX.flat hyf) (cs' := y.cs) (by rfl) fun w3 h7 => ?_
    obtain ⟨lv, xs, hp, h8⟩ := past_of (h7.pick 1 rfl)
    replace h8 : Sat e w3 (blk p 157 [.int .i64 fl, lv] :: ownS 113 10 EnX.cs lv xs :: sepL (xs.map eOwn) :: blk t5 113 y.cs :: blk b 113 x.cs :: Q) := h8
    have hxl : xs.length = l.length := by rw [← hp.1, List.length_map]
    refine dr_s h8 fun w4 h9 => ?_
    refine fld_at (fld_at (fld_at (ld1_at h9 4 rfl (v := .int .i64 x.m.key.T) rfl ?_)))
    refine ncP_p (fld_at (ld1_at h9 0 rfl (v := .int .i64 fl) rfl (lt_f h1 (iff_f ?_))))
    have hrest : ∀ w', Sat e w' (blk p 157 [.int .i64 fl, lv] :: ownS 113 10 EnX.cs lv xs :: sepL (xs.map eOwn) :: blk t5 113 y.cs :: blk b 113 x.cs :: Q) →
        (ncP (.pointer (some ⟨p, 0, none⟩)) <| fld 1 (.pointer (some ⟨p, 0, none⟩)) w' fun t35 w => ld1 t35 w fun t36 w => lnS t36 w fun t37 w => bi .geq .i64 t37 (.int .i64 64) w fun t38 w => iff' t38 (K (.int .i64 2) w)
          (dr w fun w => ncP (.pointer (some ⟨p, 0, none⟩)) <| fld 1 (.pointer (some ⟨p, 0, none⟩)) w fun t42 _ => ld1 t42 w fun t43 _ => ldN 10 (.pointer (some ⟨b, 0, none⟩)) w fun t44 _ => Cl prog 113 #[t44] w fun t45 w =>
          (ld1 t42 w (fun v' w'' => v' = t43 ∧ w'' = w)) ∧ (bsl 113 10 1 (zeroD prog 113) [(0, t45)] w fun t46 w => (ld1 t42 w (fun v' w'' => v' = t43 ∧ w'' = w)) ∧ (apS prog #[115, 115] 115 t43 t46 w fun t47 w =>
          ncP (.pointer (some ⟨p, 0, none⟩)) <| fld 1 (.pointer (some ⟨p, 0, none⟩)) w fun t49 _ => stN 1 t49 t47 w fun _ w => K (.int .i64 0) w)))) := by
      intro w' ha
      refine ncP_p (fld_at (ld1_at ha 0 rfl (v := lv) rfl ?_))
      refine lnS_rd ha 1 rfl (fun g hg => own_rd hg) (ge_f (by omega) (iff_f ?_))
      refine dr_s ha fun w5 hb => ?_
      refine ncP_p (fld_at (ld1_at hb 0 rfl (v := lv) rfl ?_))
      refine ldN_at hb 4 (vs := x.cs) rfl (by rfl) rfl ?_
      refine past_own_s (x := x) (i + 5) (by simpa using hi) (by omega) hb hr fun v' w6 hc => ?_
      refine ⟨ld1_at hc 1 rfl (v := lv) rfl ⟨rfl, rfl⟩, ?_⟩
      have q0 := hc.own_cells 0 rfl
      obtain ⟨x2, hx2⟩ : ∃ x2 : EnX, x2 = ⟨x.m, x.ahead, x.sent, x.st, v', x.outs⟩ := ⟨_, rfl⟩
      rw [← hx2] at hc ⊢
      have hx2f : flat x2.ov = true := by rw [hx2]; exact q0.2
      refine bsl1 (vs := x2.cs) rfl rfl hc fun bb w7 hd => ?_
      refine ⟨ld1_at hd 2 rfl (v := lv) rfl ⟨rfl, rfl⟩, ?_⟩
      refine apS_ownM te_115 te_115.und (f := EnX.cs) (m := [x2]) (fun _ => rfl) (fun y hy c hc => by rw [List.mem_singleton.1 hy] at hc; exact EnX.flat hx2f c hc) (hd.selR [_, _, _, _] [_, _, _, _] [3, 0, 1, 2] (by decide) rfl) (blk_rd1 (f := EnX.cs) (x := x2) (Nat.le_refl _)) (by simp; omega) fun lv' w8 he => ?_
      have q1 := he.own_cells 0 rfl
      refine ncP_p (fld_at (stN_at he 3 rfl (vs := [lv']) q1.1 rfl (Nat.le_of_ble_eq_true rfl) (fun c hc => by rw [List.mem_singleton.1 hc]; exact q1.2) (cs' := [.int .i64 fl, lv']) (by rfl) fun w9 hf' => ?_))
      replace hf' : Sat e w9 (ownS 113 10 EnX.cs lv' (xs ++ [x2]) :: blk bb 113 x2.cs :: eOwn x2 :: blk p 157 [.int .i64 fl, lv'] :: sepL (xs.map eOwn) :: blk t5 113 y.cs :: blk b 113 x.cs :: Q) := hf'
      have hg2 : Sat e w9 (sepL (xs.map eOwn) :: sepL [eOwn x2] :: ownS 113 10 EnX.cs lv' (xs ++ [x2]) :: blk p 157 [.int .i64 fl, lv'] :: Q) := by
        have h1 := hf'.selR [_, _, _, _, _, _, _] [_, _, _, _] [2, 4, 0, 3] (by decide) rfl
        exact (Sat.join (l' := [_]) h1).swap
      have hh := sepL_both hg2
      rw [show xs.map eOwn ++ [eOwn x2] = (xs ++ [x2]).map eOwn from by rw [List.map_append]; rfl] at hh
      refine hk _ (past_mk (lv := lv') (xs := xs ++ [x2]) ⟨?_, ?_⟩ (hh.selR [_, _, _] [_, _, _] [2, 1, 0] (by decide) rfl))
      · rw [List.map_append, hp.1, hx2]
        rfl
      · refine ⟨?_, by rw [List.length_append, List.length_singleton]; omega, fun z hz => ?_⟩
        · rw [List.pairwise_append]
          refine ⟨hp.2.up, List.pairwise_singleton _ _, fun a ha b hb => ?_⟩
          rw [List.mem_singleton.1 hb]
          cases hla : l.getLast? with
          | none => rw [List.getLast?_eq_none_iff] at hla; subst hla; cases ha
          | some z =>
            have hz := h2 z hla
            obtain ⟨l0, rfl⟩ := List.getLast?_eq_some_iff.1 hla
            rcases List.mem_append.1 ha with ha | ha
            · exact ((List.pairwise_append.1 hp.2.up).2.2 a ha z (by simp)).trans hz
            · rw [List.mem_singleton.1 ha]; exact hz
        · rcases List.mem_append.1 hz with hz | hz
          · exact hp.2.outs z hz
          · rw [List.mem_singleton.1 hz]; exact hl
    cases q with
    | false =>
      refine gd_ft (gd_ft (gd_ft (gd_ft (gd_ft (gd_ft (pk_f (iff_f ?_)))))))
      exact hrest _ h9
    | true =>
      refine gd_tt (ldN_at h9 3 (vs := y.cs) rfl (by rfl) rfl (gd_tt (fld_at (gd_tt (fld_at (gd_tt (ldN_at h9 4 (vs := x.m.key.cs) rfl (by rfl) rfl (gd_tt ?_))))))))
      refine ahead_s' y x.m.key h9 fun w5 h10 => ?_
      rw [decide_eq_true (hq rfl)]
      refine gd_tt (not_t (pk_t (iff_f ?_)))
      exact hrest _ h10
  refine past_Last_s h4.swap (fun h0 w2 h5 => ?_) (fun y l' hl' w2 h5 => ?_)
  · refine xt_02 (xt_12 ?_)
    exact key false EnX.zero w2 rfl (fun h => by cases h) h5
  · refine xt_02 (xt_12 ?_)
    have q1 := h5.own_cells 0 rfl
    refine key true y w2 q1.2 (fun _ => ?_) h5.drop
    exact h2 y.e (by rw [hl']; simp)
end Go.Proofs.YtbopajpmadlmhaaGreat
end
section
namespace Go.Proofs.YtbopajpmadlmhaaGreat
open Go Go.E
set_option maxRecDepth 100000

def IsGate (g : Nat) (fl : Int) (l : List Kept) : HP := hex fun v : Value => sepL [blk g 160 [.int .i64 fl, v], ownS 177 9 Kept.cs v l]

variable {e w : World} {R : List HP} {K : KV}
theorem gate_New_s (hS : Sat e w R) (hk : ∀ g w', Sat e w' (IsGate g 0 [] :: R) → K (.pointer (some ⟨g, 0, none⟩)) w') : Cl prog 46 #[] w K := by
  refine gate_New_calls ?_
  unfold gate_New
  rw [zero_160]
  refine ⟨_, rfl, ?_⟩
  refine al_s (cs := [.int .i64 0, .slice none 0 0]) hS rfl fun b w1 h1 => ?_
  exact hk _ _ (.mk_ex (.slice none 0 0) (.join (l' := [_, _]) (h1.own_nil 177 9 Kept.cs).swap))

def holdE (fl : Int) (l : List Kept) (c : Key) : Int := if c.T < fl then 110 else if 256 ≤ l.length then 2 else 0
def holdL (fl : Int) (l : List Kept) (c : Key) (m : Msg) : List Kept := if c.T < fl then l else if 256 ≤ l.length then l else l ++ [⟨c, m⟩]


theorem gate_Hold_s {g : Nat} {fl : Int} {l : List Kept} (c : Key) (m : Msg) (hS : Sat e w (IsGate g fl l :: R)) (hl : l.length ≤ 256)
    (hk : ∀ w', Sat e w' (IsGate g fl (holdL fl l c m) :: R) → K (.int .i64 (holdE fl l c)) w') : Cl prog 59 #[.pointer (some ⟨g, 0, none⟩), .agg c.cs.toArray, .agg m.cs.toArray] w K := by
  obtain ⟨v, h0⟩ := hS.ex
  have h1 := h0.split
  refine gate_Gate_Hold_calls ?_
  unfold gate_Gate_Hold
  refine al_s (cs := c.cs) h1 rfl fun b4 w1 h2 => ?_
  refine al_s (cs := m.cs) h2 rfl fun b5 w2 h3 => ?_
  refine dr_s h3 fun w3 h4 => ?_
  refine fld_at ?_
  refine ld1_at h4 1 rfl rfl ?_
  refine ncP_p ?_
  refine fld_at ?_
  refine ld1_at h4 2 rfl rfl ?_
  refine lt_c (fun c1 => ?_) (fun c1 => ?_)
  · refine iff_t ?_
    have := hk w3
    simp only [holdE, holdL, if_pos c1] at this
    exact this (.mk_ex v (.join (l' := [_, _]) h4.drop.drop))
  · refine iff_f ?_
    refine ncP_p ?_
    refine fld_at ?_
    refine ld1_at h4 2 rfl rfl ?_
    refine lnS_rd h4 3 rfl (fun g hg => own_rd hg) ?_
    refine ge_c (fun c2 => ?_) (fun c2 => ?_)
    · refine iff_t ?_
      have := hk w3
      have c3 : 256 ≤ l.length := by omega
      simp only [holdE, holdL, if_neg c1, if_pos c3] at this
      exact this (.mk_ex v (.join (l' := [_, _]) h4.drop.drop))
    · refine iff_f ?_
      refine dr_s h4 fun w4 h5 => ?_
      refine ncP_p ?_
      refine fld_at ?_
      refine ld1_at h5 2 rfl rfl ?_
      refine ldN_at h5 1 (vs := c.cs) rfl (by rfl) rfl ?_
      refine ldN_at h5 0 (vs := m.cs) rfl (by rfl) rfl ?_
      rw [zero_177]
      refine bld_s (Kept.cs ⟨c, m⟩) (by kernel_rfl) ?_
      refine ⟨ld1_at h5 2 rfl rfl ⟨rfl, rfl⟩, ?_⟩
      refine bsl1 (vs := Kept.cs ⟨c, m⟩) rfl rfl h5 fun b30 w5 h6 => ?_
      refine ⟨ld1_at h6 3 rfl rfl ⟨rfl, rfl⟩, ?_⟩
      have hb : (l.length + [(⟨c, m⟩ : Kept)].length) * 72 ≤ 140737488355328 := by
        simp only [List.length_cons, List.length_nil]
        omega
      have h6' := h6.pick 4 rfl
      refine apS_own te_158 und_158 (f := Kept.cs) (fun _ => rfl) (fun _ => ints_flat _) h6' (m := [⟨c, m⟩]) (blk_rd1 (f := Kept.cs) (x := ⟨c, m⟩) (Nat.le_refl _)) hb fun v' w6 h7 => ?_
      refine ncP_p ?_
      refine fld_at ?_
      refine st1_at h7 4 rfl (h7.own_cells 0 rfl) (by simp) rfl fun w7 h8 => ?_
      have := hk w7
      have c3 : ¬ 256 ≤ l.length := by omega
      simp only [holdE, holdL, if_neg c1, if_neg c3] at this
      exact this (.mk_ex v' (.join (l' := [_, _]) (h8.selR [_, _, _, _, _] [_, _] [4, 0] (by decide) rfl)))

theorem messages_s {v : Value} {l : List Kept} {S : HP} (hS : Sat e w (S :: R)) (hr : ∀ g, S g → rdS 9 Kept.cs v l g) (hl : l.length ≤ 1000000)
    (hk : ∀ v' w', Sat e w' (ownS 37 6 Msg.cs v' (l.map Kept.m) :: S :: R) → K v' w') : Cl prog 106 #[v] w K := by
  refine gate_messages_calls ?_
  unfold gate_messages
  rw [zero_177]
  refine lnS_rd hS 0 rfl hr ?_
  refine lp2 (fun t3 t8 w => ∃ j : Nat, j ≤ l.length ∧ t8 = .int .i64 j ∧ Sat e w (ownS 37 6 Msg.cs t3 ((l.take j).map Kept.m) :: S :: R)) (fun _ t8 _ => l.length - nOf t8)
    ⟨0, Nat.zero_le _, rfl, by simpa using hS.own_nil 37 6 Msg.cs⟩ ?_
  rintro t3 _ w g ⟨j, hj, rfl, h1⟩ hg
  refine lt_c (fun c => ?_) (fun c => ?_)
  · refine iff_t ?_
    obtain ⟨x, hx⟩ := get_of_lt (l := l) (j := j) (by omega)
    refine ixS_rd h1 1 rfl hr (fun _ => rfl) hx fun a ha => ?_
    refine ldN_of h1 1 rfl ha rfl ?_
    refine al_s (cs := ints [0, 0, 0, 0, 0, 0, 0, 0, 0]) h1 rfl fun b5 w2 h2 => ?_
    refine stN_at h2 0 rfl (vs := x.cs) rfl rfl (by simp [ints]) (ints_flat _) (cs' := x.cs) (by kernel_rfl) fun w3 h3 => ?_
    refine fld_at ?_
    refine ldN_at h3 0 (vs := x.m.cs) rfl (by rfl) rfl ?_
    refine push1 te_33 (f := Msg.cs) (fun _ => rfl) (fun _ => ints_flat _) (h3.pick 1 rfl) (x := x.m) rfl (by simp; omega) fun v' w4 h4 => ?_
    refine inc_s (by omega) ?_
    refine hg _ _ _ ⟨j + 1, by omega, rfl, ?_⟩ (by simp [nOf]; omega)
    have h5 := h4.selR [_, _, _] [_, _] [0, 2] (by decide) rfl
    rw [take_snoc hx, List.map_append]
    exact h5
  · refine iff_f ?_
    obtain rfl : j = l.length := by omega
    refine hk _ _ ?_
    simpa using h1

theorem gate_Held_s {g : Nat} {fl : Int} {l : List Kept} (hS : Sat e w (IsGate g fl l :: R)) (hl : l.length ≤ 1000000)
    (hk : ∀ v' w', Sat e w' (ownS 37 6 Msg.cs v' (l.map Kept.m) :: IsGate g fl l :: R) → K v' w') : Cl prog 53 #[.pointer (some ⟨g, 0, none⟩)] w K := by
  obtain ⟨v, h0⟩ := hS.ex
  have h1 := h0.split
  refine gate_Gate_Held_calls ?_
  unfold gate_Gate_Held
  refine ncP_p ?_
  refine fld_at ?_
  refine ld1_at h1 0 rfl rfl ?_
  refine messages_s h1.swap (fun g hg => own_rd hg) hl fun v' w' h2 => ?_
  refine hk _ _ (Sat.swap (.mk_ex v (.join (l' := [_, _]) (h2.selR [_, _, _] [_, _, _] [2, 1, 0] (by decide) rfl))))

theorem gate_part_s {g : Nat} {fl : Int} {l : List Kept} {C : HP} {fv : Value} (p : Kept → Bool) (hS : Sat e w (IsGate g fl l :: C :: R)) (hl : l.length ≤ 1000000)
    (hp : ∀ (w : World) (R : List HP) (K : KV) (x : Kept), Sat e w (C :: R) → (∀ w', Sat e w' (C :: R) → K (.bool (p x)) w') → clV prog fv #[.agg x.cs.toArray] w K)
    (hk : ∀ v' w', Sat e w' (ownS 177 9 Kept.cs v' (l.filter p) :: IsGate g fl (l.filter (fun x => !p x)) :: C :: R) → K v' w') :
    Cl prog 121 #[.pointer (some ⟨g, 0, none⟩), fv] w K := by
  obtain ⟨v, h0⟩ := hS.ex
  have h1 := h0.split
  refine gate_Gate_part_calls ?_
  unfold gate_Gate_part
  rw [zero_177]
  refine ncP_p ?_
  refine fld_at ?_
  refine ld1_at h1 0 rfl rfl ?_
  refine lnS_rd h1 1 rfl (fun g hg => own_rd hg) ?_
  refine lp3 (fun t5 t6 t14 w => ∃ j : Nat, j ≤ l.length ∧ t14 = .int .i64 j ∧ Sat e w (ownS 177 9 Kept.cs t5 ((l.take j).filter p) :: ownS 177 9 Kept.cs t6 ((l.take j).filter fun x => !p x) ::
      blk g 160 [.int .i64 fl, v] :: ownS 177 9 Kept.cs v l :: C :: R)) (fun _ _ t14 _ => l.length - nOf t14)
    ⟨0, Nat.zero_le _, rfl, by simpa using (h1.own_nil 177 9 Kept.cs).own_nil 177 9 Kept.cs⟩ ?_
  rintro t5 t6 _ w gg ⟨j, hj, rfl, h1⟩ hg
  refine lt_c (fun c => ?_) (fun c => ?_)
  · refine iff_t ?_
    obtain ⟨x, hx⟩ := get_of_lt (l := l) (j := j) (by omega)
    have hf1 : ((l.take (j + 1)).filter p) = (l.take j).filter p ++ if p x then [x] else [] := by
      rw [take_snoc hx, List.filter_append]
      cases hpx : p x <;> simp [hpx]
    have hf2 : ((l.take (j + 1)).filter fun x => !p x) = (l.take j).filter (fun x => !p x) ++ if p x then [] else [x] := by
      rw [take_snoc hx, List.filter_append]
      cases hpx : p x <;> simp [hpx]
    have hn1 := List.length_filter_le p (l.take j)
    have hn2 := List.length_filter_le (fun x => !p x) (l.take j)
    have hn3 : (l.take j).length ≤ 1000000 := by simp; omega
    refine J2.cut (fun t5 t6 w => Sat e w (ownS 177 9 Kept.cs t5 ((l.take (j + 1)).filter p) :: ownS 177 9 Kept.cs t6 ((l.take (j + 1)).filter fun x => !p x) ::
      blk g 160 [.int .i64 fl, v] :: ownS 177 9 Kept.cs v l :: C :: R)) (fun k hkk => ?_) (fun t5 t6 w h2 => ?_)
    · refine ixS_rd h1 3 rfl (fun g hg => own_rd hg) (fun _ => rfl) hx fun a ha => ?_
      refine ldN_of h1 3 rfl ha rfl ?_
      refine al_s (cs := ints [0, 0, 0, 0, 0, 0, 0, 0, 0]) h1 rfl fun b8 w2 h2 => ?_
      refine stN_at h2 0 rfl (vs := x.cs) rfl rfl (by simp [ints]) (ints_flat _) (cs' := x.cs) (by kernel_rfl) fun w3 h3 => ?_
      refine ldN_at h3 0 (vs := x.cs) rfl (by rfl) rfl ?_
      refine hp _ _ _ x (h3.pick 5 rfl) fun w4 h4 => ?_
      have h5 := h4.selR [_, _, _, _, _, _] [_, _, _, _, _, _] [1, 2, 3, 4, 5, 0] (by decide) rfl
      cases hpx : p x with
      | true =>
        refine iff_t ?_
        refine ldN_at h5 0 (vs := x.cs) rfl (by rfl) rfl ?_
        refine push1 te_158 (f := Kept.cs) (fun _ => rfl) (fun _ => ints_flat _) (h5.pick 1 rfl) (x := x) rfl (by omega) fun v' w5 h6 => ?_
        refine hkk _ _ _ ?_
        rw [hf1, hf2]
        simp only [hpx, if_true, List.append_nil]
        exact h6.selR [_, _, _, _, _, _] [_, _, _, _, _] [0, 2, 3, 4, 5] (by decide) rfl
      | false =>
        refine iff_f ?_
        refine ldN_at h5 0 (vs := x.cs) rfl (by rfl) rfl ?_
        refine push1 te_158 (f := Kept.cs) (fun _ => rfl) (fun _ => ints_flat _) (h5.pick 2 rfl) (x := x) rfl (by omega) fun v' w5 h6 => ?_
        refine hkk _ _ _ ?_
        rw [hf1, hf2]
        simp only [hpx, Bool.false_eq_true, if_false, List.append_nil]
        exact h6.selR [_, _, _, _, _, _] [_, _, _, _, _] [2, 0, 3, 4, 5] (by decide) rfl
    · refine inc_s (by omega) ?_
      exact hg _ _ _ _ ⟨j + 1, by omega, rfl, h2⟩ (by simp [nOf]; omega)
  · refine iff_f ?_
    obtain rfl : j = l.length := by omega
    rw [List.take_length] at h1
    refine ncP_p ?_
    refine fld_at ?_
    refine st1_at h1 2 rfl (h1.own_cells 1 rfl) (by simp) rfl fun w2 h2 => ?_
    refine hk _ _ (Sat.swap (.mk_ex t6 (.join (l' := [_, _]) (h2.selR [_, _, _, _, _] [_, _, _, _] [2, 1, 0, 4] (by decide) rfl))))

end Go.Proofs.YtbopajpmadlmhaaGreat
end
