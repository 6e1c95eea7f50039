/- The document's gates: what Open does. Conditions: at most a million messages are held. -/
import Derived.Test.YtdiglafiimnfoaaGateV
namespace Go.Proofs.Ytdiglafiimnfoaa
open Go Go.E
set_option maxRecDepth 100000
variable {e w : World} {R : List HP} {K : KV}

/-- One more, put in its place. -/
structure Ins (G : List Kept) (x : Kept) (i : Nat) (d : Bool) (c : List Kept) : Prop where
  no : d = false → c = G.take i ∧ ∀ z ∈ G.take i, ltC cfK x z = false
  yes : d = true → ∃ p y, p < i ∧ G[p]? = some y ∧ ltC cfK x y = true ∧ (∀ z ∈ G.take p, ltC cfK x z = false) ∧ c = G.take p ++ x :: (G.take i).drop p
theorem Ins.len {G : List Kept} {x : Kept} {i : Nat} {d : Bool} {c : List Kept} (h : Ins G x i d c) (_hi : i ≤ G.length) : c.length ≤ i + 1 := by
  cases d with
  | false => rw [(h.no rfl).1, List.length_take]; omega
  | true =>
    obtain ⟨p, y, hp, _, _, _, rfl⟩ := h.yes rfl
    simp only [List.length_append, List.length_cons, List.length_take, List.length_drop]
    omega
theorem Ins.done {G : List Kept} {x : Kept} {c : List Kept} (h : Ins G x G.length true c) (ha : Asc (ltC cfK) G) : c = mg (ltC cfK) G [x] := by
  obtain ⟨p, y, hp, hy, hxy, hlo, rfl⟩ := h.yes rfl
  rw [List.take_length]
  have hhi := asc_first orderedK ha hy hxy
  have := mg_one' hlo hhi
  rw [List.take_append_drop] at this
  exact this.symm
theorem Ins.push {G : List Kept} {x : Kept} {c : List Kept} (h : Ins G x G.length false c) : c ++ [x] = mg (ltC cfK) G [x] := by
  obtain ⟨rfl, hlo⟩ := h.no rfl
  rw [List.take_length] at hlo ⊢
  have := mg_one' (lt := ltC cfK) (y := x) (L1 := G) (L2 := []) hlo (fun _ h => by cases h)
  rw [List.append_nil] at this
  exact this.symm

theorem ref14_Open_s {g : Nat} {fl : Int} {l : List Kept} (t : Int) (hS : Sat e w (IsGateR g fl l :: R)) (hl : l.length ≤ 1000000)
    (hk : ∀ v w', Sat e w' (ownS 63 6 Msg.cs v ((openR l t).map Kept.m) :: IsGateR g (max fl t) (openL l t) :: R) → K v w') : Cl prog 72 #[.pointer (some ⟨g, 0, none⟩), .int .i64 t] w K := by
  obtain ⟨v, h1⟩ := gateR_open hS
  refine pacelineref14_Gate_Open_calls ?_
  unfold pacelineref14_Gate_Open
  refine bsl0 h1 Kept.cs fun v1 w2 h2 => ?_
  refine bsl0 h2 Kept.cs fun v2 w3 h3 => ?_
  refine lpi3 (fun z t5 t6 t7 w => ∃ j : Nat, j ≤ l.length ∧ t7 = .int .i64 j ∧ z = l.length - j ∧ Sat e w (DR t5 (stab (ltC cfK) ((l.take j).filter (openP t))) :: DR t6 ((l.take j).filter fun x => !openP t x) ::
      blk g 112 [.int .i64 fl, v] :: DR v l :: R)) l.length
    ⟨0, Nat.zero_le _, rfl, rfl, h3.selR [_, _, _, _] [_, _, _, _] [1, 0, 2, 3] (by decide) rfl⟩ ?_
  rintro z t5 t6 _ w g1 ⟨j, hj, rfl, rfl, h5⟩ hg
  refine ncP_p (fld_at (ld1_at h5 2 rfl (v := v) rfl ?_))
  refine lnS_rd h5 3 rfl (fun g hg => own_rd hg) ?_
  refine lt_c (fun c => iff_t ?_) (fun c => iff_f ?_)
  · obtain ⟨x, hx⟩ := get_of_lt (l := l) (j := j) (by omega)
    have hn1 := List.length_filter_le (openP t) (l.take j)
    have hn2 := List.length_filter_le (fun x => !openP t x) (l.take j)
    have hn3 : (l.take j).length ≤ 1000000 := by simp; omega
    refine J2.cut (fun t5 t6 w => Sat e w (DR t5 (stab (ltC cfK) ((l.take (j + 1)).filter (openP t))) :: DR t6 ((l.take (j + 1)).filter fun x => !openP t x) ::
      blk g 112 [.int .i64 fl, v] :: DR v l :: R)) (fun k2 hcut => ?_) (fun t5 t6 w h6 => ?_)
    · refine ncP_p (fld_at (ld1_at h5 2 rfl (v := v) rfl ?_))
      refine ixS_rd h5 3 rfl (fun g hg => own_rd hg) (fun _ => rfl) hx fun p hp => ?_
      refine ldN_of h5 3 rfl hp rfl ?_
      rw [zero_170]
      refine al_s (cs := ints [0, 0, 0, 0, 0, 0, 0, 0, 0]) h5 rfl fun b w4 h6 => ?_
      refine stN_at h6 0 rfl (vs := x.cs) rfl rfl (Nat.le_of_ble_eq_true rfl) (ints_flat _) (cs' := x.cs) (by kernel_rfl) fun w5 h7 => ?_
      replace h7 : Sat e w5 (blk b 170 x.cs :: DR t5 (stab (ltC cfK) ((l.take j).filter (openP t))) :: DR t6 ((l.take j).filter fun x => !openP t x) :: blk g 112 [.int .i64 fl, v] :: DR v l :: R) := h7
      refine fld_at (fld_at (ld1_at h7 0 rfl (v := .int .i64 x.cause.T) rfl ?_))
      rw [filter_snoc hx, filter_snoc hx] at hcut
      refine ge_c (fun c2 => iff_t ?_) (fun c2 => iff_f ?_)
      · have hd : openP t x = false := decide_eq_false (by omega)
        rw [hd] at hcut
        refine ldN_at h7 0 (vs := x.cs) rfl (by rfl) rfl ?_
        refine push1 te_110 (f := Kept.cs) (fun _ => rfl) (fun _ => ints_flat _) (h7.pick 2 rfl) (x := x) rfl (by omega) fun v' w6 h8 => ?_
        refine hcut _ _ _ ?_
        simp only [Bool.false_eq_true, if_false, List.append_nil, Bool.not_false, if_true]
        exact h8.selR [_, _, _, _, _] [_, _, _, _] [2, 0, 3, 4] (by decide) rfl
      · have hd : openP t x = true := decide_eq_true (by omega)
        rw [hd] at hcut
        simp only [Bool.not_true, Bool.false_eq_true, if_false, List.append_nil, if_true] at hcut
        rw [stab_append orderedK, stab_one] at hcut
        have hGl : (stab (ltC cfK) ((l.take j).filter (openP t))).length ≤ 1000000 := by rw [stab_length]; omega
        have hGa : Asc (ltC cfK) (stab (ltC cfK) ((l.take j).filter (openP t))) := stab_asc orderedK _
        generalize stab (ltC cfK) ((l.take j).filter (openP t)) = G at h7 hcut hGl hGa
        refine bsl0 h7 Kept.cs fun v3 w6 h8 => ?_
        refine lpi3 (fun z t9 t10 t11 w => ∃ (i : Nat) (d : Bool) (c : List Kept), i ≤ G.length ∧ t10 = .bool d ∧ t11 = .int .i64 i ∧ z = G.length - i ∧ Ins G x i d c ∧ Sat e w (DR t9 c :: blk b 170 x.cs :: DR t5 G ::
            DR t6 ((l.take j).filter fun x => !openP t x) :: blk g 112 [.int .i64 fl, v] :: DR v l :: R)) G.length
          ⟨0, false, [], Nat.zero_le _, rfl, rfl, rfl, ⟨fun _ => ⟨rfl, fun _ h => by cases h⟩, fun h => by cases h⟩, h8⟩ ?_
        rintro z t9 _ _ w g3 ⟨i, d, c, hi, rfl, rfl, rfl, hins, h9⟩ hg3
        have hcl := hins.len hi
        refine lnS_rd h9 2 rfl (fun g hg => own_rd hg) ?_
        refine lt_c (fun c3 => iff_t ?_) (fun c3 => iff_f ?_)
        · obtain ⟨y, hy⟩ := get_of_lt (l := G) (j := i) (by omega)
          -- x goes in, or not; then y
          have hlast : ∀ t9 c' d' w, c'.length ≤ i + 1 → Ins G x (i + 1) d' (c' ++ [y]) → Sat e w (DR t9 c' :: blk b 170 x.cs :: DR t5 G :: DR t6 ((l.take j).filter fun x => !openP t x) :: blk g 112 [.int .i64 fl, v] :: DR v l :: R) →
              ixS 9 t5 (.int .i64 (i : Int)) w fun t68 w => ldN 9 t68 w fun t69 w => bsl 170 9 1 (ints [0, 0, 0, 0, 0, 0, 0, 0, 0]).toArray [(0, t69)] w fun t70 w => apS prog #[110, 110] 110 t9 t70 w fun t71 w =>
                bi .add .i64 (.int .i64 (i : Int)) (Value.int IntKind.i64 1) w fun t47 w => g3 [t71, .bool d', t47] w := by
            intro t9 c' d' w hc' hins' h10
            refine ixS_rd h10 2 rfl (fun g hg => own_rd hg) (fun _ => rfl) hy fun p hp => ?_
            refine ldN_of h10 2 rfl hp rfl ?_
            refine push1 te_110 (f := Kept.cs) (fun _ => rfl) (fun _ => ints_flat _) h10 (x := y) rfl (by omega) fun v' w6 h11 => ?_
            refine inc_s (by omega) ?_
            exact hg3 _ _ _ _ _ (by omega) ⟨i + 1, d', c' ++ [y], by omega, rfl, rfl, rfl, hins', h11⟩
          refine dr_s h9 fun w7 h10 => ?_
          cases d with
          | true =>
            refine not_t (gd_ft (gd_ft (gd_ft (gd_ft (gd_ft (gd_ft (gd_ft (gd_ft (gd_ft (pk_f (iff_f ?_)))))))))))
            refine hlast _ c true _ hcl ⟨(fun h => by cases h), fun _ => ?_⟩ h10
            obtain ⟨p, y', hp, hy', hxy, hlo, rfl⟩ := hins.yes rfl
            refine ⟨p, y', by omega, hy', hxy, hlo, ?_⟩
            rw [take_snoc hy, List.drop_append_of_le_length (by rw [List.length_take]; omega)]
            simp
          | false =>
            obtain ⟨rfl, hlo⟩ := hins.no rfl
            refine not_f (gd_tt (fld_at (gd_tt (ldN_at h10 1 (vs := x.cause.cs) rfl (by rfl) rfl (gd_tt (gd_tt (gd_tt ?_)))))))
            refine ixS_rd h10 2 rfl (fun g hg => own_rd hg) (fun _ => rfl) hy fun p hp => ?_
            refine gd_tt (fld_of hp fun p1 hp1 => ?_)
            refine gd_tt (ldN_sub (us := y.cause.cs) h10 2 rfl hp1 (by rfl) rfl ?_)
            refine gd_tt (ref01_Cmp_s h10 fun w8 h11 => ?_)
            refine gd_tt (lt_c (fun c4 => pk_t (iff_t ?_)) (fun c4 => pk_t (iff_f ?_)))
            · refine ldN_at h11 1 (vs := x.cs) rfl (by rfl) rfl ?_
              refine push1 te_110 (f := Kept.cs) (fun _ => rfl) (fun _ => ints_flat _) h11 (x := x) rfl (by omega) fun v' w9 h12 => ?_
              refine hlast _ (G.take i ++ [x]) true _ (by rw [List.length_append, List.length_take]; simp; omega) ⟨(fun h => by cases h), fun _ => ⟨i, y, by omega, hy, decide_eq_true c4, hlo, ?_⟩⟩ h12
              rw [take_snoc hy, List.drop_append_of_le_length (by rw [List.length_take]; omega), List.drop_of_length_le (by rw [List.length_take]; omega)]
              simp
            · refine hlast _ (G.take i) false _ hcl ⟨fun _ => ⟨(take_snoc hy).symm, fun z hz => ?_⟩, fun h => by cases h⟩ h11
              rw [take_snoc hy] at hz
              rcases List.mem_append.1 hz with h | h
              · exact hlo z h
              · rw [List.mem_singleton.1 h]; exact decide_eq_false c4
        · obtain rfl : i = G.length := by omega
          cases d with
          | true =>
            refine not_t (iff_f (hcut _ _ _ ?_))
            rw [← hins.done hGa]
            exact h9.selR [_, _, _, _, _, _] [_, _, _, _] [0, 3, 4, 5] (by decide) rfl
          | false =>
            refine not_f (iff_t ?_)
            refine ldN_at h9 1 (vs := x.cs) rfl (by rfl) rfl ?_
            refine push1 te_110 (f := Kept.cs) (fun _ => rfl) (fun _ => ints_flat _) h9 (x := x) rfl (by omega) fun v' w9 h12 => ?_
            refine hcut _ _ _ ?_
            rw [← hins.push]
            exact h12.selR [_, _, _, _, _, _] [_, _, _, _] [0, 3, 4, 5] (by decide) rfl
    · refine inc_s (by omega) ?_
      exact hg _ _ _ _ _ (by omega) ⟨j + 1, by omega, rfl, rfl, h6⟩
  · obtain rfl : j = l.length := by omega
    rw [List.take_length] at h5
    have hfl := List.length_filter_le (openP t) l
    have hGl : (openR l t).length ≤ 1000000 := by unfold openR; rw [stab_length]; omega
    replace h5 : Sat e w (DR t5 (openR l t) :: DR t6 (openL l t) :: blk g 112 [.int .i64 fl, v] :: DR v l :: R) := h5
    generalize openR l t = G at h5 hGl hk
    refine bsl0 h5 Msg.cs fun v3 w6 h8 => ?_
    refine lpi2 (fun z t12 t13 w => ∃ i : Nat, i ≤ G.length ∧ t13 = .int .i64 i ∧ z = G.length - i ∧ Sat e w (ownS 63 6 Msg.cs t12 ((G.take i).map Kept.m) :: DR t5 G :: DR t6 (openL l t) :: blk g 112 [.int .i64 fl, v] :: DR v l :: R)) G.length
      ⟨0, Nat.zero_le _, rfl, rfl, h8⟩ ?_
    rintro z t12 _ w g6 ⟨i, hi, rfl, rfl, h9⟩ hg6
    refine lnS_rd h9 1 rfl (fun g hg => own_rd hg) ?_
    refine lt_c (fun c3 => iff_t ?_) (fun c3 => iff_f ?_)
    · obtain ⟨x, hx⟩ := get_of_lt (l := G) (j := i) (by omega)
      refine ixS_rd h9 1 rfl (fun g hg => own_rd hg) (fun _ => rfl) hx fun p hp => ?_
      refine fld_of hp fun p1 hp1 => ?_
      refine ldN_sub (us := x.m.cs) h9 1 rfl hp1 (by rfl) rfl ?_
      refine push1 te_78 (f := Msg.cs) (fun _ => rfl) (fun _ => ints_flat _) h9 (x := x.m) rfl (by simp; omega) fun v' w6 h8 => ?_
      refine inc_s (by omega) ?_
      refine hg6 _ _ _ _ (by omega) ⟨i + 1, by omega, rfl, rfl, ?_⟩
      rw [take_snoc hx, List.map_append]
      exact h8
    · obtain rfl : i = G.length := by omega
      rw [List.take_length] at h9
      refine ncP_p (fld_at ?_)
      refine st1_at h9 3 rfl (h9.own_cells 2 rfl) (Nat.le_of_ble_eq_true rfl) (cs' := [.int .i64 fl, t6]) rfl fun w7 h10 => ?_
      refine ncP_p (fld_at (ld1_at h10 3 rfl (v := .int .i64 fl) rfl ?_))
      refine max_s ?_
      refine ncP_p (fld_at ?_)
      refine stN_at h10 3 rfl (vs := [.int .i64 (max fl t)]) rfl rfl (Nat.le_of_ble_eq_true rfl) (by simp [flat]) (cs' := [.int .i64 (max fl t), t6]) rfl fun w8 h11 => ?_
      exact hk _ _ (Sat.swap (gateR_mk (h11.selR [_, _, _, _, _] [_, _, _] [3, 2, 0] (by decide) rfl)))
end Go.Proofs.Ytdiglafiimnfoaa
