/- Gates: what Open and Floor do, and what the document's gates do. Conditions: at most a million messages are held. -/
import Derived.Test.YtdiglafiimnfoaaGateU
import Derived.Test.YtdiglafiimnfoaaGateD
import Derived.Test.YtdiglafiimnfoaaTimeB
namespace Go.Proofs.Ytdiglafiimnfoaa
open Go Go.E
set_option maxRecDepth 100000
variable {e w : World} {R : List HP} {K : KV}

def cfK (x y : Kept) : Int := cmpK x.cause y.cause
theorem ltC_iff {x y : Kept} : ltC cfK x y = true ↔ KeyLt x.cause y.cause := by
  unfold ltC cfK
  rw [decide_eq_true_eq]
  exact cmpK_lt
theorem ltC_no {x y : Kept} : ltC cfK x y = false ↔ ¬ KeyLt x.cause y.cause := by
  rw [← ltC_iff]
  cases ltC cfK x y <;> simp
theorem orderedK : Ordered (ltC cfK) where
  asymm a b h := ltC_no.2 (ltC_iff.1 h).asymm
  trans a b c h k := by
    rw [ltC_no] at h k ⊢
    intro hca
    rcases KeyLt.tri a.cause b.cause with h1 | h1 | h1
    · exact k (hca.trans h1)
    · rw [h1] at hca; exact k hca
    · exact h h1
def openP (t : Int) (x : Kept) : Bool := decide (x.cause.T < t)
def openR (l : List Kept) (t : Int) : List Kept := stab (ltC cfK) (l.filter (openP t))
def openL (l : List Kept) (t : Int) : List Kept := l.filter fun x => !openP t x

theorem open1_s {b : Nat} {t : Int} {x : Kept} (hS : Sat e w (blk b 3 [.int .i64 t] :: R)) (hk : ∀ w', Sat e w' (blk b 3 [.int .i64 t] :: R) → K (.bool (openP t x)) w') :
    clV prog (.func (.func 96) #[] #[.pointer (some ⟨b, 0, none⟩)]) #[.agg x.cs.toArray] w K := by
  refine ⟨_, _, _, rfl, ?_⟩
  refine gate_Gate_Open_1_calls (t0 := .agg x.cs.toArray) (t1 := .pointer (some ⟨b, 0, none⟩)) ?_
  unfold gate_Gate_Open_1
  refine al_s (cs := x.cs) hS rfl fun b2 w1 h1 => ?_
  refine fld_at (fld_at ?_)
  refine ld1_at h1 0 rfl (v := .int .i64 x.cause.T) rfl ?_
  refine ld1_at h1 1 rfl (v := .int .i64 t) rfl ?_
  refine lt_d ?_
  exact hk _ h1.drop
theorem open2_s : CmpOk e (.func (.func 98) #[] #[]) cfK := by
  intro w R K x y hS hk
  refine ⟨_, _, _, rfl, ?_⟩
  refine gate_Gate_Open_2_calls (t0 := .agg x.cs.toArray) (t1 := .agg y.cs.toArray) ?_
  unfold gate_Gate_Open_2
  refine al_s (cs := x.cs) hS rfl fun b2 w1 h1 => ?_
  refine al_s (cs := y.cs) h1 rfl fun b3 w2 h2 => ?_
  refine fld_at (ldN_at h2 1 (vs := x.cause.cs) rfl (by rfl) rfl ?_)
  refine fld_at (ldN_at h2 0 (vs := y.cause.cs) rfl (by rfl) rfl ?_)
  exact vtime_Cmp_s h2 fun w3 h3 => hk _ h3.drop.drop
theorem gate_Open_s {g : Nat} {fl : Int} {l : List Kept} (t : Int) (hS : Sat e w (IsGate g fl l :: R)) (hl : l.length ≤ 1000000)
    (hk : ∀ v w', Sat e w' (ownS 63 6 Msg.cs v ((openR l t).map Kept.m) :: IsGate g (max fl t) (openL l t) :: R) → K v w') : Cl prog 63 #[.pointer (some ⟨g, 0, none⟩), .int .i64 t] w K := by
  refine gate_Gate_Open_calls ?_
  unfold gate_Gate_Open
  refine al_s (cs := [.int .i64 t]) hS rfl fun b3 w1 h1 => ?_
  refine gate_part_s (openP t) h1.swap hl (fun w R K x h hk => open1_s h hk) fun v' w2 h2 => ?_
  have hfl := List.length_filter_le (openP t) l
  refine sortStable_s open2_s orderedK (by omega) h2 fun w3 h3 => ?_
  refine dr_s h3 fun w4 h4 => ?_
  obtain ⟨v, h5⟩ := (h4.selR [_, _, _] [_, _, _] [1, 0, 2] (by decide) rfl).ex
  have h6 := h5.split
  refine ncP_p (fld_at (ld1_at h6 0 rfl (v := .int .i64 fl) rfl ?_))
  refine ld1_at h6 3 rfl (v := .int .i64 t) rfl ?_
  refine max_s ?_
  refine ncP_p (fld_at ?_)
  refine stN_at h6 0 rfl (vs := [.int .i64 (max fl t)]) rfl rfl (Nat.le_of_ble_eq_true rfl) (by simp [flat]) (cs' := [.int .i64 (max fl t), v]) rfl fun w5 h7 => ?_
  have h8 : Sat e w5 (DK v' (openR l t) :: IsGate g (max fl t) (openL l t) :: blk b3 3 [.int .i64 t] :: R) :=
    Sat.swap (.mk_ex v (.join (l' := [_, _]) (h7.selR [_, _, _, _] [_, _, _, _] [0, 1, 2, 3] (by decide) rfl)))
  refine messages_s h8 (fun g hg => own_rd hg) (by unfold openR; rw [stab_length]; omega) fun v3 w6 h9 => ?_
  exact hk _ _ (h9.selR [_, _, _, _] [_, _] [0, 2] (by decide) rfl)
theorem gate_Floor_s {g : Nat} {fl : Int} {l : List Kept} (hS : Sat e w (IsGate g fl l :: R)) (hk : K (.int .i64 fl) w) : Cl prog 65 #[.pointer (some ⟨g, 0, none⟩)] w K := by
  obtain ⟨v, h5⟩ := hS.ex
  have h6 := h5.split
  refine gate_Gate_Floor_calls ?_
  unfold gate_Gate_Floor
  exact ncP_p (fld_at (ld1_at h6 0 rfl (v := .int .i64 fl) rfl hk))

/-! ### The document's gates -/
def IsGateR (g : Nat) (fl : Int) (l : List Kept) : HP := hex fun v : Value => sepL [blk g 112 [.int .i64 fl, v], ownS 170 9 Kept.cs v l]
abbrev DR (v : Value) (l : List Kept) : HP := ownS 170 9 Kept.cs v l
theorem gateR_open {g : Nat} {fl : Int} {l : List Kept} (h : Sat e w (IsGateR g fl l :: R)) : ∃ v, Sat e w (blk g 112 [.int .i64 fl, v] :: DR v l :: R) := by
  obtain ⟨v, h5⟩ := h.ex
  exact ⟨v, h5.split⟩
theorem gateR_mk {g : Nat} {fl : Int} {l : List Kept} {v : Value} (h : Sat e w (blk g 112 [.int .i64 fl, v] :: DR v l :: R)) : Sat e w (IsGateR g fl l :: R) :=
  .mk_ex v (.join (l' := [_, _]) h)
theorem ref14_New_s (hS : Sat e w R) (hk : ∀ g w', Sat e w' (IsGateR g 0 [] :: R) → K (.pointer (some ⟨g, 0, none⟩)) w') : Cl prog 69 #[] w K := by
  refine pacelineref14_New_calls ?_
  unfold pacelineref14_New
  rw [zero_112]
  refine ⟨_, rfl, ?_⟩
  refine al_s (cs := [.int .i64 0, .slice none 0 0]) hS rfl fun b w1 h1 => ?_
  exact hk _ _ (gateR_mk (h1.own_nil 170 9 Kept.cs).swap)
theorem ref14_Hold_s {g : Nat} {fl : Int} {l : List Kept} (c : Key) (m : Msg) (hS : Sat e w (IsGateR g fl l :: R)) (hl : l.length ≤ 256)
    (hk : ∀ w', Sat e w' (IsGateR g fl (holdL fl l c m) :: R) → K (.int .i64 (holdE fl l c)) w') : Cl prog 70 #[.pointer (some ⟨g, 0, none⟩), .agg c.cs.toArray, .agg m.cs.toArray] w K := by
  obtain ⟨v, h1⟩ := gateR_open hS
  refine pacelineref14_Gate_Hold_calls ?_
  unfold pacelineref14_Gate_Hold
  refine al_s (cs := c.cs) h1 rfl fun b4 w1 h2 => ?_
  refine al_s (cs := m.cs) h2 rfl fun b5 w2 h3 => ?_
  refine dr_s h3 fun w3 h4 => ?_
  refine fld_at (ld1_at h4 1 rfl (v := .int .i64 c.T) rfl ?_)
  refine ncP_p (fld_at (ld1_at h4 2 rfl (v := .int .i64 fl) rfl ?_))
  refine lt_c (fun c1 => ?_) (fun c1 => ?_)
  · refine iff_t ?_
    have := hk w3
    simp only [holdE, holdL, if_pos c1] at this
    exact this (gateR_mk h4.drop.drop)
  · refine iff_f (ncP_p (fld_at (ld1_at h4 2 rfl (v := v) rfl ?_)))
    refine lnS_rd h4 3 rfl (fun g hg => own_rd hg) ?_
    refine ge_c (fun c2 => ?_) (fun c2 => ?_)
    · refine iff_t ?_
      have := hk w3
      have c3 : 256 ≤ l.length := by omega
      simp only [holdE, holdL, if_neg c1, if_pos c3] at this
      exact this (gateR_mk h4.drop.drop)
    · refine iff_f ?_
      refine bsl0 h4 Kept.cs fun v1 w4 h5 => ?_
      refine ncP_p (fld_at (ld1_at h5 3 rfl (v := v) rfl ?_))
      replace h5 : Sat e w4 (DR v1 [] :: DR v l :: blk b5 63 m.cs :: blk b4 61 c.cs :: blk g 112 [.int .i64 fl, v] :: R) := h5.selR [_, _, _, _, _] [_, _, _, _, _] [0, 4, 1, 2, 3] (by decide) rfl
      refine apS_own te_110 und_110 (f := Kept.cs) (fun _ => rfl) (fun _ => ints_flat _) h5 (fun g hg => own_rd hg) (by simp; omega) fun v2 w5 h6 => ?_
      rw [List.nil_append] at h6
      refine ldN_at h6 3 (vs := c.cs) rfl (by rfl) rfl ?_
      refine ldN_at h6 2 (vs := m.cs) rfl (by rfl) rfl ?_
      rw [zero_170]
      refine bld_s (Kept.cs ⟨c, m⟩) (by kernel_rfl) ?_
      refine push1 te_110 (f := Kept.cs) (fun _ => rfl) (fun _ => ints_flat _) h6 (x := ⟨c, m⟩) rfl (by omega) fun v3 w6 h7 => ?_
      refine ncP_p (fld_at ?_)
      refine st1_at h7 4 rfl (h7.own_cells 0 rfl) (Nat.le_of_ble_eq_true rfl) rfl fun w7 h8 => ?_
      have := hk w7
      have c3 : ¬ 256 ≤ l.length := by omega
      simp only [holdE, holdL, if_neg c1, if_neg c3] at this
      exact this (gateR_mk (h8.selR [_, _, _, _, _] [_, _] [4, 0] (by decide) rfl))

theorem dropP_neg {k : Key} {x : Kept} : dropP k x = !decide (cmpK x.cause k < 0) := by
  unfold dropP
  by_cases h : cmpK x.cause k < 0
  · rw [decide_eq_true h, decide_eq_false (by omega)]; rfl
  · rw [decide_eq_false h, decide_eq_true (by omega)]; rfl
theorem filter_snoc {α : Type} {p : α → Bool} {l : List α} {j : Nat} {x : α} (hx : l[j]? = some x) : (l.take (j + 1)).filter p = (l.take j).filter p ++ if p x then [x] else [] := by
  rw [take_snoc hx, List.filter_append]
  cases hpx : p x <;> simp [hpx]
theorem ref14_Drop_s {g : Nat} {fl : Int} {l : List Kept} (k : Key) (hS : Sat e w (IsGateR g fl l :: R)) (hl : l.length ≤ 1000000)
    (hk : ∀ v w', Sat e w' (ownS 63 6 Msg.cs v ((l.filter (dropP k)).map Kept.m) :: IsGateR g fl (l.filter fun x => !dropP k x) :: R) → K v w') : Cl prog 71 #[.pointer (some ⟨g, 0, none⟩), .agg k.cs.toArray] w K := by
  obtain ⟨v, h1⟩ := gateR_open hS
  refine pacelineref14_Gate_Drop_calls ?_
  unfold pacelineref14_Gate_Drop
  refine al_s (cs := k.cs) h1 rfl fun b3 w1 h2 => ?_
  refine bsl0 h2 Msg.cs fun v1 w2 h3 => ?_
  refine bsl0 h3 Kept.cs fun v2 w3 h4 => ?_
  refine lpi3 (fun z t5 t6 t7 w => ∃ j : Nat, j ≤ l.length ∧ t7 = .int .i64 j ∧ z = l.length - j ∧ Sat e w (ownS 63 6 Msg.cs t5 (((l.take j).filter (dropP k)).map Kept.m) :: DR t6 ((l.take j).filter fun x => !dropP k x) :: blk b3 61 k.cs ::
      blk g 112 [.int .i64 fl, v] :: DR v l :: R)) l.length
    ⟨0, Nat.zero_le _, rfl, rfl, h4.selR [_, _, _, _, _] [_, _, _, _, _] [1, 0, 2, 3, 4] (by decide) rfl⟩ ?_
  rintro z t5 t6 _ w g1 ⟨j, hj, rfl, rfl, h5⟩ hg
  refine ncP_p (fld_at (ld1_at h5 3 rfl (v := v) rfl ?_))
  refine lnS_rd h5 4 rfl (fun g hg => own_rd hg) ?_
  refine lt_c (fun c => iff_t ?_) (fun c => iff_f ?_)
  · obtain ⟨x, hx⟩ := get_of_lt (l := l) (j := j) (by omega)
    have hn1 := List.length_filter_le (dropP k) (l.take j)
    have hn2 := List.length_filter_le (fun x => !dropP k x) (l.take j)
    have hn3 : (l.take j).length ≤ 1000000 := by simp; omega
    refine J2.cut (fun t5 t6 w => Sat e w (ownS 63 6 Msg.cs t5 (((l.take (j + 1)).filter (dropP k)).map Kept.m) :: DR t6 ((l.take (j + 1)).filter fun x => !dropP k x) :: blk b3 61 k.cs ::
      blk g 112 [.int .i64 fl, v] :: DR v l :: R)) (fun k2 hcut => ?_) (fun t5 t6 w h6 => ?_)
    · refine dr_s h5 fun w4 h6 => ?_
      refine ncP_p (fld_at (ld1_at h6 3 rfl (v := v) rfl ?_))
      refine ixS_rd h6 4 rfl (fun g hg => own_rd hg) (fun _ => rfl) hx fun p hp => ?_
      refine fld_of hp fun p1 hp1 => ?_
      refine ldN_sub (us := x.cause.cs) h6 4 rfl hp1 (by rfl) rfl ?_
      refine ldN_at h6 2 (vs := k.cs) rfl (by rfl) rfl ?_
      refine ref01_Cmp_s h6 fun w5 h7 => ?_
      rw [filter_snoc hx, filter_snoc hx] at hcut
      refine lt_c (fun c2 => iff_t ?_) (fun c2 => iff_f ?_)
      · have hd : dropP k x = false := by rw [dropP_neg, decide_eq_true c2]; rfl
        rw [hd] at hcut
        refine ncP_p (fld_at (ld1_at h7 3 rfl (v := v) rfl ?_))
        refine ixS_rd h7 4 rfl (fun g hg => own_rd hg) (fun _ => rfl) hx fun p hp => ?_
        refine ldN_of h7 4 rfl hp rfl ?_
        refine push1 te_110 (f := Kept.cs) (fun _ => rfl) (fun _ => ints_flat _) (h7.pick 1 rfl) (x := x) rfl (by omega) fun v' w6 h8 => ?_
        refine hcut _ _ _ ?_
        simp only [Bool.false_eq_true, if_false, List.append_nil, Bool.not_false, if_true]
        exact h8.selR [_, _, _, _, _] [_, _, _, _, _] [1, 0, 2, 3, 4] (by decide) rfl
      · have hd : dropP k x = true := by rw [dropP_neg, decide_eq_false c2]; rfl
        rw [hd] at hcut
        refine ncP_p (fld_at (ld1_at h7 3 rfl (v := v) rfl ?_))
        refine ixS_rd h7 4 rfl (fun g hg => own_rd hg) (fun _ => rfl) hx fun p hp => ?_
        refine fld_of hp fun p1 hp1 => ?_
        refine ldN_sub (us := x.m.cs) h7 4 rfl hp1 (by rfl) rfl ?_
        refine push1 te_78 (f := Msg.cs) (fun _ => rfl) (fun _ => ints_flat _) h7 (x := x.m) rfl (by rw [List.length_map]; omega) fun v' w6 h8 => ?_
        refine hcut _ _ _ ?_
        simp only [Bool.not_true, Bool.false_eq_true, if_false, List.append_nil, if_true, List.map_append, List.map_cons, List.map_nil]
        exact h8
    · refine inc_s (by omega) ?_
      exact hg _ _ _ _ _ (by omega) ⟨j + 1, by omega, rfl, rfl, h6⟩
  · obtain rfl : j = l.length := by omega
    rw [List.take_length] at h5
    refine ncP_p (fld_at ?_)
    refine st1_at h5 3 rfl (h5.own_cells 1 rfl) (Nat.le_of_ble_eq_true rfl) rfl fun w4 h6 => ?_
    exact hk _ _ (Sat.swap (gateR_mk (h6.selR [_, _, _, _, _] [_, _, _] [3, 1, 0] (by decide) rfl)))

theorem ref14_Held_s {g : Nat} {fl : Int} {l : List Kept} (hS : Sat e w (IsGateR g fl l :: R)) (hl : l.length ≤ 1000000)
    (hk : ∀ v w', Sat e w' (ownS 63 6 Msg.cs v (l.map Kept.m) :: IsGateR g fl l :: R) → K v w') : Cl prog 74 #[.pointer (some ⟨g, 0, none⟩)] w K := by
  obtain ⟨v, h1⟩ := gateR_open hS
  refine pacelineref14_Gate_Held_calls ?_
  unfold pacelineref14_Gate_Held
  refine bsl0 h1 Msg.cs fun v1 w2 h3 => ?_
  refine lpi2 (fun z t3 t4 w => ∃ j : Nat, j ≤ l.length ∧ t4 = .int .i64 j ∧ z = l.length - j ∧ Sat e w (ownS 63 6 Msg.cs t3 ((l.take j).map Kept.m) :: blk g 112 [.int .i64 fl, v] :: DR v l :: R)) l.length
    ⟨0, Nat.zero_le _, rfl, rfl, h3⟩ ?_
  rintro z t3 _ w g1 ⟨j, hj, rfl, rfl, h5⟩ hg
  refine ncP_p (fld_at (ld1_at h5 1 rfl (v := v) rfl ?_))
  refine lnS_rd h5 2 rfl (fun g hg => own_rd hg) ?_
  refine lt_c (fun c => iff_t ?_) (fun c => iff_f ?_)
  · obtain ⟨x, hx⟩ := get_of_lt (l := l) (j := j) (by omega)
    refine ncP_p (fld_at (ld1_at h5 1 rfl (v := v) rfl ?_))
    refine ixS_rd h5 2 rfl (fun g hg => own_rd hg) (fun _ => rfl) hx fun p hp => ?_
    refine fld_of hp fun p1 hp1 => ?_
    refine ldN_sub (us := x.m.cs) h5 2 rfl hp1 (by rfl) rfl ?_
    refine push1 te_78 (f := Msg.cs) (fun _ => rfl) (fun _ => ints_flat _) h5 (x := x.m) rfl (by simp; omega) fun v' w6 h8 => ?_
    refine inc_s (by omega) ?_
    refine hg _ _ _ _ (by omega) ⟨j + 1, by omega, rfl, rfl, ?_⟩
    rw [take_snoc hx, List.map_append]
    exact h8
  · obtain rfl : j = l.length := by omega
    rw [List.take_length] at h5
    exact hk _ _ (h5.selR [_, _, _] [_, _, _] [0, 1, 2] (by decide) rfl |> fun h => Sat.swap (gateR_mk (h.selR [_, _, _] [_, _, _] [1, 2, 0] (by decide) rfl)))

theorem ref14_Retract_s {g : Nat} {fl : Int} {l : List Kept} (k : Key) (hS : Sat e w (IsGateR g fl l :: R)) (hl : l.length ≤ 1000000)
    (hk : ∀ w', Sat e w' (IsGateR g fl (retL l k) :: R) → K (.tuple #[.int .i64 (retN l k), .int .i64 (if retN l k = 0 then 209 else 0)]) w') : Cl prog 73 #[.pointer (some ⟨g, 0, none⟩), .agg k.cs.toArray] w K := by
  obtain ⟨v, h1⟩ := gateR_open hS
  refine pacelineref14_Gate_Retract_calls ?_
  unfold pacelineref14_Gate_Retract
  refine al_s (cs := k.cs) h1 rfl fun b3 w1 h2 => ?_
  refine bsl0 h2 Kept.cs fun v1 w2 h3 => ?_
  refine lpi2 (fun z t6 t7 w => ∃ j : Nat, j ≤ l.length ∧ t7 = .int .i64 j ∧ z = l.length - j ∧ Sat e w (DR t6 ((l.take j).filter fun x => !decide (x.m.key = k)) :: blk b3 61 k.cs :: blk g 112 [.int .i64 fl, v] :: DR v l :: R)) l.length
    ⟨0, Nat.zero_le _, rfl, rfl, h3⟩ ?_
  rintro z t6 _ w g1 ⟨j, hj, rfl, rfl, h5⟩ hg
  refine ncP_p (fld_at (ld1_at h5 2 rfl (v := v) rfl ?_))
  refine lnS_rd h5 3 rfl (fun g hg => own_rd hg) ?_
  refine lt_c (fun c => iff_t ?_) (fun c => iff_f ?_)
  · obtain ⟨x, hx⟩ := get_of_lt (l := l) (j := j) (by omega)
    have hn2 := List.length_filter_le (fun x : Kept => !decide (x.m.key = k)) (l.take j)
    have hn3 : (l.take j).length ≤ 1000000 := by simp; omega
    refine J1.cut (fun t6 w => Sat e w (DR t6 ((l.take (j + 1)).filter fun x => !decide (x.m.key = k)) :: blk b3 61 k.cs :: blk g 112 [.int .i64 fl, v] :: DR v l :: R)) (fun k2 hcut => ?_) (fun t6 w h6 => ?_)
    · refine dr_s h5 fun w4 h6 => ?_
      refine ncP_p (fld_at (ld1_at h6 2 rfl (v := v) rfl ?_))
      refine ixS_rd h6 3 rfl (fun g hg => own_rd hg) (fun _ => rfl) hx fun p hp => ?_
      refine fld_of hp fun p1 hp1 => fld_of hp1 fun p2 hp2 => ?_
      refine ldN_sub (us := x.m.key.cs) h6 3 rfl hp2 (by rfl) rfl ?_
      refine ldN_at h6 1 (vs := k.cs) rfl (by rfl) rfl ?_
      refine bO_ne (ns := x.m.key.ns) (ms := k.ns) eqT_61 agg_61 egt_61 (by decide) rfl ?_
      rw [Key.eq_ns]
      rw [filter_snoc hx] at hcut
      by_cases hxk : x.m.key = k
      · rw [decide_eq_true hxk] at hcut ⊢
        refine iff_f (hcut _ _ ?_)
        simpa using h6
      · rw [decide_eq_false hxk] at hcut ⊢
        refine iff_t (ncP_p (fld_at (ld1_at h6 2 rfl (v := v) rfl ?_)))
        refine ixS_rd h6 3 rfl (fun g hg => own_rd hg) (fun _ => rfl) hx fun p hp => ?_
        refine ldN_of h6 3 rfl hp rfl ?_
        refine push1 te_110 (f := Kept.cs) (fun _ => rfl) (fun _ => ints_flat _) h6 (x := x) rfl (by omega) fun v' w6 h8 => ?_
        exact hcut _ _ h8
    · refine inc_s (by omega) ?_
      exact hg _ _ _ _ (by omega) ⟨j + 1, by omega, rfl, rfl, h6⟩
  · obtain rfl : j = l.length := by omega
    rw [List.take_length] at h5
    have hsum : retN l k + (retL l k).length = l.length := by
      unfold retN retL
      have := List.length_eq_countP_add_countP (fun x : Kept => decide (x.m.key = k)) (l := l)
      rw [List.countP_eq_length_filter, List.countP_eq_length_filter] at this
      simp only [decide_not] at this ⊢
      simpa using this.symm
    replace h5 : Sat e w (DR t6 (retL l k) :: blk b3 61 k.cs :: blk g 112 [.int .i64 fl, v] :: DR v l :: R) := h5
    refine ncP_p (fld_at (ld1_at h5 2 rfl (v := v) rfl ?_))
    refine lnS_rd h5 3 rfl (fun g hg => own_rd hg) (lnS_rd h5 0 rfl (fun g hg => own_rd hg) ?_)
    refine sub_s (by omega) (by omega) ?_
    rw [show (l.length : Int) - ((retL l k).length : Int) = (retN l k : Int) by omega]
    refine eq_c (fun c2 => iff_t ?_) (fun c2 => iff_f ?_)
    · have h0 : retN l k = 0 := by omega
      have hl2 : retL l k = l := by
        refine List.filter_eq_self.2 fun x hx => ?_
        by_cases e1 : x.m.key = k
        · unfold retN at h0
          rw [List.length_eq_zero_iff] at h0
          have : x ∈ l.filter fun x => decide (x.m.key = k) := List.mem_filter.2 ⟨hx, by simpa using e1⟩
          rw [h0] at this
          cases this
        · simp [e1]
      have := hk w
      rw [if_pos h0, h0, hl2] at this
      exact this (gateR_mk h5.drop.drop)
    · refine ncP_p (fld_at ?_)
      refine st1_at h5 2 rfl (h5.own_cells 0 rfl) (Nat.le_of_ble_eq_true rfl) rfl fun w4 h6 => ?_
      have := hk w4
      rw [if_neg (by omega)] at this
      exact this (gateR_mk (h6.selR [_, _, _, _] [_, _] [2, 0] (by decide) rfl))
end Go.Proofs.Ytdiglafiimnfoaa
