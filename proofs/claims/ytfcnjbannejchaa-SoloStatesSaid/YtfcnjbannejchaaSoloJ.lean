/- Clones of slices; Starts, Step. Conditions: the lists are short. -/
import Derived.Test.YtfcnjbannejchaaSoloI
namespace Go.Proofs.Ytfcnjbannejchaa
open Go Go.E
set_option maxRecDepth 100000
variable {e w : World} {L R : List HP} {K : KV} {S S2 : HP}

structure Done where
  m : Msg
  st : Int
  deriving DecidableEq
def Done.ns (d : Done) : List Int := [d.m.key.T, d.m.key.From, d.m.key.Seq, d.m.To, d.m.Class, d.m.Body, d.st]
abbrev Done.cs (d : Done) : List Value := ints d.ns
theorem Done.eq_ns (a b : Done) : (a.ns == b.ns) = decide (a = b) := by
  rw [Bool.eq_iff_iff]
  obtain ⟨⟨⟨a1, a2, a3⟩, a4, a5, a6⟩, a7⟩ := a
  obtain ⟨⟨⟨b1, b2, b3⟩, b4, b5, b6⟩, b7⟩ := b
  simp [Done.ns, and_assoc]
theorem rd_nil {α : Type} {size : Nat} {f : α → List Value} {n c : Nat} {l : List α} (hS : Sat e w (S :: R)) (hr : ∀ g, S g → rdS size f (.slice none n c) l g) : l = [] := by
  obtain ⟨g, hg, _⟩ := hS.get 0 rfl
  obtain ⟨A', c', h1, h2, h3⟩ := hr g hg
  injection h1 with e1 e2 e3
  by_cases h0 : 0 < l.length
  · obtain ⟨a, ha, _⟩ := h3 h0
    rw [← e1] at ha
    cases ha
  · exact List.length_eq_zero_iff.1 (by omega)
theorem clone_ints_s {v : Value} {l : List Int} (hl : l.length ≤ 1000000) (hff : ∀ x ∈ l, ∀ v ∈ (intsK .i64) x, flat v = true) (hS : Sat e w (S :: R)) (hr : ∀ g, S g → rdS 1 (intsK .i64) v l g)
    (hk : ∀ v' w', Sat e w' (ownS 3 1 (intsK .i64) v' l :: S :: R) → K v' w') : Cl prog 46 #[v] w K := by
  refine slices_Clone_int_int_calls ?_
  unfold slices_Clone_int_int
  obtain ⟨A, c, rfl, _⟩ := hS.shape 0 rfl hr
  cases A with
  | none =>
    refine ex_oV (w' := w) (v := .bool true) (by kernel_rfl) ?_
    obtain rfl := rd_nil hS hr
    exact iff_t (hk _ _ (hS.own_nil 3 1 (intsK .i64)))
  | some a =>
    refine ex_oV (w' := w) (v := .bool false) (by kernel_rfl) ?_
    refine iff_f ?_
    refine bsl0 hS (intsK .i64) fun v1 w2 h2 => ?_
    refine apS_ownM te_22 und_22 (f := (intsK .i64)) (fun _ => rfl) hff h2 hr (by simp; omega) fun v2 w3 h3 => ?_
    rw [List.nil_append] at h3
    exact hk _ _ h3
theorem clone_outs_s {v : Value} {l : List Out} (hl : l.length ≤ 1000000) (hff : ∀ x ∈ l, ∀ v ∈ Out.cs x, flat v = true) (hS : Sat e w (S :: R)) (hr : ∀ g, S g → rdS 3 Out.cs v l g)
    (hk : ∀ v' w', Sat e w' (ownS 63 3 Out.cs v' l :: S :: R) → K v' w') : Cl prog 48 #[v] w K := by
  refine slices_Clone_api_Out_api_Out_calls ?_
  unfold slices_Clone_api_Out_api_Out
  obtain ⟨A, c, rfl, _⟩ := hS.shape 0 rfl hr
  cases A with
  | none =>
    refine ex_oV (w' := w) (v := .bool true) (by kernel_rfl) ?_
    obtain rfl := rd_nil hS hr
    exact iff_t (hk _ _ (hS.own_nil 63 3 Out.cs))
  | some a =>
    refine ex_oV (w' := w) (v := .bool false) (by kernel_rfl) ?_
    refine iff_f ?_
    refine bsl0 hS Out.cs fun v1 w2 h2 => ?_
    refine apS_ownM te_51 und_51 (f := Out.cs) (fun _ => rfl) hff h2 hr (by simp; omega) fun v2 w3 h3 => ?_
    rw [List.nil_append] at h3
    exact hk _ _ h3
theorem clone_rules_s {v : Value} {l : List RuleX} (hl : l.length ≤ 1000000) (hff : ∀ x ∈ l, ∀ v ∈ RuleX.cs x, flat v = true) (hS : Sat e w (S :: R)) (hr : ∀ g, S g → rdS 4 RuleX.cs v l g)
    (hk : ∀ v' w', Sat e w' (ownS 55 4 RuleX.cs v' l :: S :: R) → K v' w') : Cl prog 49 #[v] w K := by
  refine slices_Clone_api_Rule_api_Rule_calls ?_
  unfold slices_Clone_api_Rule_api_Rule
  obtain ⟨A, c, rfl, _⟩ := hS.shape 0 rfl hr
  cases A with
  | none =>
    refine ex_oV (w' := w) (v := .bool true) (by kernel_rfl) ?_
    obtain rfl := rd_nil hS hr
    exact iff_t (hk _ _ (hS.own_nil 55 4 RuleX.cs))
  | some a =>
    refine ex_oV (w' := w) (v := .bool false) (by kernel_rfl) ?_
    refine iff_f ?_
    refine bsl0 hS RuleX.cs fun v1 w2 h2 => ?_
    refine apS_ownM te_50 und_50 (f := RuleX.cs) (fun _ => rfl) hff h2 hr (by simp; omega) fun v2 w3 h3 => ?_
    rw [List.nil_append] at h3
    exact hk _ _ h3
theorem clone_feds_s {v : Value} {l : List FedX} (hl : l.length ≤ 1000000) (hff : ∀ x ∈ l, ∀ v ∈ FedX.cs x, flat v = true) (hS : Sat e w (S :: R)) (hr : ∀ g, S g → rdS 7 FedX.cs v l g)
    (hk : ∀ v' w', Sat e w' (ownS 53 7 FedX.cs v' l :: S :: R) → K v' w') : Cl prog 47 #[v] w K := by
  refine slices_Clone_api_Fed_api_Fed_calls ?_
  unfold slices_Clone_api_Fed_api_Fed
  obtain ⟨A, c, rfl, _⟩ := hS.shape 0 rfl hr
  cases A with
  | none =>
    refine ex_oV (w' := w) (v := .bool true) (by kernel_rfl) ?_
    obtain rfl := rd_nil hS hr
    exact iff_t (hk _ _ (hS.own_nil 53 7 FedX.cs))
  | some a =>
    refine ex_oV (w' := w) (v := .bool false) (by kernel_rfl) ?_
    refine iff_f ?_
    refine bsl0 hS FedX.cs fun v1 w2 h2 => ?_
    refine apS_ownM te_23 und_23 (f := FedX.cs) (fun _ => rfl) hff h2 hr (by simp; omega) fun v2 w3 h3 => ?_
    rw [List.nil_append] at h3
    exact hk _ _ h3
theorem clone_dones_s {v : Value} {l : List Done} (hl : l.length ≤ 1000000) (hff : ∀ x ∈ l, ∀ v ∈ Done.cs x, flat v = true) (hS : Sat e w (S :: R)) (hr : ∀ g, S g → rdS 7 Done.cs v l g)
    (hk : ∀ v' w', Sat e w' (ownS 39 7 Done.cs v' l :: S :: R) → K v' w') : Cl prog 33 #[v] w K := by
  refine slices_Clone_api_Done_api_Done_calls ?_
  unfold slices_Clone_api_Done_api_Done
  obtain ⟨A, c, rfl, _⟩ := hS.shape 0 rfl hr
  cases A with
  | none =>
    refine ex_oV (w' := w) (v := .bool true) (by kernel_rfl) ?_
    obtain rfl := rd_nil hS hr
    exact iff_t (hk _ _ (hS.own_nil 39 7 Done.cs))
  | some a =>
    refine ex_oV (w' := w) (v := .bool false) (by kernel_rfl) ?_
    refine iff_f ?_
    refine bsl0 hS Done.cs fun v1 w2 h2 => ?_
    refine apS_ownM te_42 und_42 (f := Done.cs) (fun _ => rfl) hff h2 hr (by simp; omega) fun v2 w3 h3 => ?_
    rw [List.nil_append] at h3
    exact hk _ _ h3
theorem clone_wait_s {v : Value} {l : List Msg} (hl : l.length ≤ 1000000) (hff : ∀ x ∈ l, ∀ v ∈ Msg.cs x, flat v = true) (hS : Sat e w (S :: R)) (hr : ∀ g, S g → rdS 6 Msg.cs v l g)
    (hk : ∀ v' w', Sat e w' (ownS 37 6 Msg.cs v' l :: S :: R) → K v' w') : Cl prog 37 #[v] w K := by
  refine slices_Clone_solo_waiting_api_Msg_calls ?_
  unfold slices_Clone_solo_waiting_api_Msg
  obtain ⟨A, c, rfl, _⟩ := hS.shape 0 rfl hr
  cases A with
  | none =>
    refine ex_oV (w' := w) (v := .bool true) (by kernel_rfl) ?_
    obtain rfl := rd_nil hS hr
    exact iff_t (hk _ _ (hS.own_nil 37 6 Msg.cs))
  | some a =>
    refine ex_oV (w' := w) (v := .bool false) (by kernel_rfl) ?_
    refine iff_f ?_
    refine bsl0 hS Msg.cs fun v1 w2 h2 => ?_
    refine apS_ownM te_66 und_66 (f := Msg.cs) (fun _ => rfl) hff h2 hr (by simp; omega) fun v2 w3 h3 => ?_
    rw [List.nil_append] at h3
    exact hk _ _ h3

/-! ### The first messages -/
def startsL (ps : List Int) (feds : List Fed) (l : List Fed) : List Msg := l.zipIdx.flatMap fun p => spreadL ps feds (p.2 : Int) 0 0 0 p.1.Init
theorem startsL_snoc (ps : List Int) (feds : List Fed) (l : List Fed) (x : Fed) : startsL ps feds (l ++ [x]) = startsL ps feds l ++ spreadL ps feds (l.length : Int) 0 0 0 x.Init := by
  unfold startsL
  rw [List.zipIdx_append, List.flatMap_append]
  simp
theorem starts_s {x : WdX} (i : Nat) (hi : L[i]? = some S) (hS : Sat e w L) (hr : ∀ g, S g → RdWd x g) (hs : x.short) (ht : okTree x.Parents) (hf8 : x.Feds.length ≤ 8)
    (ho : ∀ f ∈ x.Feds, f.Init.length ≤ 4 ∧ ∀ o ∈ f.Init, okSend x.Parents.length o)
    (hk : ∀ v w', Sat e w' (ownS 37 6 Msg.cs v (startsL x.w.Parents x.w.Feds x.w.Feds) :: L) → (startsL x.w.Parents x.w.Feds x.w.Feds).length ≤ 1000 → K v w') : Cl prog 26 #[.agg x.cs.toArray] w K := by
  refine config_Starts_calls ?_
  unfold config_Starts
  refine al_s (cs := x.cs) hS rfl fun b w1 h1 => ?_
  have hi1 : (blk b 25 x.cs :: L)[i + 1]? = some S := by simpa using hi
  refine fld_at (ld1_at h1 0 rfl (v := x.fv) rfl ?_)
  refine lnS_rd h1 (i + 1) hi1 (fun g hg => (hr g hg).feds) ?_
  rw [zero_53]
  have hflen : x.w.Feds.length = x.Feds.length := by simp [WdX.w]
  refine lpi2 (fun q t3 t9 w => ∃ j : Nat, j ≤ x.Feds.length ∧ t9 = .int .i64 j ∧ q = x.Feds.length - j ∧ (startsL x.w.Parents x.w.Feds ((x.Feds.take j).map FedX.f)).length ≤ j * 32 ∧
      Sat e w (ownS 37 6 Msg.cs t3 (startsL x.w.Parents x.w.Feds ((x.Feds.take j).map FedX.f)) :: blk b 25 x.cs :: L)) x.Feds.length
    ⟨0, Nat.zero_le _, rfl, rfl, by simp [startsL], h1.own_nil 37 6 Msg.cs⟩ ?_
  rintro q t3 _ w g ⟨j, hj, rfl, rfl, hb, h2⟩ hg
  have hi2 : (ownS 37 6 Msg.cs t3 (startsL x.w.Parents x.w.Feds ((x.Feds.take j).map FedX.f)) :: blk b 25 x.cs :: L)[i + 2]? = some S := by simpa using hi
  refine lt_c (fun c0 => iff_t ?_) (fun c0 => iff_f ?_)
  · obtain ⟨fd, hf⟩ := get_of_lt (l := x.Feds) (j := j) (by omega)
    have hfm := List.mem_of_getElem? hf
    obtain ⟨ho1, ho2⟩ := ho fd hfm
    have hlen : ((x.Feds.take j).map FedX.f).length = j := by rw [List.length_map, List.length_take]; omega
    have hsn : startsL x.w.Parents x.w.Feds ((x.Feds.take (j + 1)).map FedX.f) = startsL x.w.Parents x.w.Feds ((x.Feds.take j).map FedX.f) ++ spreadL x.w.Parents x.w.Feds (j : Int) 0 0 0 fd.Init := by
      rw [take_snoc hf, List.map_append, List.map_singleton, startsL_snoc, hlen]
      rfl
    have hsl := spreadL_len x.w.Parents x.w.Feds (j : Int) 0 0 0 fd.Init
    have hsl2 : fd.Init.length * x.w.Feds.length ≤ 4 * 8 := Nat.mul_le_mul ho1 (by rw [hflen]; exact hf8)
    refine ixS_rd h2 (i + 2) hi2 (fun g hg => (hr g hg).feds) (fun _ => rfl) hf fun a ha => ?_
    refine ldN_of h2 (i + 2) hi2 ha rfl ?_
    refine al_s (cs := [.int .i64 0, .int .i64 0, .int .i64 0, .slice none 0 0, .slice none 0 0, .slice none 0 0, .slice none 0 0]) h2 rfl fun t w5 h5 => ?_
    refine stN_at h5 0 rfl (vs := fd.cs) rfl rfl (by simp) (fed_cells i hi hS fun g hg => (hr g hg).fed fd hfm) (cs' := fd.cs) (by rfl) fun w6 h6 => ?_
    refine ldN_at h6 2 (vs := x.cs) rfl (by rfl) rfl ?_
    refine fld_at (ld1_at h6 0 rfl (v := fd.iv) rfl ?_)
    refine spread_s (x := x) (outs := fd.Init) (i + 3) (i + 3) (by simpa using hi) (by simpa using hi) h6 hr (fun g hg => ((hr g hg).fed fd hfm).init) hs ht ho2 (by omega) (by decide) (by decide) fun mv w7 h7 => ?_
    have h8 := h7.selR [_, _, _, _] [_, _, _, _] [2, 0, 1, 3] (by decide) rfl
    refine apS_own te_58 und_58 (f := Msg.cs) (fun _ => rfl) (fun _ => ints_flat _) h8 (fun g hg => own_rd hg) (by omega) fun v2 w9 h9 => ?_
    refine inc_s (by omega) ?_
    refine hg _ _ _ _ (by omega) ⟨j + 1, by omega, rfl, rfl, ?_, ?_⟩
    · rw [hsn, List.length_append]; omega
    · rw [hsn]
      exact h9.selR [_, _, _, _] [_, _] [0, 3] (by decide) rfl
  · have ej : j = x.Feds.length := by omega
    rw [ej, List.take_length] at h2 hb
    exact hk _ _ (h2.selR [_, _] [_] [0] (by decide) rfl) (Nat.le_trans hb (by omega))

/-! ### A step of a table -/
def stepR (l : List Rule) (s c : Int) : Int × List Out := match l.find? fun r => decide (r.State = s) && decide (r.Class = c) with
  | some r => (r.Next, r.Sends)
  | none => (s, [])
theorem stepR_none {l : List RuleX} {s c : Int} (h : ∀ r ∈ l, ¬ isOn s c r) : stepR (l.map RuleX.r) s c = (s, []) := by
  unfold stepR
  rw [List.find?_eq_none.2]
  intro r hr
  obtain ⟨x, hx, rfl⟩ := List.mem_map.1 hr
  have := h x hx
  unfold isOn at this
  intro hd
  rw [Bool.and_eq_true] at hd
  exact this ⟨of_decide_eq_true hd.1, of_decide_eq_true hd.2⟩
theorem stepR_some {l : List RuleX} {s c : Int} {j : Nat} {r : RuleX} (hj : l[j]? = some r) (hon : isOn s c r) (hlo : ∀ y ∈ l.take j, ¬ isOn s c y) : stepR (l.map RuleX.r) s c = (r.Next, r.Sends) := by
  unfold stepR
  have hsp : l.map RuleX.r = (l.take j).map RuleX.r ++ r.r :: (l.drop (j + 1)).map RuleX.r := by
    conv => lhs; rw [take_split hj]
    simp
  rw [hsp, List.find?_append]
  have h1 : ((l.take j).map RuleX.r).find? (fun r => decide (r.State = s) && decide (r.Class = c)) = none := by
    rw [List.find?_eq_none]
    intro r hr
    obtain ⟨x, hx, rfl⟩ := List.mem_map.1 hr
    have := hlo x hx
    unfold isOn at this
    intro hd
    rw [Bool.and_eq_true] at hd
    exact this ⟨of_decide_eq_true hd.1, of_decide_eq_true hd.2⟩
  unfold isOn at hon
  rw [h1, Option.none_or, List.find?_cons_of_pos (by simp [RuleX.r, hon])]
  rfl
theorem table_Step_s {v : Value} {l : List RuleX} {s c : Int} (hS : Sat e w (S :: R)) (hr : ∀ g, S g → RdRules v l g) (hl : l.length ≤ 1000) (hl2 : ∀ r ∈ l, r.Sends.length ≤ 1000)
    (hk : ∀ v' w', Sat e w' (ownS 63 3 Out.cs v' (stepR (l.map RuleX.r) s c).2 :: S :: R) → K (.tuple #[.int .i64 (stepR (l.map RuleX.r) s c).1, v']) w') : Cl prog 31 #[v, .int .i64 s, .int .i64 c] w K := by
  refine table_Step_calls ?_
  unfold table_Step
  refine table_Find_calls ?_
  unfold table_Find
  refine al_s (cs := [.int .i64 s]) hS rfl fun bs w1 h1 => ?_
  refine al_s (cs := [.int .i64 c]) h1 rfl fun bc w2 h2 => ?_
  refine slices_IndexFunc_api_Rule_api_Rule_calls ?_
  unfold slices_IndexFunc_api_Rule_api_Rule
  refine lnS_rd h2 2 rfl (fun g hg => (hr g hg).s) ?_
  refine lpi1 (fun q t8 w => ∃ j : Nat, j ≤ l.length ∧ t8 = .int .i64 j ∧ q = l.length - j ∧ (∀ y ∈ l.take j, ¬ isOn s c y) ∧ Sat e w (blk bc 3 [.int .i64 c] :: blk bs 3 [.int .i64 s] :: S :: R)) l.length ⟨0, Nat.zero_le _, rfl, rfl, by simp, h2⟩ ?_
  rintro q _ w g ⟨j, hj, rfl, rfl, hlo, h3⟩ hg
  refine lt_c (fun c0 => iff_t ?_) (fun c0 => iff_f ?_)
  · obtain ⟨r, hrj⟩ := get_of_lt (l := l) (j := j) (by omega)
    have hrm := List.mem_of_getElem? hrj
    refine ixS_rd h3 2 rfl (fun g hg => (hr g hg).s) (fun _ => rfl) hrj fun a ha => ?_
    refine ldN_of h3 2 rfl ha rfl ?_
    refine ⟨_, _, _, rfl, ?_⟩
    refine table_Find_1_calls (t0 := .agg r.cs.toArray) (t1 := .pointer (some ⟨bs, 0, none⟩)) (t2 := .pointer (some ⟨bc, 0, none⟩)) ?_
    unfold table_Find_1
    refine al_s (cs := r.cs) h3 rfl fun t w4 h4 => ?_
    refine fld_at (ld1_at h4 0 rfl (v := .int .i64 r.State) rfl ?_)
    refine ld1_at h4 2 rfl rfl ?_
    have hnext : ¬ isOn s c r → bi .add .i64 (.int .i64 j) (.int .i64 1) w4 fun t18 w => g [t18] w := by
      intro h
      refine inc_s (by omega) ?_
      refine hg _ _ _ (by omega) ⟨j + 1, by omega, rfl, rfl, fun y hy => ?_, h4.drop⟩
      rw [take_snoc hrj] at hy
      rcases List.mem_append.1 hy with h' | h'
      · exact hlo y h'
      · rw [List.mem_singleton.1 h']; exact h
    refine eq_c (fun c1 => ?_) (fun c1 => ?_)
    · refine gd_tt (fld_at (gd_tt (ld1_at h4 0 rfl (v := .int .i64 r.Class) rfl (gd_tt (ld1_at h4 1 rfl rfl ?_)))))
      refine gd_tt (eq_c (fun c2 => ?_) (fun c2 => ?_))
      · refine pk_t (iff_t (lt_f (by omega) (iff_f ?_)))
        rw [stepR_some hrj ⟨c1, c2⟩ hlo] at hk
        refine dr_s h4.drop.drop.drop fun w5 h5 => ?_
        refine ixS_rd h5 0 rfl (fun g hg => (hr g hg).s) (fun _ => rfl) hrj fun a ha => ?_
        refine fld_of ha fun a1 ha1 => ?_
        refine ld1_of h5 0 rfl ha1 (v := .int .i64 r.Next) rfl ?_
        refine ixS_rd h5 0 rfl (fun g hg => (hr g hg).s) (fun _ => rfl) hrj fun a2 ha2 => ?_
        refine fld_of ha2 fun a3 ha3 => ?_
        refine ld1_of h5 0 rfl ha3 (v := r.sv) rfl ?_
        refine clone_outs_s (by have := hl2 r hrm; omega) (fun _ _ => ints_flat _) h5 (fun g hg => (hr g hg).e r hrm) fun v' w6 h6 => ?_
        exact ⟨ld1_of h6 1 rfl ha1 (v := .int .i64 r.Next) rfl ⟨rfl, rfl⟩, hk _ _ h6⟩
      · exact pk_t (iff_f (hnext fun h => c2 h.2))
    · repeat (first | refine gd_tt ?_ | refine gd_ff ?_ | refine gd_tf ?_ | refine gd_ft ?_ | refine gd_u ?_ | refine pk_t ?_ | refine pk_f ?_ | refine iff_t ?_ | refine iff_f ?_ | refine not_t ?_ | refine not_f ?_ | refine beq_s ?_ | refine bne_s ?_ | refine ncP_p ?_ | refine nc_p ?_ | refine fld_at ?_ | refine xt_02 ?_ | refine xt_12 ?_ | refine xt_03 ?_ | refine xt_13 ?_ | refine xt_23 ?_ | refine eq_t (by omega) ?_ | refine eq_f (by omega) ?_ | refine ne_t (by omega) ?_ | refine ne_f (by omega) ?_ | refine lt_t (by omega) ?_ | refine lt_f (by omega) ?_ | refine gt_t (by omega) ?_ | refine gt_f (by omega) ?_ | refine ge_t (by omega) ?_ | refine ge_f (by omega) ?_ | refine le_t (by omega) ?_ | refine le_f (by omega) ?_)
      exact hnext fun h => c1 h.1
  · have ej : j = l.length := by omega
    rw [ej, List.take_length] at hlo
    rw [stepR_none hlo] at hk
    refine lt_t (by omega) (iff_t ?_)
    exact hk _ _ (h3.drop.drop.own_nil 63 3 Out.cs)
end Go.Proofs.Ytfcnjbannejchaa
