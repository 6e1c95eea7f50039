/- What config.Check asks of a federation. Conditions: none. config.Check over a federation that reads from memory. Conditions: the lists are short. -/
import Derived.Test.YtenglfaeohgkfaaGreatSoloA
import Derived.Test.YtenglfaeohgkfaaGreatEngK
namespace Go.Proofs.YtenglfaeohgkfaaGreat
open Go Go.E
set_option maxRecDepth 100000
variable {e w : World} {L R : List HP} {K : KV} {S : HP}

/-! ### The laws of a federation -/
def okTree (ps : List Int) : Prop := 1 ≤ ps.length ∧ ps.length ≤ 16 ∧ ∀ (i : Nat) p, ps[i]? = some p → -1 ≤ p ∧ p < i
def okOut (o : Out) : Prop := 0 ≤ o.Class ∧ o.Class < 16 ∧ 0 ≤ o.Delay ∧ o.Delay < 1048577 ∧ 0 ≤ o.Add ∧ o.Add < 1000
def okRule (r : Rule) : Prop := 0 ≤ r.State ∧ r.State < 8 ∧ 0 ≤ r.Next ∧ r.Next < 8 ∧ 0 ≤ r.Class ∧ r.Class < 16 ∧ r.Sends.length ≤ 3 ∧ ∀ o ∈ r.Sends, okOut o
def onOf (r : Rule) : Int × Int := (r.State, r.Class)
def okRules (l : List Rule) : Prop := l.length ≤ 32 ∧ (∀ r ∈ l, okRule r) ∧ (l.map onOf).Nodup
/-- Rising, from above lo on, below most. -/
def rising (most : Int) : Int → List Int → Prop
  | _, [] => True
  | lo, c :: l => lo < c ∧ c < most ∧ rising most c l
/-- What the rules' sends break first. -/
def sendsE (f : Fed) : List Out → Int
  | [] => 0
  | o :: l => if o.Class ∉ f.Pubs then 81 else if o.Delay < f.Look then 80 else sendsE f l
def rulesE (f : Fed) (most : Int) : List Rule → Int
  | [] => 0
  | r :: l => if most ≤ r.Class then 81 else if sendsE f r.Sends ≠ 0 then sendsE f r.Sends else rulesE f most l
def okInit (f : Fed) : Prop := f.Init.length ≤ 4 ∧ ∀ o ∈ f.Init, o.Class ∈ f.Pubs ∧ 0 ≤ o.Delay ∧ o.Delay ≤ 1099511627776 ∧ 0 ≤ o.Add ∧ o.Add ≤ 999
open Classical in
noncomputable def fedEs (f : Fed) (most : Int) : List Int := [if 0 ≤ f.Kind ∧ f.Kind ≤ 1 then 0 else 1, if 1 ≤ f.Look ∧ f.Look ≤ 1048576 then 0 else 80, if 0 ≤ f.Start ∧ f.Start ≤ 7 then 0 else 70,
  if okRules f.Rules then 0 else 70, if rising most (-1) f.Pubs ∧ rising most (-1) f.Subs then 0 else 81, rulesE f most f.Rules, if okInit f then 0 else 82]
def firstE (l : List Int) : Int := (l.find? fun n => decide (n ≠ 0)).getD 0
theorem firstE_cons (a : Int) (l : List Int) : firstE (a :: l) = if a = 0 then firstE l else a := by
  unfold firstE
  by_cases h : a = 0 <;> simp [h]
theorem firstE_nil : firstE [] = 0 := rfl
noncomputable def fedE (f : Fed) (most : Int) : Int := firstE (fedEs f most)
open Classical in
noncomputable def treeE (ps : List Int) : Int := if okTree ps then 0 else 50
noncomputable def fedsE (most : Int) : Nat → List Fed → Int × Int
  | _, [] => (-1, 0)
  | i, f :: l => if fedE f most ≠ 0 then ((i : Int), fedE f most) else fedsE most (i + 1) l
noncomputable def checkW (x : Wd) : Int × Int :=
  if treeE x.Parents ≠ 0 then (-1, treeE x.Parents)
  else if ¬ ((0 ≤ x.End ∧ x.End ≤ 1099511627776) ∧ (1 ≤ (x.Feds.length : Int) ∧ (x.Feds.length : Int) ≤ 8)) then (-1, 1)
  else fedsE x.Parents.length 0 x.Feds

/-! ### Small functions -/
theorem within_s {n a b : Int} (hk : K (.bool (decide (a ≤ n ∧ n ≤ b))) w) : Cl prog 60 #[.int .i64 n, .int .i64 a, .int .i64 b] w K := by
  refine config_within_calls ?_
  unfold config_within
  by_cases c1 : a ≤ n
  · by_cases c2 : n ≤ b
    · rw [decide_eq_true ⟨c1, c2⟩] at hk
      repeat (first | refine gd_tt ?_ | refine gd_ff ?_ | refine gd_tf ?_ | refine gd_ft ?_ | refine gd_u ?_ | refine pk_t ?_ | refine pk_f ?_ | refine iff_t ?_ | refine iff_f ?_ | refine not_t ?_ | refine not_f ?_ | refine beq_s ?_ | refine bne_s ?_ | refine ncP_p ?_ | refine nc_p ?_ | refine fld_at ?_ | refine xt_02 ?_ | refine xt_12 ?_ | refine xt_03 ?_ | refine xt_13 ?_ | refine xt_23 ?_ | refine eq_t (by omega) ?_ | refine eq_f (by omega) ?_ | refine ne_t (by omega) ?_ | refine ne_f (by omega) ?_ | refine lt_t (by omega) ?_ | refine lt_f (by omega) ?_ | refine gt_t (by omega) ?_ | refine gt_f (by omega) ?_ | refine ge_t (by omega) ?_ | refine ge_f (by omega) ?_ | refine le_t (by omega) ?_ | refine le_f (by omega) ?_)
      exact hk
    · rw [decide_eq_false fun h => c2 h.2] at hk
      repeat (first | refine gd_tt ?_ | refine gd_ff ?_ | refine gd_tf ?_ | refine gd_ft ?_ | refine gd_u ?_ | refine pk_t ?_ | refine pk_f ?_ | refine iff_t ?_ | refine iff_f ?_ | refine not_t ?_ | refine not_f ?_ | refine beq_s ?_ | refine bne_s ?_ | refine ncP_p ?_ | refine nc_p ?_ | refine fld_at ?_ | refine xt_02 ?_ | refine xt_12 ?_ | refine xt_03 ?_ | refine xt_13 ?_ | refine xt_23 ?_ | refine eq_t (by omega) ?_ | refine eq_f (by omega) ?_ | refine ne_t (by omega) ?_ | refine ne_f (by omega) ?_ | refine lt_t (by omega) ?_ | refine lt_f (by omega) ?_ | refine gt_t (by omega) ?_ | refine gt_f (by omega) ?_ | refine ge_t (by omega) ?_ | refine ge_f (by omega) ?_ | refine le_t (by omega) ?_ | refine le_f (by omega) ?_)
      exact hk
  · rw [decide_eq_false fun h => c1 h.1] at hk
    repeat (first | refine gd_tt ?_ | refine gd_ff ?_ | refine gd_tf ?_ | refine gd_ft ?_ | refine gd_u ?_ | refine pk_t ?_ | refine pk_f ?_ | refine iff_t ?_ | refine iff_f ?_ | refine not_t ?_ | refine not_f ?_ | refine beq_s ?_ | refine bne_s ?_ | refine ncP_p ?_ | refine nc_p ?_ | refine fld_at ?_ | refine xt_02 ?_ | refine xt_12 ?_ | refine xt_03 ?_ | refine xt_13 ?_ | refine xt_23 ?_ | refine eq_t (by omega) ?_ | refine eq_f (by omega) ?_ | refine ne_t (by omega) ?_ | refine ne_f (by omega) ?_ | refine lt_t (by omega) ?_ | refine lt_f (by omega) ?_ | refine gt_t (by omega) ?_ | refine gt_f (by omega) ?_ | refine ge_t (by omega) ?_ | refine ge_f (by omega) ?_ | refine le_t (by omega) ?_ | refine le_f (by omega) ?_)
    exact hk
theorem below_s {n m : Int} (hn : i64 n) (h0 : 0 ≤ m) (h1 : m ≤ 4611686018427387904) (hk : K (.bool (decide (0 ≤ n ∧ n < m))) w) : Cl prog 119 #[.int .i64 n, .int .i64 m] w K := by
  refine table_below_calls ?_
  unfold table_below
  have hn' := In64.of_wf hn
  have hm : In64 m := by unfold In64; omega
  refine cv_s (cv_s ?_)
  rw [wrap_u64 hn', wrap_u64 hm, if_pos h0]
  unfold In64 at hn'
  by_cases c1 : 0 ≤ n
  · rw [if_pos c1]
    by_cases c2 : n < m
    · rw [decide_eq_true ⟨c1, c2⟩] at hk
      exact lt_t c2 hk
    · rw [decide_eq_false fun h => c2 h.2] at hk
      exact lt_f c2 hk
  · rw [if_neg c1, decide_eq_false fun h => c1 h.1] at *
    exact lt_f (by omega) hk
theorem index_s {v : Value} {l : List Int} {x : Int} (i : Nat) (hi : L[i]? = some S) (hS : Sat e w L) (hr : ∀ g, S g → rdS 1 (intsK .i64) v l g) (hl : l.length ≤ 1000000) (h1 : x ∈ l → ∀ j : Nat, K (.int .i64 j) w) (h2 : x ∉ l → K (.int .i64 (-1)) w) : Cl prog 117 #[v, .int .i64 x] w K := by
  refine slices_Index_int_int_calls ?_
  unfold slices_Index_int_int
  refine lnS_rd hS i hi hr ?_
  refine lpi1 (fun q t8 w' => ∃ j : Nat, j ≤ l.length ∧ t8 = .int .i64 j ∧ q = l.length - j ∧ x ∉ l.take j ∧ w' = w) l.length ⟨0, Nat.zero_le _, rfl, rfl, by simp, rfl⟩ ?_
  rintro q _ w' g ⟨j, hj, rfl, rfl, hno, rfl⟩ hg
  refine lt_c (fun c => iff_t ?_) (fun c => iff_f ?_)
  · obtain ⟨y, hy⟩ := get_of_lt (l := l) (j := j) (by omega)
    refine ixS_rd hS i hi hr (fun _ => rfl) hy fun a ha => ?_
    refine ld1_of hS i hi ha (v := .int .i64 y) rfl ?_
    refine eq_c (fun c2 => iff_t ?_) (fun c2 => iff_f ?_)
    · exact h1 (c2 ▸ List.mem_of_getElem? hy) j
    · refine inc_s (by omega) ?_
      refine hg _ _ _ (by omega) ⟨j + 1, by omega, rfl, rfl, ?_, rfl⟩
      rw [List.take_add_one, hy]
      simp [hno, c2]
  · have ej : j = l.length := by omega
    rw [ej, List.take_length] at hno
    exact h2 hno
theorem contains_s {v : Value} {l : List Int} {x : Int} (i : Nat) (hi : L[i]? = some S) (hS : Sat e w L) (hr : ∀ g, S g → rdS 1 (intsK .i64) v l g) (hl : l.length ≤ 1000000) (hk : K (.bool (decide (x ∈ l))) w) : Cl prog 93 #[v, .int .i64 x] w K := by
  refine slices_Contains_int_int_calls ?_
  unfold slices_Contains_int_int
  refine index_s i hi hS hr hl (fun h j => ?_) (fun h => ?_)
  · rw [decide_eq_true h] at hk
    exact ge_t (by omega) hk
  · rw [decide_eq_false h] at hk
    exact ge_f (by omega) hk

/-! ### Tries -/
abbrev unV (c d : Nat) : Value := .func (.func 90) #[] #[.pointer (some ⟨c, 0, none⟩), .pointer (some ⟨d, 0, none⟩)]
def UN (c d : Nat) (b : Bool) (er : Int) : HP := sepL [blk c 4 [.bool b], blk d 33 [.int .i64 er]]
theorem unless_s {b : Bool} {er : Int} (hS : Sat e w L) (hk : ∀ c d w', Sat e w' (UN c d b er :: L) → K (unV c d) w') : Cl prog 59 #[.bool b, .int .i64 er] w K := by
  refine config_unless_calls ?_
  unfold config_unless
  refine al_s (cs := [.bool b]) hS rfl fun c w1 h1 => ?_
  refine al_s (cs := [.int .i64 er]) h1 rfl fun d w2 h2 => ?_
  exact hk _ _ _ (Sat.join (l' := [_, _]) h2.swap)
theorem unless1_s {c d : Nat} {b : Bool} {er : Int} (i : Nat) (hi : L[i]? = some (UN c d b er)) (hS : Sat e w L) (hk : K (.int .i64 (if b = true then 0 else er)) w) : clV prog (unV c d) #[] w K := by
  refine ⟨_, _, _, rfl, ?_⟩
  refine config_unless_1_calls (t0 := .pointer (some ⟨c, 0, none⟩)) (t1 := .pointer (some ⟨d, 0, none⟩)) ?_
  unfold config_unless_1
  have h1 := (hS.pick i hi).split
  refine ld1_at h1 0 rfl rfl ?_
  cases b with
  | true => exact iff_t hk
  | false => exact iff_f (ld1_at h1 1 rfl rfl hk)
/-- What the tries come to, one behind the other. -/
theorem first_s {v : Value} {fs : List Value} {Es : List Int} (i : Nat) (hi : L[i]? = some S) (hS : Sat e w L) (hr : ∀ g, S g → rdS 1 (fun v => [v]) v fs g) (hl : fs.length ≤ 1000) (hE : Es.length = fs.length)
    (hc : ∀ (j : Nat) fv E, fs[j]? = some fv → Es[j]? = some E → (∀ E' ∈ Es.take j, E' = 0) → ∀ (w : World) (K : KV), Sat e w L → (∀ w', Sat e w' L → K (.int .i64 E) w') → clV prog fv #[] w K)
    (hk : ∀ w', Sat e w' L → K (.int .i64 (firstE Es)) w') : Cl prog 56 #[v] w K := by
  refine config_first_calls ?_
  unfold config_first
  refine lnS_rd hS i hi hr ?_
  refine lpi1 (fun q t8 w' => ∃ j : Nat, j ≤ fs.length ∧ t8 = .int .i64 j ∧ q = fs.length - j ∧ (∀ E' ∈ Es.take j, E' = 0) ∧ Sat e w' L) fs.length ⟨0, Nat.zero_le _, rfl, rfl, by simp, hS⟩ ?_
  rintro q _ w' g ⟨j, hj, rfl, rfl, hno, h1⟩ hg
  have hz : ∀ (l1 l2 : List Int), (∀ E' ∈ l1, E' = 0) → firstE (l1 ++ l2) = firstE l2 := by
    intro l1 l2 h
    induction l1 with
    | nil => rfl
    | cons a l1 ih => rw [List.cons_append, firstE_cons, if_pos (h a (by simp)), ih fun x hx => h x (by simp [hx])]
  refine lt_c (fun c => iff_t ?_) (fun c => iff_f ?_)
  · obtain ⟨fv, hf⟩ := get_of_lt (l := fs) (j := j) (by omega)
    obtain ⟨E, hE'⟩ := get_of_lt (l := Es) (j := j) (by omega)
    refine ixS_rd h1 i hi hr (fun _ => rfl) hf fun a ha => ?_
    refine ld1_of h1 i hi ha (v := fv) rfl ?_
    refine hc j fv E hf hE' hno _ _ h1 fun w2 h2 => ?_
    have hsp : Es = Es.take j ++ E :: Es.drop (j + 1) := by
      rw [← drop_cons hE', List.take_append_drop]
    refine ne_c (fun c2 => iff_t ?_) (fun c2 => iff_f ?_)
    · have := hk _ h2
      rw [hsp, hz _ _ hno, firstE_cons, if_neg c2] at this
      exact this
    · refine inc_s (by omega) ?_
      refine hg _ _ _ (by omega) ⟨j + 1, by omega, rfl, rfl, ?_, h2⟩
      intro E' hE2
      rw [List.take_add_one, hE'] at hE2
      rcases List.mem_append.1 hE2 with h | h
      · exact hno E' h
      · simp at h; rw [h]; exact c2
  · have ej : j = fs.length := by omega
    have := hk _ h1
    rw [ej, ← hE, List.take_length] at hno
    rw [← List.append_nil Es, hz _ _ hno] at this
    exact this
end Go.Proofs.YtenglfaeohgkfaaGreat
namespace Go.Proofs.YtenglfaeohgkfaaGreat
open Go Go.E
set_option maxRecDepth 100000
variable {e w : World} {L R : List HP} {K : KV} {S : HP}

theorem lkM_f {κ ν : Type} [DecidableEq κ] {kf : κ → Value} {vf : ν → Value} {t kt vt : TypeId} {zv : Value} {b : Nat} {m : List (κ × ν)} (KT : KeyT prog kt kf) (MT : MapT prog t kt vt zv) (hS : Sat e w L) (i : Nat) (hi : L[i]? = some (isMap kf vf b m)) (k : κ)
    (hk : K (match lkA m k with | some x => vf x | none => zv) w) : lkM prog t (.map (some b)) (kf k) false w K := by
  obtain ⟨es, clock, h1, h2, h3⟩ := hS.getMap i hi
  obtain ⟨inf, hi1, hi2⟩ := MT.zero
  refine ex_oV (w' := w) ?_ hk
  have hf := KT.fnd k es.toList (m.map (·.1)) (es_keys h2) w
  unfold Instr.lookup
  simp only [Sem.run_bind, run_und MT.und, Result.andThen_ok, run_getObj h1, Sem.run_pure, KT.chk, hf]
  have hl := fidx_lk m k
  cases hx : (m.map (·.1)).findIdx? (fun x => decide (x = k)) with
  | none =>
    rw [hx] at hl
    simp only [Option.bind_none] at hl ⊢
    rw [← hl]
    simp only [Sem.run_bind, run_zero hi1 hi2, Result.andThen_ok, Sem.run_pure]
    rfl
  | some j =>
    rw [hx] at hl
    simp only [Option.bind_some] at hl ⊢
    have hv := es_val h2 j
    have hjl : j < m.length := by
      obtain ⟨hj, _⟩ := List.findIdx?_eq_some_iff_getElem.1 hx
      simpa using hj
    rw [List.getElem?_eq_getElem hjl] at hv hl
    simp only [Option.map_some] at hv hl
    obtain ⟨e', he, hev⟩ := Option.map_eq_some_iff.1 hv
    rw [he, ← hl]
    simp only [Option.map_some, hev]
    rfl
theorem tree_Check_s {v : Value} {l : List Int} (i : Nat) (hi : L[i]? = some S) (hS : Sat e w L) (hr : ∀ g, S g → rdS 1 (intsK .i64) v l g) (hk : K (.int .i64 (treeE l)) w) : Cl prog 58 #[v] w K := by
  refine tree_Check_calls ?_
  unfold tree_Check
  have hbad : ¬ okTree l → K (.int .i64 50) w := fun h => by unfold treeE at hk; rw [if_neg h] at hk; exact hk
  refine lnS_rd hS i hi hr ?_
  by_cases c1 : 1 ≤ l.length
  · by_cases c2 : l.length ≤ 16
    · repeat (first | refine gd_tt ?_ | refine gd_ff ?_ | refine gd_tf ?_ | refine gd_ft ?_ | refine gd_u ?_ | refine pk_t ?_ | refine pk_f ?_ | refine iff_t ?_ | refine iff_f ?_ | refine not_t ?_ | refine not_f ?_ | refine beq_s ?_ | refine bne_s ?_ | refine ncP_p ?_ | refine nc_p ?_ | refine fld_at ?_ | refine xt_02 ?_ | refine xt_12 ?_ | refine xt_03 ?_ | refine xt_13 ?_ | refine xt_23 ?_ | refine eq_t (by omega) ?_ | refine eq_f (by omega) ?_ | refine ne_t (by omega) ?_ | refine ne_f (by omega) ?_ | refine lt_t (by omega) ?_ | refine lt_f (by omega) ?_ | refine gt_t (by omega) ?_ | refine gt_f (by omega) ?_ | refine ge_t (by omega) ?_ | refine ge_f (by omega) ?_ | refine le_t (by omega) ?_ | refine le_f (by omega) ?_)
      refine lnS_rd hS i hi hr ?_
      refine lpi1 (fun q t8 w' => ∃ j : Nat, j ≤ l.length ∧ t8 = .int .i64 j ∧ q = l.length - j ∧ (∀ (i : Nat) p, i < j → l[i]? = some p → -1 ≤ p ∧ p < i) ∧ w' = w) l.length ⟨0, Nat.zero_le _, rfl, rfl, fun _ _ h => absurd h (by omega), rfl⟩ ?_
      rintro q _ w' g ⟨j, hj, rfl, rfl, hno, rfl⟩ hg
      refine lt_c (fun c => iff_t ?_) (fun c => iff_f ?_)
      · obtain ⟨y, hy⟩ := get_of_lt (l := l) (j := j) (by omega)
        refine ixS_rd hS i hi hr (fun _ => rfl) hy fun a ha => ?_
        refine ld1_of hS i hi ha (v := .int .i64 y) rfl ?_
        by_cases c3 : y < -1
        · repeat (first | refine gd_tt ?_ | refine gd_ff ?_ | refine gd_tf ?_ | refine gd_ft ?_ | refine gd_u ?_ | refine pk_t ?_ | refine pk_f ?_ | refine iff_t ?_ | refine iff_f ?_ | refine not_t ?_ | refine not_f ?_ | refine beq_s ?_ | refine bne_s ?_ | refine ncP_p ?_ | refine nc_p ?_ | refine fld_at ?_ | refine xt_02 ?_ | refine xt_12 ?_ | refine xt_03 ?_ | refine xt_13 ?_ | refine xt_23 ?_ | refine eq_t (by omega) ?_ | refine eq_f (by omega) ?_ | refine ne_t (by omega) ?_ | refine ne_f (by omega) ?_ | refine lt_t (by omega) ?_ | refine lt_f (by omega) ?_ | refine gt_t (by omega) ?_ | refine gt_f (by omega) ?_ | refine ge_t (by omega) ?_ | refine ge_f (by omega) ?_ | refine le_t (by omega) ?_ | refine le_f (by omega) ?_)
          exact hbad fun h => by have := h.2.2 j y hy; omega
        · by_cases c4 : (j : Int) ≤ y
          · repeat (first | refine gd_tt ?_ | refine gd_ff ?_ | refine gd_tf ?_ | refine gd_ft ?_ | refine gd_u ?_ | refine pk_t ?_ | refine pk_f ?_ | refine iff_t ?_ | refine iff_f ?_ | refine not_t ?_ | refine not_f ?_ | refine beq_s ?_ | refine bne_s ?_ | refine ncP_p ?_ | refine nc_p ?_ | refine fld_at ?_ | refine xt_02 ?_ | refine xt_12 ?_ | refine xt_03 ?_ | refine xt_13 ?_ | refine xt_23 ?_ | refine eq_t (by omega) ?_ | refine eq_f (by omega) ?_ | refine ne_t (by omega) ?_ | refine ne_f (by omega) ?_ | refine lt_t (by omega) ?_ | refine lt_f (by omega) ?_ | refine gt_t (by omega) ?_ | refine gt_f (by omega) ?_ | refine ge_t (by omega) ?_ | refine ge_f (by omega) ?_ | refine le_t (by omega) ?_ | refine le_f (by omega) ?_)
            exact hbad fun h => by have := h.2.2 j y hy; omega
          · repeat (first | refine gd_tt ?_ | refine gd_ff ?_ | refine gd_tf ?_ | refine gd_ft ?_ | refine gd_u ?_ | refine pk_t ?_ | refine pk_f ?_ | refine iff_t ?_ | refine iff_f ?_ | refine not_t ?_ | refine not_f ?_ | refine beq_s ?_ | refine bne_s ?_ | refine ncP_p ?_ | refine nc_p ?_ | refine fld_at ?_ | refine xt_02 ?_ | refine xt_12 ?_ | refine xt_03 ?_ | refine xt_13 ?_ | refine xt_23 ?_ | refine eq_t (by omega) ?_ | refine eq_f (by omega) ?_ | refine ne_t (by omega) ?_ | refine ne_f (by omega) ?_ | refine lt_t (by omega) ?_ | refine lt_f (by omega) ?_ | refine gt_t (by omega) ?_ | refine gt_f (by omega) ?_ | refine ge_t (by omega) ?_ | refine ge_f (by omega) ?_ | refine le_t (by omega) ?_ | refine le_f (by omega) ?_)
            refine inc_s (by omega) ?_
            refine hg _ _ _ (by omega) ⟨j + 1, by omega, rfl, rfl, fun i p hi hp => ?_, rfl⟩
            by_cases h : i = j
            · subst h
              rw [hy] at hp
              cases hp
              omega
            · exact hno i p (by omega) hp
      · have ej : j = l.length := by omega
        unfold treeE at hk
        rw [if_pos ⟨c1, c2, fun i p hp => hno i p (by have := (List.getElem?_eq_some_iff.1 hp).1; omega) hp⟩] at hk
        exact hk
    · repeat (first | refine gd_tt ?_ | refine gd_ff ?_ | refine gd_tf ?_ | refine gd_ft ?_ | refine gd_u ?_ | refine pk_t ?_ | refine pk_f ?_ | refine iff_t ?_ | refine iff_f ?_ | refine not_t ?_ | refine not_f ?_ | refine beq_s ?_ | refine bne_s ?_ | refine ncP_p ?_ | refine nc_p ?_ | refine fld_at ?_ | refine xt_02 ?_ | refine xt_12 ?_ | refine xt_03 ?_ | refine xt_13 ?_ | refine xt_23 ?_ | refine eq_t (by omega) ?_ | refine eq_f (by omega) ?_ | refine ne_t (by omega) ?_ | refine ne_f (by omega) ?_ | refine lt_t (by omega) ?_ | refine lt_f (by omega) ?_ | refine gt_t (by omega) ?_ | refine gt_f (by omega) ?_ | refine ge_t (by omega) ?_ | refine ge_f (by omega) ?_ | refine le_t (by omega) ?_ | refine le_f (by omega) ?_)
      exact hbad fun h => c2 h.2.1
  · repeat (first | refine gd_tt ?_ | refine gd_ff ?_ | refine gd_tf ?_ | refine gd_ft ?_ | refine gd_u ?_ | refine pk_t ?_ | refine pk_f ?_ | refine iff_t ?_ | refine iff_f ?_ | refine not_t ?_ | refine not_f ?_ | refine beq_s ?_ | refine bne_s ?_ | refine ncP_p ?_ | refine nc_p ?_ | refine fld_at ?_ | refine xt_02 ?_ | refine xt_12 ?_ | refine xt_03 ?_ | refine xt_13 ?_ | refine xt_23 ?_ | refine eq_t (by omega) ?_ | refine eq_f (by omega) ?_ | refine ne_t (by omega) ?_ | refine ne_f (by omega) ?_ | refine lt_t (by omega) ?_ | refine lt_f (by omega) ?_ | refine gt_t (by omega) ?_ | refine gt_f (by omega) ?_ | refine ge_t (by omega) ?_ | refine ge_f (by omega) ?_ | refine le_t (by omega) ?_ | refine le_f (by omega) ?_)
    exact hbad fun h => c1 h.1

/-! ### The rules of a table -/
theorem odd1_s {o : Out} (ho : o.wf) (hS : Sat e w R) (hk : ∀ w', Sat e w' R → ∀ b : Bool, (b = true ↔ ¬ okOut o) → K (.bool b) w') : clV prog (.func (.func 118) #[] #[]) #[.agg o.cs.toArray] w K := by
  refine ⟨_, _, _, rfl, ?_⟩
  refine table_Check_1_calls (t0 := .agg o.cs.toArray) ?_
  unfold table_Check_1
  obtain ⟨w1, w2, w3⟩ := ho
  refine al_s (cs := o.cs) hS rfl fun b2 w1' h1 => ?_
  have hk := hk w1' h1.drop
  repeat (first | refine gd_tt ?_ | refine gd_ff ?_ | refine gd_tf ?_ | refine gd_ft ?_ | refine gd_u ?_ | refine pk_t ?_ | refine pk_f ?_ | refine iff_t ?_ | refine iff_f ?_ | refine not_t ?_ | refine not_f ?_ | refine beq_s ?_ | refine bne_s ?_ | refine ncP_p ?_ | refine nc_p ?_ | refine fld_at ?_ | refine xt_02 ?_ | refine xt_12 ?_ | refine xt_03 ?_ | refine xt_13 ?_ | refine xt_23 ?_ | refine eq_t (by omega) ?_ | refine eq_f (by omega) ?_ | refine ne_t (by omega) ?_ | refine ne_f (by omega) ?_ | refine lt_t (by omega) ?_ | refine lt_f (by omega) ?_ | refine gt_t (by omega) ?_ | refine gt_f (by omega) ?_ | refine ge_t (by omega) ?_ | refine ge_f (by omega) ?_ | refine le_t (by omega) ?_ | refine le_f (by omega) ?_)
  refine ld1_at h1 0 rfl (v := .int .i64 o.Class) rfl ?_
  refine below_s w1 (by decide) (by decide) ?_
  refine not_d ?_
  by_cases c1 : 0 ≤ o.Class ∧ o.Class < 16
  · rw [decide_eq_true c1, Bool.not_true]
    repeat (first | refine gd_tt ?_ | refine gd_ff ?_ | refine gd_tf ?_ | refine gd_ft ?_ | refine gd_u ?_ | refine pk_t ?_ | refine pk_f ?_ | refine iff_t ?_ | refine iff_f ?_ | refine not_t ?_ | refine not_f ?_ | refine beq_s ?_ | refine bne_s ?_ | refine ncP_p ?_ | refine nc_p ?_ | refine fld_at ?_ | refine xt_02 ?_ | refine xt_12 ?_ | refine xt_03 ?_ | refine xt_13 ?_ | refine xt_23 ?_ | refine eq_t (by omega) ?_ | refine eq_f (by omega) ?_ | refine ne_t (by omega) ?_ | refine ne_f (by omega) ?_ | refine lt_t (by omega) ?_ | refine lt_f (by omega) ?_ | refine gt_t (by omega) ?_ | refine gt_f (by omega) ?_ | refine ge_t (by omega) ?_ | refine ge_f (by omega) ?_ | refine le_t (by omega) ?_ | refine le_f (by omega) ?_)
    refine ld1_at h1 0 rfl (v := .int .i64 o.Delay) rfl ?_
    refine gd_ff (below_s w2 (by decide) (by decide) ?_)
    refine gd_ff (not_d ?_)
    by_cases c2 : 0 ≤ o.Delay ∧ o.Delay < 1048577
    · rw [decide_eq_true c2, Bool.not_true]
      repeat (first | refine gd_tt ?_ | refine gd_ff ?_ | refine gd_tf ?_ | refine gd_ft ?_ | refine gd_u ?_ | refine pk_t ?_ | refine pk_f ?_ | refine iff_t ?_ | refine iff_f ?_ | refine not_t ?_ | refine not_f ?_ | refine beq_s ?_ | refine bne_s ?_ | refine ncP_p ?_ | refine nc_p ?_ | refine fld_at ?_ | refine xt_02 ?_ | refine xt_12 ?_ | refine xt_03 ?_ | refine xt_13 ?_ | refine xt_23 ?_ | refine eq_t (by omega) ?_ | refine eq_f (by omega) ?_ | refine ne_t (by omega) ?_ | refine ne_f (by omega) ?_ | refine lt_t (by omega) ?_ | refine lt_f (by omega) ?_ | refine gt_t (by omega) ?_ | refine gt_f (by omega) ?_ | refine ge_t (by omega) ?_ | refine ge_f (by omega) ?_ | refine le_t (by omega) ?_ | refine le_f (by omega) ?_)
      refine ld1_at h1 0 rfl (v := .int .i64 o.Add) rfl ?_
      refine gd_ff (below_s w3 (by decide) (by decide) ?_)
      refine gd_ff (not_d (pk_f ?_))
      refine hk _ ?_
      unfold okOut
      by_cases c3 : 0 ≤ o.Add ∧ o.Add < 1000
      · simp [c1, c2, c3]
      · rw [decide_eq_false c3]
        simp only [Bool.not_false, true_iff]
        exact fun h => c3 h.2.2.2.2
    · rw [decide_eq_false c2, Bool.not_false]
      repeat (first | refine gd_tt ?_ | refine gd_ff ?_ | refine gd_tf ?_ | refine gd_ft ?_ | refine gd_u ?_ | refine pk_t ?_ | refine pk_f ?_ | refine iff_t ?_ | refine iff_f ?_ | refine not_t ?_ | refine not_f ?_ | refine beq_s ?_ | refine bne_s ?_ | refine ncP_p ?_ | refine nc_p ?_ | refine fld_at ?_ | refine xt_02 ?_ | refine xt_12 ?_ | refine xt_03 ?_ | refine xt_13 ?_ | refine xt_23 ?_ | refine eq_t (by omega) ?_ | refine eq_f (by omega) ?_ | refine ne_t (by omega) ?_ | refine ne_f (by omega) ?_ | refine lt_t (by omega) ?_ | refine lt_f (by omega) ?_ | refine gt_t (by omega) ?_ | refine gt_f (by omega) ?_ | refine ge_t (by omega) ?_ | refine ge_f (by omega) ?_ | refine le_t (by omega) ?_ | refine le_f (by omega) ?_)
      exact hk _ ⟨fun _ (h : okOut o) => c2 ⟨h.2.2.1, h.2.2.2.1⟩, fun _ => rfl⟩
  · rw [decide_eq_false c1, Bool.not_false]
    repeat (first | refine gd_tt ?_ | refine gd_ff ?_ | refine gd_tf ?_ | refine gd_ft ?_ | refine gd_u ?_ | refine pk_t ?_ | refine pk_f ?_ | refine iff_t ?_ | refine iff_f ?_ | refine not_t ?_ | refine not_f ?_ | refine beq_s ?_ | refine bne_s ?_ | refine ncP_p ?_ | refine nc_p ?_ | refine fld_at ?_ | refine xt_02 ?_ | refine xt_12 ?_ | refine xt_03 ?_ | refine xt_13 ?_ | refine xt_23 ?_ | refine eq_t (by omega) ?_ | refine eq_f (by omega) ?_ | refine ne_t (by omega) ?_ | refine ne_f (by omega) ?_ | refine lt_t (by omega) ?_ | refine lt_f (by omega) ?_ | refine gt_t (by omega) ?_ | refine gt_f (by omega) ?_ | refine ge_t (by omega) ?_ | refine ge_f (by omega) ?_ | refine le_t (by omega) ?_ | refine le_f (by omega) ?_)
    exact hk _ ⟨fun _ h => c1 ⟨h.1, h.2.1⟩, fun _ => rfl⟩
/-- ContainsFunc over sends, of a predicate that a closure tells. -/
theorem containsOut_s {v fv : Value} {l : List Out} {p : Out → Prop} (i : Nat) (hi : L[i]? = some S) (hS : Sat e w L) (hr : ∀ g, S g → rdS 3 Out.cs v l g) (hl : l.length ≤ 1000000)
    (hp : ∀ o ∈ l, ∀ (w : World) (K : KV), Sat e w L → (∀ w', Sat e w' L → ∀ b : Bool, (b = true ↔ p o) → K (.bool b) w') → clV prog fv #[.agg o.cs.toArray] w K)
    (hk : ∀ w', Sat e w' L → ∀ b : Bool, (b = true ↔ ∃ o ∈ l, p o) → K (.bool b) w') : Cl prog 97 #[v, fv] w K := by
  refine slices_ContainsFunc_api_Out_api_Out_calls ?_
  unfold slices_ContainsFunc_api_Out_api_Out
  refine slices_IndexFunc_api_Out_api_Out_calls ?_
  unfold slices_IndexFunc_api_Out_api_Out
  refine lnS_rd hS i hi hr ?_
  refine lpi1 (fun q t8 w => ∃ j : Nat, j ≤ l.length ∧ t8 = .int .i64 j ∧ q = l.length - j ∧ (∀ o ∈ l.take j, ¬ p o) ∧ Sat e w L) l.length ⟨0, Nat.zero_le _, rfl, rfl, by simp, hS⟩ ?_
  rintro q _ w g ⟨j, hj, rfl, rfl, hno, h1⟩ hg
  refine lt_c (fun c => iff_t ?_) (fun c => iff_f ?_)
  · obtain ⟨o, ho⟩ := get_of_lt (l := l) (j := j) (by omega)
    refine ixS_rd h1 i hi hr (fun _ => rfl) ho fun a ha => ?_
    refine ldN_of h1 i hi ha rfl ?_
    refine hp o (List.mem_of_getElem? ho) _ _ h1 fun w2 h2 b hb => ?_
    cases b with
    | true => exact iff_t (ge_t (by omega) (hk _ h2 true ⟨fun _ => ⟨o, List.mem_of_getElem? ho, hb.1 rfl⟩, fun _ => rfl⟩))
    | false =>
      refine iff_f (inc_s (by omega) ?_)
      refine hg _ _ _ (by omega) ⟨j + 1, by omega, rfl, rfl, fun y hy => ?_, h2⟩
      rw [List.take_add_one, ho] at hy
      rcases List.mem_append.1 hy with h | h
      · exact hno y h
      · simp at h
        subst h
        exact fun h => by have := hb.2 h; cases this
  · have ej : j = l.length := by omega
    rw [ej, List.take_length] at hno
    exact ge_f (by omega) (hk _ h1 false ⟨(fun h => by cases h), fun ⟨o, ho, hpo⟩ => absurd hpo (hno o ho)⟩)

structure OnK where
  s : Int
  c : Int
  deriving DecidableEq
def OnK.ns (x : OnK) : List Int := [x.s, x.c]
def kfO (x : OnK) : Value := .agg (ints x.ns).toArray
def vfB (b : Bool) : Value := .bool b
theorem OnK.eq_ns (a b : OnK) : (a.ns == b.ns) = decide (a = b) := by
  rw [Bool.eq_iff_iff]
  obtain ⟨a0, a1⟩ := a
  obtain ⟨b0, b1⟩ := b
  simp [OnK.ns]
theorem keyT_On : KeyT prog 162 kfO :=
  keyT_chk (κ := OnK) (ns := OnK.ns) (n := 6) Tryz.underlying162 eqT_162 agg_162 (by decide) (fun _ => rfl) OnK.eq_ns (fun b k w => by cases b <;> kernel_rfl)
def onK (r : RuleX) : OnK := ⟨r.State, r.Class⟩
theorem okRules_x {l : List RuleX} : okRules (l.map RuleX.r) ↔ l.length ≤ 32 ∧ (∀ r ∈ l, okRule r.r) ∧ (l.map onK).Nodup := by
  unfold okRules
  rw [List.length_map, List.map_map]
  refine and_congr Iff.rfl (and_congr ⟨fun h r hr => h _ (List.mem_map_of_mem hr), fun h r hr => ?_⟩ ?_)
  · obtain ⟨x, hx, rfl⟩ := List.mem_map.1 hr
    exact h x hx
  · rw [List.nodup_iff_pairwise_ne, List.nodup_iff_pairwise_ne, List.pairwise_map, List.pairwise_map]
    constructor
    · refine fun h => h.imp fun hne e => hne ?_
      simp only [onK, OnK.mk.injEq] at e
      simp only [Function.comp, onOf, RuleX.r, e]
    · refine fun h => h.imp fun hne e => hne ?_
      simp only [Function.comp, onOf, RuleX.r, Prod.mk.injEq] at e
      simp only [onK, e]
theorem nodup_at {α β : Type} {f : α → β} {l : List α} {j : Nat} {x : α} (h : (l.map f).Nodup) (hx : l[j]? = some x) : f x ∉ (l.take j).map f := by
  have hsp : l = l.take j ++ x :: l.drop (j + 1) := by rw [← drop_cons hx, List.take_append_drop]
  rw [hsp, List.map_append, List.map_cons, List.nodup_append] at h
  intro hm
  exact h.2.2 _ hm _ List.mem_cons_self rfl
theorem nodup_take {α β : Type} {f : α → β} {l : List α} {j : Nat} {x : α} (h : ((l.take j).map f).Nodup) (hx : l[j]? = some x) (hn : f x ∉ (l.take j).map f) : ((l.take (j + 1)).map f).Nodup := by
  rw [List.take_add_one, hx, Option.toList_some, List.map_append, List.nodup_append]
  refine ⟨h, by simp, fun a ha b hb => ?_⟩
  simp at hb
  subst hb
  exact fun e => hn (e ▸ ha)
open Classical in
theorem table_Check_s {v : Value} {l : List RuleX} (i : Nat) (hi : L[i]? = some S) (hS : Sat e w L) (hr : ∀ g, S g → RdRules v l g) (hwf : ∀ r ∈ l, r.wf) (hl : ∀ r ∈ l, r.Sends.length ≤ 1000000) (hk : ∀ w', Sat e w' L → K (.int .i64 (if okRules (l.map RuleX.r) then 0 else 70)) w') :
    Cl prog 96 #[v] w K := by
  refine table_Check_calls ?_
  unfold table_Check
  have hbad : ¬ okRules (l.map RuleX.r) → ∀ w', Sat e w' L → K (.int .i64 70) w' := fun h w' h' => by have := hk w' h'; rw [if_neg h] at this; exact this
  refine lnS_rd hS i hi (fun g hg => (hr g hg).s) ?_
  by_cases c1 : 32 < l.length
  · repeat (first | refine gd_tt ?_ | refine gd_ff ?_ | refine gd_tf ?_ | refine gd_ft ?_ | refine gd_u ?_ | refine pk_t ?_ | refine pk_f ?_ | refine iff_t ?_ | refine iff_f ?_ | refine not_t ?_ | refine not_f ?_ | refine beq_s ?_ | refine bne_s ?_ | refine ncP_p ?_ | refine nc_p ?_ | refine fld_at ?_ | refine xt_02 ?_ | refine xt_12 ?_ | refine xt_03 ?_ | refine xt_13 ?_ | refine xt_23 ?_ | refine eq_t (by omega) ?_ | refine eq_f (by omega) ?_ | refine ne_t (by omega) ?_ | refine ne_f (by omega) ?_ | refine lt_t (by omega) ?_ | refine lt_f (by omega) ?_ | refine gt_t (by omega) ?_ | refine gt_f (by omega) ?_ | refine ge_t (by omega) ?_ | refine ge_f (by omega) ?_ | refine le_t (by omega) ?_ | refine le_f (by omega) ?_)
    exact hbad (fun h => by have := h.1; rw [List.length_map] at this; omega) _ hS
  refine gt_f (by omega) (iff_f ?_)
  refine mkMap_s kfO vfB hS fun mb w1 h1 => ?_
  refine lnS_rd h1 (i + 1) (by simpa using hi) (fun g hg => (hr g hg).s) ?_
  refine lpi1 (fun q t14 w => ∃ (j : Nat) (m : List (OnK × Bool)), j ≤ l.length ∧ t14 = .int .i64 j ∧ q = l.length - j ∧ (∀ r ∈ l.take j, okRule r.r) ∧ ((l.take j).map onK).Nodup ∧ Uniq m ∧ (∀ k, lkA m k = if k ∈ (l.take j).map onK then some true else none) ∧ Sat e w (isMap kfO vfB mb m :: L)) l.length
    ⟨0, [], Nat.zero_le _, rfl, rfl, by simp, by simp, by simp [Uniq], by simp [lkA], h1⟩ ?_
  rintro q _ w g ⟨j, m, hj, rfl, rfl, hall, hnd, hu, hlk, h2⟩ hg
  refine lt_c (fun c => iff_t ?_) (fun c => iff_f ?_)
  · obtain ⟨r, hrj⟩ := get_of_lt (l := l) (j := j) (by omega)
    have hrm := List.mem_of_getElem? hrj
    obtain ⟨f1, f2, f3, f4⟩ := hwf r hrm
    have hi1 : (isMap kfO vfB mb m :: L)[i + 1]? = some S := by simpa using hi
    refine ixS_rd h2 (i + 1) hi1 (fun g hg => (hr g hg).s) (fun _ => rfl) hrj fun a ha => ?_
    refine ldN_of h2 (i + 1) hi1 ha rfl ?_
    rw [zero_80, zero_162]
    refine al_s (cs := [.int .i64 0, .int .i64 0, .int .i64 0, .slice none 0 0]) h2 rfl fun t w3 h3 => ?_
    have hflat : ∀ c ∈ r.cs, flat c = true := by
      obtain ⟨g, hg, _⟩ := hS.get i hi
      obtain ⟨A, c', hsv, _⟩ := (hr g hg).e r hrm
      intro c hc
      simp only [RuleX.cs, List.mem_cons, List.not_mem_nil, or_false] at hc
      rcases hc with rfl | rfl | rfl | rfl
      · rfl
      · rfl
      · rfl
      · rw [hsv]; rfl
    refine stN_at h3 0 rfl (vs := r.cs) rfl rfl (by simp) hflat (cs' := r.cs) (by rfl) fun w4 h4 => ?_
    repeat (first | refine gd_tt ?_ | refine gd_ff ?_ | refine gd_tf ?_ | refine gd_ft ?_ | refine gd_u ?_ | refine pk_t ?_ | refine pk_f ?_ | refine iff_t ?_ | refine iff_f ?_ | refine not_t ?_ | refine not_f ?_ | refine beq_s ?_ | refine bne_s ?_ | refine ncP_p ?_ | refine nc_p ?_ | refine fld_at ?_ | refine xt_02 ?_ | refine xt_12 ?_ | refine xt_03 ?_ | refine xt_13 ?_ | refine xt_23 ?_ | refine eq_t (by omega) ?_ | refine eq_f (by omega) ?_ | refine ne_t (by omega) ?_ | refine ne_f (by omega) ?_ | refine lt_t (by omega) ?_ | refine lt_f (by omega) ?_ | refine gt_t (by omega) ?_ | refine gt_f (by omega) ?_ | refine ge_t (by omega) ?_ | refine ge_f (by omega) ?_ | refine le_t (by omega) ?_ | refine le_f (by omega) ?_)
    refine ld1_at h4 0 rfl (v := .int .i64 r.State) rfl ?_
    repeat (first | refine gd_tt ?_ | refine gd_ff ?_ | refine gd_tf ?_ | refine gd_ft ?_ | refine gd_u ?_ | refine pk_t ?_ | refine pk_f ?_ | refine iff_t ?_ | refine iff_f ?_ | refine not_t ?_ | refine not_f ?_ | refine beq_s ?_ | refine bne_s ?_ | refine ncP_p ?_ | refine nc_p ?_ | refine fld_at ?_ | refine xt_02 ?_ | refine xt_12 ?_ | refine xt_03 ?_ | refine xt_13 ?_ | refine xt_23 ?_ | refine eq_t (by omega) ?_ | refine eq_f (by omega) ?_ | refine ne_t (by omega) ?_ | refine ne_f (by omega) ?_ | refine lt_t (by omega) ?_ | refine lt_f (by omega) ?_ | refine gt_t (by omega) ?_ | refine gt_f (by omega) ?_ | refine ge_t (by omega) ?_ | refine ge_f (by omega) ?_ | refine le_t (by omega) ?_ | refine le_f (by omega) ?_)
    refine ld1_at h4 0 rfl (v := .int .i64 r.Class) rfl ?_
    refine bld_s [.int .i64 r.State, .int .i64 r.Class] (by kernel_rfl) ?_
    refine al_s (cs := [.int .i64 0, .int .i64 0]) h4 rfl fun t6 w5 h5 => ?_
    refine stN_at h5 0 rfl (vs := ints (onK r).ns) rfl rfl (by simp) (ints_flat _) (cs' := ints (onK r).ns) (by rfl) fun w6 h6 => ?_
    refine ldN_at h6 0 (vs := ints (onK r).ns) rfl (by rfl) rfl ?_
    refine lkM_f keyT_On mapT_160 h6 2 rfl (onK r) ?_
    rw [hlk]
    have hi3 : (blk t6 162 (ints (onK r).ns) :: blk t 80 r.cs :: isMap kfO vfB mb m :: L)[i + 3]? = some S := by simpa using hi
    by_cases hmem : onK r ∈ (l.take j).map onK
    · rw [if_pos hmem]
      show gd (.bool true) false _ _ _
      repeat (first | refine gd_tt ?_ | refine gd_ff ?_ | refine gd_tf ?_ | refine gd_ft ?_ | refine gd_u ?_ | refine pk_t ?_ | refine pk_f ?_ | refine iff_t ?_ | refine iff_f ?_ | refine not_t ?_ | refine not_f ?_ | refine beq_s ?_ | refine bne_s ?_ | refine ncP_p ?_ | refine nc_p ?_ | refine fld_at ?_ | refine xt_02 ?_ | refine xt_12 ?_ | refine xt_03 ?_ | refine xt_13 ?_ | refine xt_23 ?_ | refine eq_t (by omega) ?_ | refine eq_f (by omega) ?_ | refine ne_t (by omega) ?_ | refine ne_f (by omega) ?_ | refine lt_t (by omega) ?_ | refine lt_f (by omega) ?_ | refine gt_t (by omega) ?_ | refine gt_f (by omega) ?_ | refine ge_t (by omega) ?_ | refine ge_f (by omega) ?_ | refine le_t (by omega) ?_ | refine le_f (by omega) ?_)
      exact hbad (fun h => nodup_at (okRules_x.1 h).2.2 hrj hmem) _ h6.drop.drop.drop
    rw [if_neg hmem]
    show gd (.bool false) false _ _ _
    have hno : ¬ okRule r.r → K (.int .i64 70) w6 := fun h => hbad (fun h2 => h ((okRules_x.1 h2).2.1 r hrm)) _ h6.drop.drop.drop
    repeat (first | refine gd_tt ?_ | refine gd_ff ?_ | refine gd_tf ?_ | refine gd_ft ?_ | refine gd_u ?_ | refine pk_t ?_ | refine pk_f ?_ | refine iff_t ?_ | refine iff_f ?_ | refine not_t ?_ | refine not_f ?_ | refine beq_s ?_ | refine bne_s ?_ | refine ncP_p ?_ | refine nc_p ?_ | refine fld_at ?_ | refine xt_02 ?_ | refine xt_12 ?_ | refine xt_03 ?_ | refine xt_13 ?_ | refine xt_23 ?_ | refine eq_t (by omega) ?_ | refine eq_f (by omega) ?_ | refine ne_t (by omega) ?_ | refine ne_f (by omega) ?_ | refine lt_t (by omega) ?_ | refine lt_f (by omega) ?_ | refine gt_t (by omega) ?_ | refine gt_f (by omega) ?_ | refine ge_t (by omega) ?_ | refine ge_f (by omega) ?_ | refine le_t (by omega) ?_ | refine le_f (by omega) ?_)
    refine ld1_at h6 1 rfl (v := .int .i64 r.State) rfl ?_
    refine gd_ff (below_s f1 (by decide) (by decide) ?_)
    refine gd_ff (not_d ?_)
    by_cases d1 : 0 ≤ r.State ∧ r.State < 8
    case neg =>
      rw [decide_eq_false d1, Bool.not_false]
      repeat (first | refine gd_tt ?_ | refine gd_ff ?_ | refine gd_tf ?_ | refine gd_ft ?_ | refine gd_u ?_ | refine pk_t ?_ | refine pk_f ?_ | refine iff_t ?_ | refine iff_f ?_ | refine not_t ?_ | refine not_f ?_ | refine beq_s ?_ | refine bne_s ?_ | refine ncP_p ?_ | refine nc_p ?_ | refine fld_at ?_ | refine xt_02 ?_ | refine xt_12 ?_ | refine xt_03 ?_ | refine xt_13 ?_ | refine xt_23 ?_ | refine eq_t (by omega) ?_ | refine eq_f (by omega) ?_ | refine ne_t (by omega) ?_ | refine ne_f (by omega) ?_ | refine lt_t (by omega) ?_ | refine lt_f (by omega) ?_ | refine gt_t (by omega) ?_ | refine gt_f (by omega) ?_ | refine ge_t (by omega) ?_ | refine ge_f (by omega) ?_ | refine le_t (by omega) ?_ | refine le_f (by omega) ?_)
      exact hno fun h => d1 ⟨h.1, h.2.1⟩
    rw [decide_eq_true d1, Bool.not_true]
    repeat (first | refine gd_tt ?_ | refine gd_ff ?_ | refine gd_tf ?_ | refine gd_ft ?_ | refine gd_u ?_ | refine pk_t ?_ | refine pk_f ?_ | refine iff_t ?_ | refine iff_f ?_ | refine not_t ?_ | refine not_f ?_ | refine beq_s ?_ | refine bne_s ?_ | refine ncP_p ?_ | refine nc_p ?_ | refine fld_at ?_ | refine xt_02 ?_ | refine xt_12 ?_ | refine xt_03 ?_ | refine xt_13 ?_ | refine xt_23 ?_ | refine eq_t (by omega) ?_ | refine eq_f (by omega) ?_ | refine ne_t (by omega) ?_ | refine ne_f (by omega) ?_ | refine lt_t (by omega) ?_ | refine lt_f (by omega) ?_ | refine gt_t (by omega) ?_ | refine gt_f (by omega) ?_ | refine ge_t (by omega) ?_ | refine ge_f (by omega) ?_ | refine le_t (by omega) ?_ | refine le_f (by omega) ?_)
    refine ld1_at h6 1 rfl (v := .int .i64 r.Next) rfl ?_
    refine gd_ff (below_s f3 (by decide) (by decide) ?_)
    refine gd_ff (not_d ?_)
    by_cases d2 : 0 ≤ r.Next ∧ r.Next < 8
    case neg =>
      rw [decide_eq_false d2, Bool.not_false]
      repeat (first | refine gd_tt ?_ | refine gd_ff ?_ | refine gd_tf ?_ | refine gd_ft ?_ | refine gd_u ?_ | refine pk_t ?_ | refine pk_f ?_ | refine iff_t ?_ | refine iff_f ?_ | refine not_t ?_ | refine not_f ?_ | refine beq_s ?_ | refine bne_s ?_ | refine ncP_p ?_ | refine nc_p ?_ | refine fld_at ?_ | refine xt_02 ?_ | refine xt_12 ?_ | refine xt_03 ?_ | refine xt_13 ?_ | refine xt_23 ?_ | refine eq_t (by omega) ?_ | refine eq_f (by omega) ?_ | refine ne_t (by omega) ?_ | refine ne_f (by omega) ?_ | refine lt_t (by omega) ?_ | refine lt_f (by omega) ?_ | refine gt_t (by omega) ?_ | refine gt_f (by omega) ?_ | refine ge_t (by omega) ?_ | refine ge_f (by omega) ?_ | refine le_t (by omega) ?_ | refine le_f (by omega) ?_)
      exact hno fun h => d2 ⟨h.2.2.1, h.2.2.2.1⟩
    rw [decide_eq_true d2, Bool.not_true]
    repeat (first | refine gd_tt ?_ | refine gd_ff ?_ | refine gd_tf ?_ | refine gd_ft ?_ | refine gd_u ?_ | refine pk_t ?_ | refine pk_f ?_ | refine iff_t ?_ | refine iff_f ?_ | refine not_t ?_ | refine not_f ?_ | refine beq_s ?_ | refine bne_s ?_ | refine ncP_p ?_ | refine nc_p ?_ | refine fld_at ?_ | refine xt_02 ?_ | refine xt_12 ?_ | refine xt_03 ?_ | refine xt_13 ?_ | refine xt_23 ?_ | refine eq_t (by omega) ?_ | refine eq_f (by omega) ?_ | refine ne_t (by omega) ?_ | refine ne_f (by omega) ?_ | refine lt_t (by omega) ?_ | refine lt_f (by omega) ?_ | refine gt_t (by omega) ?_ | refine gt_f (by omega) ?_ | refine ge_t (by omega) ?_ | refine ge_f (by omega) ?_ | refine le_t (by omega) ?_ | refine le_f (by omega) ?_)
    refine ld1_at h6 1 rfl (v := .int .i64 r.Class) rfl ?_
    refine gd_ff (below_s f2 (by decide) (by decide) ?_)
    refine gd_ff (not_d ?_)
    by_cases d3 : 0 ≤ r.Class ∧ r.Class < 16
    case neg =>
      rw [decide_eq_false d3, Bool.not_false]
      repeat (first | refine gd_tt ?_ | refine gd_ff ?_ | refine gd_tf ?_ | refine gd_ft ?_ | refine gd_u ?_ | refine pk_t ?_ | refine pk_f ?_ | refine iff_t ?_ | refine iff_f ?_ | refine not_t ?_ | refine not_f ?_ | refine beq_s ?_ | refine bne_s ?_ | refine ncP_p ?_ | refine nc_p ?_ | refine fld_at ?_ | refine xt_02 ?_ | refine xt_12 ?_ | refine xt_03 ?_ | refine xt_13 ?_ | refine xt_23 ?_ | refine eq_t (by omega) ?_ | refine eq_f (by omega) ?_ | refine ne_t (by omega) ?_ | refine ne_f (by omega) ?_ | refine lt_t (by omega) ?_ | refine lt_f (by omega) ?_ | refine gt_t (by omega) ?_ | refine gt_f (by omega) ?_ | refine ge_t (by omega) ?_ | refine ge_f (by omega) ?_ | refine le_t (by omega) ?_ | refine le_f (by omega) ?_)
      exact hno fun h => d3 ⟨h.2.2.2.2.1, h.2.2.2.2.2.1⟩
    rw [decide_eq_true d3, Bool.not_true]
    repeat (first | refine gd_tt ?_ | refine gd_ff ?_ | refine gd_tf ?_ | refine gd_ft ?_ | refine gd_u ?_ | refine pk_t ?_ | refine pk_f ?_ | refine iff_t ?_ | refine iff_f ?_ | refine not_t ?_ | refine not_f ?_ | refine beq_s ?_ | refine bne_s ?_ | refine ncP_p ?_ | refine nc_p ?_ | refine fld_at ?_ | refine xt_02 ?_ | refine xt_12 ?_ | refine xt_03 ?_ | refine xt_13 ?_ | refine xt_23 ?_ | refine eq_t (by omega) ?_ | refine eq_f (by omega) ?_ | refine ne_t (by omega) ?_ | refine ne_f (by omega) ?_ | refine lt_t (by omega) ?_ | refine lt_f (by omega) ?_ | refine gt_t (by omega) ?_ | refine gt_f (by omega) ?_ | refine ge_t (by omega) ?_ | refine ge_f (by omega) ?_ | refine le_t (by omega) ?_ | refine le_f (by omega) ?_)
    refine ld1_at h6 1 rfl (v := r.sv) rfl ?_
    refine gd_ff (lnS_rd h6 (i + 3) hi3 (fun g hg => (hr g hg).e r hrm) ?_)
    by_cases d4 : 3 < r.Sends.length
    · repeat (first | refine gd_tt ?_ | refine gd_ff ?_ | refine gd_tf ?_ | refine gd_ft ?_ | refine gd_u ?_ | refine pk_t ?_ | refine pk_f ?_ | refine iff_t ?_ | refine iff_f ?_ | refine not_t ?_ | refine not_f ?_ | refine beq_s ?_ | refine bne_s ?_ | refine ncP_p ?_ | refine nc_p ?_ | refine fld_at ?_ | refine xt_02 ?_ | refine xt_12 ?_ | refine xt_03 ?_ | refine xt_13 ?_ | refine xt_23 ?_ | refine eq_t (by omega) ?_ | refine eq_f (by omega) ?_ | refine ne_t (by omega) ?_ | refine ne_f (by omega) ?_ | refine lt_t (by omega) ?_ | refine lt_f (by omega) ?_ | refine gt_t (by omega) ?_ | refine gt_f (by omega) ?_ | refine ge_t (by omega) ?_ | refine ge_f (by omega) ?_ | refine le_t (by omega) ?_ | refine le_f (by omega) ?_)
      exact hno fun h => by have := h.2.2.2.2.2.2.1; simp only [RuleX.r] at this; omega
    refine gd_ff (gt_f (by omega) ?_)
    repeat (first | refine gd_tt ?_ | refine gd_ff ?_ | refine gd_tf ?_ | refine gd_ft ?_ | refine gd_u ?_ | refine pk_t ?_ | refine pk_f ?_ | refine iff_t ?_ | refine iff_f ?_ | refine not_t ?_ | refine not_f ?_ | refine beq_s ?_ | refine bne_s ?_ | refine ncP_p ?_ | refine nc_p ?_ | refine fld_at ?_ | refine xt_02 ?_ | refine xt_12 ?_ | refine xt_03 ?_ | refine xt_13 ?_ | refine xt_23 ?_ | refine eq_t (by omega) ?_ | refine eq_f (by omega) ?_ | refine ne_t (by omega) ?_ | refine ne_f (by omega) ?_ | refine lt_t (by omega) ?_ | refine lt_f (by omega) ?_ | refine gt_t (by omega) ?_ | refine gt_f (by omega) ?_ | refine ge_t (by omega) ?_ | refine ge_f (by omega) ?_ | refine le_t (by omega) ?_ | refine le_f (by omega) ?_)
    refine ld1_at h6 1 rfl (v := r.sv) rfl ?_
    refine gd_ff (gd_ff (containsOut_s (p := fun o => ¬ okOut o) (i + 3) hi3 h6 (fun g hg => (hr g hg).e r hrm) (hl r hrm) (fun o ho w K h hk => odd1_s (f4 o ho) h hk) fun w7 h7 b hb => ?_))
    refine pk_f (iff_b b (fun hbt => ?_) (fun hbf => ?_))
    · obtain ⟨o, ho, hno'⟩ := hb.1 hbt
      exact hbad (fun h2 => hno' (((okRules_x.1 h2).2.1 r hrm).2.2.2.2.2.2.2 o ho)) _ h7.drop.drop.drop
    · refine ldN_at h7 0 (vs := ints (onK r).ns) rfl (by rfl) rfl ?_
      refine upM_s keyT_On mapT_160 hu (h7.pick 2 rfl) (onK r) true rfl fun w8 h8 => ?_
      refine inc_s (by omega) ?_
      refine hg _ _ _ (by omega) ⟨j + 1, _, by omega, rfl, rfl, fun x hx => ?_, nodup_take hnd hrj hmem, hu.up _ _, fun k => ?_, h8.selR [_, _, _] [_] [0] (by decide) rfl⟩
      · rw [List.take_add_one, hrj] at hx
        rcases List.mem_append.1 hx with h | h
        · exact hall x h
        · simp at h
          subst h
          refine ⟨d1.1, d1.2, d2.1, d2.2, d3.1, d3.2, by simp only [RuleX.r]; omega, fun o ho => Classical.not_not.1 fun h => ?_⟩
          have := hb.2 ⟨o, ho, h⟩
          rw [hbf] at this
          cases this
      · rw [lkA_up hu, hlk, List.take_add_one, hrj, Option.toList_some, List.map_append]
        by_cases hk1 : k = onK r
        · simp [hk1]
        · simp [hk1]
  · have ej : j = l.length := by omega
    rw [ej, List.take_length] at hall hnd
    have := hk _ h2.drop
    rw [if_pos (okRules_x.2 ⟨by omega, hall, hnd⟩)] at this
    exact this
end Go.Proofs.YtenglfaeohgkfaaGreat
