/- What config.Check asks of a federation. Conditions: none. -/
import Derived.Test.YtfcnjbannejchaaSoloA
import Derived.Test.YtfcnjbannejchaaEngK
namespace Go.Proofs.Ytfcnjbannejchaa
open Go Go.E
set_option maxRecDepth 100000
variable {e w : World} {L R : List HP} {K : KV} {S : HP}

/-! ### The laws of a federation -/
def okTree (ps : List Int) : Prop := 1 ≤ ps.length ∧ ps.length ≤ 16 ∧ ∀ (i : Nat) p, ps[i]? = some p → -1 ≤ p ∧ p < i
def okOut (o : Out) : Prop := 0 ≤ o.Class ∧ o.Class < 16 ∧ 0 ≤ o.Delay ∧ o.Delay < 1048577 ∧ 0 ≤ o.Add ∧ o.Add < 1000
def okRule (r : Rule) : Prop := 0 ≤ r.State ∧ r.State < 8 ∧ 0 ≤ r.Next ∧ r.Next < 8 ∧ 0 ≤ r.Class ∧ r.Class < 16 ∧ r.Sends.length ≤ 3 ∧ ∀ o ∈ r.Sends, okOut o
def onOf (r : Rule) : Int × Int := (r.State, r.Class)
def okRules (l : List Rule) : Prop := l.length ≤ 32 ∧ (∀ r ∈ l, okRule r) ∧ (l.map onOf).Nodup
/-- Rising, from above lo on, below most. -/
def rising (most : Int) : Int → List Int → Prop
  | _, [] => True
  | lo, c :: l => lo < c ∧ c < most ∧ rising most c l
/-- What the rules' sends break first. -/
def sendsE (f : Fed) : List Out → Int
  | [] => 0
  | o :: l => if o.Class ∉ f.Pubs then 81 else if o.Delay < f.Look then 80 else sendsE f l
def rulesE (f : Fed) (most : Int) : List Rule → Int
  | [] => 0
  | r :: l => if most ≤ r.Class then 81 else if sendsE f r.Sends ≠ 0 then sendsE f r.Sends else rulesE f most l
def okInit (f : Fed) : Prop := f.Init.length ≤ 4 ∧ ∀ o ∈ f.Init, o.Class ∈ f.Pubs ∧ 0 ≤ o.Delay ∧ o.Delay ≤ 1099511627776 ∧ 0 ≤ o.Add ∧ o.Add ≤ 999
open Classical in
noncomputable def fedEs (f : Fed) (most : Int) : List Int := [if 0 ≤ f.Kind ∧ f.Kind ≤ 1 then 0 else 1, if 1 ≤ f.Look ∧ f.Look ≤ 1048576 then 0 else 80, if 0 ≤ f.Start ∧ f.Start ≤ 7 then 0 else 70,
  if okRules f.Rules then 0 else 70, if rising most (-1) f.Pubs ∧ rising most (-1) f.Subs then 0 else 81, rulesE f most f.Rules, if okInit f then 0 else 82]
def firstE (l : List Int) : Int := (l.find? fun n => decide (n ≠ 0)).getD 0
theorem firstE_cons (a : Int) (l : List Int) : firstE (a :: l) = if a = 0 then firstE l else a := by
  unfold firstE
  by_cases h : a = 0 <;> simp [h]
theorem firstE_nil : firstE [] = 0 := rfl
noncomputable def fedE (f : Fed) (most : Int) : Int := firstE (fedEs f most)
open Classical in
noncomputable def treeE (ps : List Int) : Int := if okTree ps then 0 else 50
noncomputable def fedsE (most : Int) : Nat → List Fed → Int × Int
  | _, [] => (-1, 0)
  | i, f :: l => if fedE f most ≠ 0 then ((i : Int), fedE f most) else fedsE most (i + 1) l
noncomputable def checkW (x : Wd) : Int × Int :=
  if treeE x.Parents ≠ 0 then (-1, treeE x.Parents)
  else if ¬ ((0 ≤ x.End ∧ x.End ≤ 1099511627776) ∧ (1 ≤ (x.Feds.length : Int) ∧ (x.Feds.length : Int) ≤ 8)) then (-1, 1)
  else fedsE x.Parents.length 0 x.Feds

/-! ### Small functions -/
theorem within_s {n a b : Int} (hk : K (.bool (decide (a ≤ n ∧ n ≤ b))) w) : Cl prog 44 #[.int .i64 n, .int .i64 a, .int .i64 b] w K := by
  refine config_within_calls ?_
  unfold config_within
  by_cases c1 : a ≤ n
  · by_cases c2 : n ≤ b
    · rw [decide_eq_true ⟨c1, c2⟩] at hk
      repeat (first | refine gd_tt ?_ | refine gd_ff ?_ | refine gd_tf ?_ | refine gd_ft ?_ | refine gd_u ?_ | refine pk_t ?_ | refine pk_f ?_ | refine iff_t ?_ | refine iff_f ?_ | refine not_t ?_ | refine not_f ?_ | refine beq_s ?_ | refine bne_s ?_ | refine ncP_p ?_ | refine nc_p ?_ | refine fld_at ?_ | refine xt_02 ?_ | refine xt_12 ?_ | refine xt_03 ?_ | refine xt_13 ?_ | refine xt_23 ?_ | refine eq_t (by omega) ?_ | refine eq_f (by omega) ?_ | refine ne_t (by omega) ?_ | refine ne_f (by omega) ?_ | refine lt_t (by omega) ?_ | refine lt_f (by omega) ?_ | refine gt_t (by omega) ?_ | refine gt_f (by omega) ?_ | refine ge_t (by omega) ?_ | refine ge_f (by omega) ?_ | refine le_t (by omega) ?_ | refine le_f (by omega) ?_)
      exact hk
    · rw [decide_eq_false fun h => c2 h.2] at hk
      repeat (first | refine gd_tt ?_ | refine gd_ff ?_ | refine gd_tf ?_ | refine gd_ft ?_ | refine gd_u ?_ | refine pk_t ?_ | refine pk_f ?_ | refine iff_t ?_ | refine iff_f ?_ | refine not_t ?_ | refine not_f ?_ | refine beq_s ?_ | refine bne_s ?_ | refine ncP_p ?_ | refine nc_p ?_ | refine fld_at ?_ | refine xt_02 ?_ | refine xt_12 ?_ | refine xt_03 ?_ | refine xt_13 ?_ | refine xt_23 ?_ | refine eq_t (by omega) ?_ | refine eq_f (by omega) ?_ | refine ne_t (by omega) ?_ | refine ne_f (by omega) ?_ | refine lt_t (by omega) ?_ | refine lt_f (by omega) ?_ | refine gt_t (by omega) ?_ | refine gt_f (by omega) ?_ | refine ge_t (by omega) ?_ | refine ge_f (by omega) ?_ | refine le_t (by omega) ?_ | refine le_f (by omega) ?_)
      exact hk
  · rw [decide_eq_false fun h => c1 h.1] at hk
    repeat (first | refine gd_tt ?_ | refine gd_ff ?_ | refine gd_tf ?_ | refine gd_ft ?_ | refine gd_u ?_ | refine pk_t ?_ | refine pk_f ?_ | refine iff_t ?_ | refine iff_f ?_ | refine not_t ?_ | refine not_f ?_ | refine beq_s ?_ | refine bne_s ?_ | refine ncP_p ?_ | refine nc_p ?_ | refine fld_at ?_ | refine xt_02 ?_ | refine xt_12 ?_ | refine xt_03 ?_ | refine xt_13 ?_ | refine xt_23 ?_ | refine eq_t (by omega) ?_ | refine eq_f (by omega) ?_ | refine ne_t (by omega) ?_ | refine ne_f (by omega) ?_ | refine lt_t (by omega) ?_ | refine lt_f (by omega) ?_ | refine gt_t (by omega) ?_ | refine gt_f (by omega) ?_ | refine ge_t (by omega) ?_ | refine ge_f (by omega) ?_ | refine le_t (by omega) ?_ | refine le_f (by omega) ?_)
    exact hk
theorem below_s {n m : Int} (hn : i64 n) (h0 : 0 ≤ m) (h1 : m ≤ 4611686018427387904) (hk : K (.bool (decide (0 ≤ n ∧ n < m))) w) : Cl prog 99 #[.int .i64 n, .int .i64 m] w K := by
  refine table_below_calls ?_
  unfold table_below
  have hn' := In64.of_wf hn
  have hm : In64 m := by unfold In64; omega
  refine cv_s (cv_s ?_)
  rw [wrap_u64 hn', wrap_u64 hm, if_pos h0]
  unfold In64 at hn'
  by_cases c1 : 0 ≤ n
  · rw [if_pos c1]
    by_cases c2 : n < m
    · rw [decide_eq_true ⟨c1, c2⟩] at hk
      exact lt_t c2 hk
    · rw [decide_eq_false fun h => c2 h.2] at hk
      exact lt_f c2 hk
  · rw [if_neg c1, decide_eq_false fun h => c1 h.1] at *
    exact lt_f (by omega) hk
theorem index_s {v : Value} {l : List Int} {x : Int} (i : Nat) (hi : L[i]? = some S) (hS : Sat e w L) (hr : ∀ g, S g → rdS 1 (intsK .i64) v l g) (hl : l.length ≤ 1000000) (h1 : x ∈ l → ∀ j : Nat, K (.int .i64 j) w) (h2 : x ∉ l → K (.int .i64 (-1)) w) : Cl prog 97 #[v, .int .i64 x] w K := by
  refine slices_Index_int_int_calls ?_
  unfold slices_Index_int_int
  refine lnS_rd hS i hi hr ?_
  refine lpi1 (fun q t8 w' => ∃ j : Nat, j ≤ l.length ∧ t8 = .int .i64 j ∧ q = l.length - j ∧ x ∉ l.take j ∧ w' = w) l.length ⟨0, Nat.zero_le _, rfl, rfl, by simp, rfl⟩ ?_
  rintro q _ w' g ⟨j, hj, rfl, rfl, hno, rfl⟩ hg
  refine lt_c (fun c => iff_t ?_) (fun c => iff_f ?_)
  · obtain ⟨y, hy⟩ := get_of_lt (l := l) (j := j) (by omega)
    refine ixS_rd hS i hi hr (fun _ => rfl) hy fun a ha => ?_
    refine ld1_of hS i hi ha (v := .int .i64 y) rfl ?_
    refine eq_c (fun c2 => iff_t ?_) (fun c2 => iff_f ?_)
    · exact h1 (c2 ▸ List.mem_of_getElem? hy) j
    · refine inc_s (by omega) ?_
      refine hg _ _ _ (by omega) ⟨j + 1, by omega, rfl, rfl, ?_, rfl⟩
      rw [List.take_add_one, hy]
      simp [hno, c2]
  · have ej : j = l.length := by omega
    rw [ej, List.take_length] at hno
    exact h2 hno
theorem contains_s {v : Value} {l : List Int} {x : Int} (i : Nat) (hi : L[i]? = some S) (hS : Sat e w L) (hr : ∀ g, S g → rdS 1 (intsK .i64) v l g) (hl : l.length ≤ 1000000) (hk : K (.bool (decide (x ∈ l))) w) : Cl prog 69 #[v, .int .i64 x] w K := by
  refine slices_Contains_int_int_calls ?_
  unfold slices_Contains_int_int
  refine index_s i hi hS hr hl (fun h j => ?_) (fun h => ?_)
  · rw [decide_eq_true h] at hk
    exact ge_t (by omega) hk
  · rw [decide_eq_false h] at hk
    exact ge_f (by omega) hk

/-! ### Tries -/
abbrev unV (c d : Nat) : Value := .func (.func 66) #[] #[.pointer (some ⟨c, 0, none⟩), .pointer (some ⟨d, 0, none⟩)]
def UN (c d : Nat) (b : Bool) (er : Int) : HP := sepL [blk c 4 [.bool b], blk d 29 [.int .i64 er]]
theorem unless_s {b : Bool} {er : Int} (hS : Sat e w L) (hk : ∀ c d w', Sat e w' (UN c d b er :: L) → K (unV c d) w') : Cl prog 43 #[.bool b, .int .i64 er] w K := by
  refine config_unless_calls ?_
  unfold config_unless
  refine al_s (cs := [.bool b]) hS rfl fun c w1 h1 => ?_
  refine al_s (cs := [.int .i64 er]) h1 rfl fun d w2 h2 => ?_
  exact hk _ _ _ (Sat.join (l' := [_, _]) h2.swap)
theorem unless1_s {c d : Nat} {b : Bool} {er : Int} (i : Nat) (hi : L[i]? = some (UN c d b er)) (hS : Sat e w L) (hk : K (.int .i64 (if b = true then 0 else er)) w) : clV prog (unV c d) #[] w K := by
  refine ⟨_, _, _, rfl, ?_⟩
  refine config_unless_1_calls (t0 := .pointer (some ⟨c, 0, none⟩)) (t1 := .pointer (some ⟨d, 0, none⟩)) ?_
  unfold config_unless_1
  have h1 := (hS.pick i hi).split
  refine ld1_at h1 0 rfl rfl ?_
  cases b with
  | true => exact iff_t hk
  | false => exact iff_f (ld1_at h1 1 rfl rfl hk)
/-- What the tries come to, one behind the other. -/
theorem first_s {v : Value} {fs : List Value} {Es : List Int} (i : Nat) (hi : L[i]? = some S) (hS : Sat e w L) (hr : ∀ g, S g → rdS 1 (fun v => [v]) v fs g) (hl : fs.length ≤ 1000) (hE : Es.length = fs.length)
    (hc : ∀ (j : Nat) fv E, fs[j]? = some fv → Es[j]? = some E → (∀ E' ∈ Es.take j, E' = 0) → ∀ (w : World) (K : KV), Sat e w L → (∀ w', Sat e w' L → K (.int .i64 E) w') → clV prog fv #[] w K)
    (hk : ∀ w', Sat e w' L → K (.int .i64 (firstE Es)) w') : Cl prog 40 #[v] w K := by
  refine config_first_calls ?_
  unfold config_first
  refine lnS_rd hS i hi hr ?_
  refine lpi1 (fun q t8 w' => ∃ j : Nat, j ≤ fs.length ∧ t8 = .int .i64 j ∧ q = fs.length - j ∧ (∀ E' ∈ Es.take j, E' = 0) ∧ Sat e w' L) fs.length ⟨0, Nat.zero_le _, rfl, rfl, by simp, hS⟩ ?_
  rintro q _ w' g ⟨j, hj, rfl, rfl, hno, h1⟩ hg
  have hz : ∀ (l1 l2 : List Int), (∀ E' ∈ l1, E' = 0) → firstE (l1 ++ l2) = firstE l2 := by
    intro l1 l2 h
    induction l1 with
    | nil => rfl
    | cons a l1 ih => rw [List.cons_append, firstE_cons, if_pos (h a (by simp)), ih fun x hx => h x (by simp [hx])]
  refine lt_c (fun c => iff_t ?_) (fun c => iff_f ?_)
  · obtain ⟨fv, hf⟩ := get_of_lt (l := fs) (j := j) (by omega)
    obtain ⟨E, hE'⟩ := get_of_lt (l := Es) (j := j) (by omega)
    refine ixS_rd h1 i hi hr (fun _ => rfl) hf fun a ha => ?_
    refine ld1_of h1 i hi ha (v := fv) rfl ?_
    refine hc j fv E hf hE' hno _ _ h1 fun w2 h2 => ?_
    have hsp : Es = Es.take j ++ E :: Es.drop (j + 1) := by
      rw [← drop_cons hE', List.take_append_drop]
    refine ne_c (fun c2 => iff_t ?_) (fun c2 => iff_f ?_)
    · have := hk _ h2
      rw [hsp, hz _ _ hno, firstE_cons, if_neg c2] at this
      exact this
    · refine inc_s (by omega) ?_
      refine hg _ _ _ (by omega) ⟨j + 1, by omega, rfl, rfl, ?_, h2⟩
      intro E' hE2
      rw [List.take_add_one, hE'] at hE2
      rcases List.mem_append.1 hE2 with h | h
      · exact hno E' h
      · simp at h; rw [h]; exact c2
  · have ej : j = fs.length := by omega
    have := hk _ h1
    rw [ej, ← hE, List.take_length] at hno
    rw [← List.append_nil Es, hz _ _ hno] at this
    exact this
end Go.Proofs.Ytfcnjbannejchaa
