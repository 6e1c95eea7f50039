/- Texts of the proof, joined: SoloC, SoloE, SoloG, EngW. Conditions: none. -/
import Derived.Test.YtbopajpmadlmhaaGreatT2
section
namespace Go.Proofs.YtbopajpmadlmhaaGreat
open Go Go.E
set_option maxRecDepth 100000
variable {e w : World} {L R : List HP} {K : KV} {S : HP}

def okTree (ps : List Int) : Prop := 1 ≤ ps.length ∧ ps.length ≤ 16 ∧ ∀ (i : Nat) p, ps[i]? = some p → -1 ≤ p ∧ p < i
def okOut (o : Out) : Prop := 0 ≤ o.Class ∧ o.Class < 16 ∧ 0 ≤ o.Delay ∧ o.Delay < 1048577 ∧ 0 ≤ o.Add ∧ o.Add < 1000
def okRule (r : Rule) : Prop := 0 ≤ r.State ∧ r.State < 8 ∧ 0 ≤ r.Next ∧ r.Next < 8 ∧ 0 ≤ r.Class ∧ r.Class < 16 ∧ r.Sends.length ≤ 3 ∧ ∀ o ∈ r.Sends, okOut o
def onOf (r : Rule) : Int × Int := (r.State, r.Class)
def okRules (l : List Rule) : Prop := l.length ≤ 32 ∧ (∀ r ∈ l, okRule r) ∧ (l.map onOf).Nodup
def rising (most : Int) : Int → List Int → Prop
  | _, [] => True
  | lo, c :: l => lo < c ∧ c < most ∧ rising most c l
def sendsE (f : Fed) : List Out → Int
  | [] => 0
  | o :: l => if o.Class ∉ f.Pubs then 81 else if o.Delay < f.Look then 80 else sendsE f l
def rulesE (f : Fed) (most : Int) : List Rule → Int
  | [] => 0
  | r :: l => if most ≤ r.Class then 81 else if sendsE f r.Sends ≠ 0 then sendsE f r.Sends else rulesE f most l
def okInit (f : Fed) : Prop := f.Init.length ≤ 4 ∧ ∀ o ∈ f.Init, o.Class ∈ f.Pubs ∧ 0 ≤ o.Delay ∧ o.Delay ≤ 1099511627776 ∧ 0 ≤ o.Add ∧ o.Add ≤ 999
open Classical in
noncomputable def fedEs (f : Fed) (most : Int) : List Int := [if 0 ≤ f.Kind ∧ f.Kind ≤ 1 then 0 else 1, if 1 ≤ f.Look ∧ f.Look ≤ 1048576 then 0 else 80, if 0 ≤ f.Start ∧ f.Start ≤ 7 then 0 else 70,
  if okRules f.Rules then 0 else 70, if rising most (-1) f.Pubs ∧ rising most (-1) f.Subs then 0 else 81, rulesE f most f.Rules, if okInit f then 0 else 82]
def firstE (l : List Int) : Int := (l.find? fun n => decide (n ≠ 0)).getD 0
theorem firstE_cons (a : Int) (l : List Int) : firstE (a :: l) = if a = 0 then firstE l else a := by
  unfold firstE
  by_cases h : a = 0 <;> simp [h]
theorem firstE_nil : firstE [] = 0 := rfl
noncomputable def fedE (f : Fed) (most : Int) : Int := firstE (fedEs f most)
open Classical in
noncomputable def treeE (ps : List Int) : Int := if okTree ps then 0 else 50
noncomputable def fedsE (most : Int) : Nat → List Fed → Int × Int
  | _, [] => (-1, 0)
  | i, f :: l => if fedE f most ≠ 0 then ((i : Int), fedE f most) else fedsE most (i + 1) l
noncomputable def checkW (x : Wd) : Int × Int :=
  if treeE x.Parents ≠ 0 then (-1, treeE x.Parents)
  else if ¬ ((0 ≤ x.End ∧ x.End ≤ 1099511627776) ∧ (1 ≤ (x.Feds.length : Int) ∧ (x.Feds.length : Int) ≤ 8)) then (-1, 1)
  else fedsE x.Parents.length 0 x.Feds

theorem within_s {n a b : Int} (hk : K (.bool (decide (a ≤ n ∧ n ≤ b))) w) : Cl prog 93 #[.int .i64 n, .int .i64 a, .int .i64 b] w K := by
  refine config_within_calls ?_
  unfold config_within
  by_cases c1 : a ≤ n
  · by_cases c2 : n ≤ b
    · rw [decide_eq_true ⟨c1, c2⟩] at hk
      repeat (first | refine gd_tt ?_ | refine gd_ff ?_ | refine gd_tf ?_ | refine gd_ft ?_ | refine gd_u ?_ | refine pk_t ?_ | refine pk_f ?_ | refine iff_t ?_ | refine iff_f ?_ | refine not_t ?_ | refine not_f ?_ | refine beq_s ?_ | refine bne_s ?_ | refine ncP_p ?_ | refine nc_p ?_ | refine fld_at ?_ | refine xt_02 ?_ | refine xt_12 ?_ | refine xt_03 ?_ | refine xt_13 ?_ | refine xt_23 ?_ | refine eq_t (by omega) ?_ | refine eq_f (by omega) ?_ | refine ne_t (by omega) ?_ | refine ne_f (by omega) ?_ | refine lt_t (by omega) ?_ | refine lt_f (by omega) ?_ | refine gt_t (by omega) ?_ | refine gt_f (by omega) ?_ | refine ge_t (by omega) ?_ | refine ge_f (by omega) ?_ | refine le_t (by omega) ?_ | refine le_f (by omega) ?_)
      exact hk
    · rw [decide_eq_false fun h => c2 h.2] at hk
      repeat (first | refine gd_tt ?_ | refine gd_ff ?_ | refine gd_tf ?_ | refine gd_ft ?_ | refine gd_u ?_ | refine pk_t ?_ | refine pk_f ?_ | refine iff_t ?_ | refine iff_f ?_ | refine not_t ?_ | refine not_f ?_ | refine beq_s ?_ | refine bne_s ?_ | refine ncP_p ?_ | refine nc_p ?_ | refine fld_at ?_ | refine xt_02 ?_ | refine xt_12 ?_ | refine xt_03 ?_ | refine xt_13 ?_ | refine xt_23 ?_ | refine eq_t (by omega) ?_ | refine eq_f (by omega) ?_ | refine ne_t (by omega) ?_ | refine ne_f (by omega) ?_ | refine lt_t (by omega) ?_ | refine lt_f (by omega) ?_ | refine gt_t (by omega) ?_ | refine gt_f (by omega) ?_ | refine ge_t (by omega) ?_ | refine ge_f (by omega) ?_ | refine le_t (by omega) ?_ | refine le_f (by omega) ?_)
      exact hk
  · rw [decide_eq_false fun h => c1 h.1] at hk
    repeat (first | refine gd_tt ?_ | refine gd_ff ?_ | refine gd_tf ?_ | refine gd_ft ?_ | refine gd_u ?_ | refine pk_t ?_ | refine pk_f ?_ | refine iff_t ?_ | refine iff_f ?_ | refine not_t ?_ | refine not_f ?_ | refine beq_s ?_ | refine bne_s ?_ | refine ncP_p ?_ | refine nc_p ?_ | refine fld_at ?_ | refine xt_02 ?_ | refine xt_12 ?_ | refine xt_03 ?_ | refine xt_13 ?_ | refine xt_23 ?_ | refine eq_t (by omega) ?_ | refine eq_f (by omega) ?_ | refine ne_t (by omega) ?_ | refine ne_f (by omega) ?_ | refine lt_t (by omega) ?_ | refine lt_f (by omega) ?_ | refine gt_t (by omega) ?_ | refine gt_f (by omega) ?_ | refine ge_t (by omega) ?_ | refine ge_f (by omega) ?_ | refine le_t (by omega) ?_ | refine le_f (by omega) ?_)
    exact hk
theorem below_s {n m : Int} (hn : i64 n) (h0 : 0 ≤ m) (h1 : m ≤ 4611686018427387904) (hk : K (.bool (decide (0 ≤ n ∧ n < m))) w) : Cl prog 170 #[.int .i64 n, .int .i64 m] w K := by
  refine table_below_calls ?_
  unfold table_below
  have hn' := In64.of_wf hn
  have hm : In64 m := by unfold In64; omega
  refine cv_s (cv_s ?_)
  rw [wrap_u64 hn', wrap_u64 hm, if_pos h0]
  unfold In64 at hn'
  by_cases c1 : 0 ≤ n
  · rw [if_pos c1]
    by_cases c2 : n < m
    · rw [decide_eq_true ⟨c1, c2⟩] at hk
      exact lt_t c2 hk
    · rw [decide_eq_false fun h => c2 h.2] at hk
      exact lt_f c2 hk
  · rw [if_neg c1, decide_eq_false fun h => c1 h.1] at *
    exact lt_f (by omega) hk
theorem index_s {v : Value} {l : List Int} {x : Int} (i : Nat) (hi : L[i]? = some S) (hS : Sat e w L) (hr : ∀ g, S g → rdS 1 (intsK .i64) v l g) (hl : l.length ≤ 1000000) (h1 : x ∈ l → ∀ j : Nat, K (.int .i64 j) w) (h2 : x ∉ l → K (.int .i64 (-1)) w) : Cl prog 168 #[v, .int .i64 x] w K := by
  refine slices_Index_int_int_calls ?_
  unfold slices_Index_int_int
  refine lnS_rd hS i hi hr ?_
  refine lpi1 (fun q t8 w' => ∃ j : Nat, j ≤ l.length ∧ t8 = .int .i64 j ∧ q = l.length - j ∧ x ∉ l.take j ∧ w' = w) l.length ⟨0, Nat.zero_le _, rfl, rfl, by simp, rfl⟩ ?_
  rintro q _ w' g ⟨j, hj, rfl, rfl, hno, rfl⟩ hg
  refine lt_c (fun c => iff_t ?_) (fun c => iff_f ?_)
  · obtain ⟨y, hy⟩ := get_of_lt (l := l) (j := j) (by omega)
    refine ixS_rd hS i hi hr (fun _ => rfl) hy fun a ha => ?_
    refine ld1_of hS i hi ha (v := .int .i64 y) rfl ?_
    refine eq_c (fun c2 => iff_t ?_) (fun c2 => iff_f ?_)
    · exact h1 (c2 ▸ List.mem_of_getElem? hy) j
    · refine inc_s (by omega) ?_
      refine hg _ _ _ (by omega) ⟨j + 1, by omega, rfl, rfl, ?_, rfl⟩
      rw [List.take_add_one, hy]
      simp [hno, c2]
  · have ej : j = l.length := by omega
    rw [ej, List.take_length] at hno
    exact h2 hno
theorem contains_s {v : Value} {l : List Int} {x : Int} (i : Nat) (hi : L[i]? = some S) (hS : Sat e w L) (hr : ∀ g, S g → rdS 1 (intsK .i64) v l g) (hl : l.length ≤ 1000000) (hk : K (.bool (decide (x ∈ l))) w) : Cl prog 138 #[v, .int .i64 x] w K := by
  refine slices_Contains_int_int_calls ?_
  unfold slices_Contains_int_int
  refine index_s i hi hS hr hl (fun h j => ?_) (fun h => ?_)
  · rw [decide_eq_true h] at hk
    exact ge_t (by omega) hk
  · rw [decide_eq_false h] at hk
    exact ge_f (by omega) hk

abbrev unV (c d : Nat) : Value := .func (.func 135) #[] #[.pointer (some ⟨c, 0, none⟩), .pointer (some ⟨d, 0, none⟩)]
def UN (c d : Nat) (b : Bool) (er : Int) : HP := sepL [blk c 4 [.bool b], blk d 30 [.int .i64 er]]
theorem unless_s {b : Bool} {er : Int} (hS : Sat e w L) (hk : ∀ c d w', Sat e w' (UN c d b er :: L) → K (unV c d) w') : Cl prog 92 #[.bool b, .int .i64 er] w K := by
  refine config_unless_calls ?_
  unfold config_unless
  refine al_s (cs := [.bool b]) hS rfl fun c w1 h1 => ?_
  refine al_s (cs := [.int .i64 er]) h1 rfl fun d w2 h2 => ?_
  exact hk _ _ _ (Sat.join (l' := [_, _]) h2.swap)
theorem unless1_s {c d : Nat} {b : Bool} {er : Int} (i : Nat) (hi : L[i]? = some (UN c d b er)) (hS : Sat e w L) (hk : K (.int .i64 (if b = true then 0 else er)) w) : clV prog (unV c d) #[] w K := by
  refine ⟨_, _, _, rfl, ?_⟩
  refine config_unless_1_calls (t0 := .pointer (some ⟨c, 0, none⟩)) (t1 := .pointer (some ⟨d, 0, none⟩)) ?_
  unfold config_unless_1
  have h1 := (hS.pick i hi).split
  refine ld1_at h1 0 rfl rfl ?_
  cases b with
  | true => exact iff_t hk
  | false => exact iff_f (ld1_at h1 1 rfl rfl hk)
theorem first_s {v : Value} {fs : List Value} {Es : List Int} (i : Nat) (hi : L[i]? = some S) (hS : Sat e w L) (hr : ∀ g, S g → rdS 1 (fun v => [v]) v fs g) (hl : fs.length ≤ 1000) (hE : Es.length = fs.length)
    (hc : ∀ (j : Nat) fv E, fs[j]? = some fv → Es[j]? = some E → (∀ E' ∈ Es.take j, E' = 0) → ∀ (w : World) (K : KV), Sat e w L → (∀ w', Sat e w' L → K (.int .i64 E) w') → clV prog fv #[] w K)
    (hk : ∀ w', Sat e w' L → K (.int .i64 (firstE Es)) w') : Cl prog 89 #[v] w K := by
  refine config_first_calls ?_
  unfold config_first
  refine lnS_rd hS i hi hr ?_
  refine lpi1 (fun q t8 w' => ∃ j : Nat, j ≤ fs.length ∧ t8 = .int .i64 j ∧ q = fs.length - j ∧ (∀ E' ∈ Es.take j, E' = 0) ∧ Sat e w' L) fs.length ⟨0, Nat.zero_le _, rfl, rfl, by simp, hS⟩ ?_
  rintro q _ w' g ⟨j, hj, rfl, rfl, hno, h1⟩ hg
  have hz : ∀ (l1 l2 : List Int), (∀ E' ∈ l1, E' = 0) → firstE (l1 ++ l2) = firstE l2 := by
    intro l1 l2 h
    induction l1 with
    | nil => rfl
    | cons a l1 ih => rw [List.cons_append, firstE_cons, if_pos (h a (by simp)), ih fun x hx => h x (by simp [hx])]
  refine lt_c (fun c => iff_t ?_) (fun c => iff_f ?_)
  · obtain ⟨fv, hf⟩ := get_of_lt (l := fs) (j := j) (by omega)
    obtain ⟨E, hE'⟩ := get_of_lt (l := Es) (j := j) (by omega)
    refine ixS_rd h1 i hi hr (fun _ => rfl) hf fun a ha => ?_
    refine ld1_of h1 i hi ha (v := fv) rfl ?_
    refine hc j fv E hf hE' hno _ _ h1 fun w2 h2 => ?_
    have hsp : Es = Es.take j ++ E :: Es.drop (j + 1) := by
      rw [← drop_cons hE', List.take_append_drop]
    refine ne_c (fun c2 => iff_t ?_) (fun c2 => iff_f ?_)
    · have := hk _ h2
      rw [hsp, hz _ _ hno, firstE_cons, if_neg c2] at this
      exact this
    · refine inc_s (by omega) ?_
      refine hg _ _ _ (by omega) ⟨j + 1, by omega, rfl, rfl, ?_, h2⟩
      intro E' hE2
      rw [List.take_add_one, hE'] at hE2
      rcases List.mem_append.1 hE2 with h | h
      · exact hno E' h
      · simp at h; rw [h]; exact c2
  · have ej : j = fs.length := by omega
    have := hk _ h1
    rw [ej, ← hE, List.take_length] at hno
    rw [← List.append_nil Es, hz _ _ hno] at this
    exact this
end Go.Proofs.YtbopajpmadlmhaaGreat
namespace Go.Proofs.YtbopajpmadlmhaaGreat
open Go Go.E
set_option maxRecDepth 100000
variable {e w : World} {L R : List HP} {K : KV} {S : HP}

theorem lkM_f {κ ν : Type} [DecidableEq κ] {kf : κ → Value} {vf : ν → Value} {t kt vt : TypeId} {zv : Value} {b : Nat} {m : List (κ × ν)} (KT : KeyT prog kt kf) (MT : MapT prog t kt vt zv) (hS : Sat e w L) (i : Nat) (hi : L[i]? = some (isMap kf vf b m)) (k : κ)
    (hk : K (match lkA m k with | some x => vf x | none => zv) w) : lkM prog t (.map (some b)) (kf k) false w K := by
  obtain ⟨es, clock, h1, h2, h3⟩ := hS.getMap i hi
  obtain ⟨inf, hi1, hi2⟩ := MT.zero
  refine ex_oV (w' := w) ?_ hk
  have hf := KT.fnd k es.toList (m.map (·.1)) (es_keys h2) w
  unfold Instr.lookup
  simp only [Sem.run_bind, run_und MT.und, Result.andThen_ok, run_getObj h1, Sem.run_pure, KT.chk, hf]
  have hl := fidx_lk m k
  cases hx : (m.map (·.1)).findIdx? (fun x => decide (x = k)) with
  | none =>
    rw [hx] at hl
    simp only [Option.bind_none] at hl ⊢
    rw [← hl]
    simp only [Sem.run_bind, run_zero hi1 hi2, Result.andThen_ok, Sem.run_pure]
    rfl
  | some j =>
    rw [hx] at hl
    simp only [Option.bind_some] at hl ⊢
    have hv := es_val h2 j
    have hjl : j < m.length := by
      obtain ⟨hj, _⟩ := List.findIdx?_eq_some_iff_getElem.1 hx
      simpa using hj
    rw [List.getElem?_eq_getElem hjl] at hv hl
    simp only [Option.map_some] at hv hl
    obtain ⟨e', he, hev⟩ := Option.map_eq_some_iff.1 hv
    rw [he, ← hl]
    simp only [Option.map_some, hev]
    rfl
theorem tree_Check_s {v : Value} {l : List Int} (i : Nat) (hi : L[i]? = some S) (hS : Sat e w L) (hr : ∀ g, S g → rdS 1 (intsK .i64) v l g) (hk : K (.int .i64 (treeE l)) w) : Cl prog 91 #[v] w K := by
  refine tree_Check_calls ?_
  unfold tree_Check
  have hbad : ¬ okTree l → K (.int .i64 50) w := fun h => by unfold treeE at hk; rw [if_neg h] at hk; exact hk
  refine lnS_rd hS i hi hr ?_
  by_cases c1 : 1 ≤ l.length
  · by_cases c2 : l.length ≤ 16
    · repeat (first | refine gd_tt ?_ | refine gd_ff ?_ | refine gd_tf ?_ | refine gd_ft ?_ | refine gd_u ?_ | refine pk_t ?_ | refine pk_f ?_ | refine iff_t ?_ | refine iff_f ?_ | refine not_t ?_ | refine not_f ?_ | refine beq_s ?_ | refine bne_s ?_ | refine ncP_p ?_ | refine nc_p ?_ | refine fld_at ?_ | refine xt_02 ?_ | refine xt_12 ?_ | refine xt_03 ?_ | refine xt_13 ?_ | refine xt_23 ?_ | refine eq_t (by omega) ?_ | refine eq_f (by omega) ?_ | refine ne_t (by omega) ?_ | refine ne_f (by omega) ?_ | refine lt_t (by omega) ?_ | refine lt_f (by omega) ?_ | refine gt_t (by omega) ?_ | refine gt_f (by omega) ?_ | refine ge_t (by omega) ?_ | refine ge_f (by omega) ?_ | refine le_t (by omega) ?_ | refine le_f (by omega) ?_)
      refine lnS_rd hS i hi hr ?_
      refine lpi1 (fun q t8 w' => ∃ j : Nat, j ≤ l.length ∧ t8 = .int .i64 j ∧ q = l.length - j ∧ (∀ (i : Nat) p, i < j → l[i]? = some p → -1 ≤ p ∧ p < i) ∧ w' = w) l.length ⟨0, Nat.zero_le _, rfl, rfl, fun _ _ h => absurd h (by omega), rfl⟩ ?_
      rintro q _ w' g ⟨j, hj, rfl, rfl, hno, rfl⟩ hg
      refine lt_c (fun c => iff_t ?_) (fun c => iff_f ?_)
      · obtain ⟨y, hy⟩ := get_of_lt (l := l) (j := j) (by omega)
        refine ixS_rd hS i hi hr (fun _ => rfl) hy fun a ha => ?_
        refine ld1_of hS i hi ha (v := .int .i64 y) rfl ?_
        by_cases c3 : y < -1
        · repeat (first | refine gd_tt ?_ | refine gd_ff ?_ | refine gd_tf ?_ | refine gd_ft ?_ | refine gd_u ?_ | refine pk_t ?_ | refine pk_f ?_ | refine iff_t ?_ | refine iff_f ?_ | refine not_t ?_ | refine not_f ?_ | refine beq_s ?_ | refine bne_s ?_ | refine ncP_p ?_ | refine nc_p ?_ | refine fld_at ?_ | refine xt_02 ?_ | refine xt_12 ?_ | refine xt_03 ?_ | refine xt_13 ?_ | refine xt_23 ?_ | refine eq_t (by omega) ?_ | refine eq_f (by omega) ?_ | refine ne_t (by omega) ?_ | refine ne_f (by omega) ?_ | refine lt_t (by omega) ?_ | refine lt_f (by omega) ?_ | refine gt_t (by omega) ?_ | refine gt_f (by omega) ?_ | refine ge_t (by omega) ?_ | refine ge_f (by omega) ?_ | refine le_t (by omega) ?_ | refine le_f (by omega) ?_)
          exact hbad fun h => by have := h.2.2 j y hy; omega
        · by_cases c4 : (j : Int) ≤ y
          · repeat (first | refine gd_tt ?_ | refine gd_ff ?_ | refine gd_tf ?_ | refine gd_ft ?_ | refine gd_u ?_ | refine pk_t ?_ | refine pk_f ?_ | refine iff_t ?_ | refine iff_f ?_ | refine not_t ?_ | refine not_f ?_ | refine beq_s ?_ | refine bne_s ?_ | refine ncP_p ?_ | refine nc_p ?_ | refine fld_at ?_ | refine xt_02 ?_ | refine xt_12 ?_ | refine xt_03 ?_ | refine xt_13 ?_ | refine xt_23 ?_ | refine eq_t (by omega) ?_ | refine eq_f (by omega) ?_ | refine ne_t (by omega) ?_ | refine ne_f (by omega) ?_ | refine lt_t (by omega) ?_ | refine lt_f (by omega) ?_ | refine gt_t (by omega) ?_ | refine gt_f (by omega) ?_ | refine ge_t (by omega) ?_ | refine ge_f (by omega) ?_ | refine le_t (by omega) ?_ | refine le_f (by omega) ?_)
            exact hbad fun h => by have := h.2.2 j y hy; omega
          · repeat (first | refine gd_tt ?_ | refine gd_ff ?_ | refine gd_tf ?_ | refine gd_ft ?_ | refine gd_u ?_ | refine pk_t ?_ | refine pk_f ?_ | refine iff_t ?_ | refine iff_f ?_ | refine not_t ?_ | refine not_f ?_ | refine beq_s ?_ | refine bne_s ?_ | refine ncP_p ?_ | refine nc_p ?_ | refine fld_at ?_ | refine xt_02 ?_ | refine xt_12 ?_ | refine xt_03 ?_ | refine xt_13 ?_ | refine xt_23 ?_ | refine eq_t (by omega) ?_ | refine eq_f (by omega) ?_ | refine ne_t (by omega) ?_ | refine ne_f (by omega) ?_ | refine lt_t (by omega) ?_ | refine lt_f (by omega) ?_ | refine gt_t (by omega) ?_ | refine gt_f (by omega) ?_ | refine ge_t (by omega) ?_ | refine ge_f (by omega) ?_ | refine le_t (by omega) ?_ | refine le_f (by omega) ?_)
            refine inc_s (by omega) ?_
            refine hg _ _ _ (by omega) ⟨j + 1, by omega, rfl, rfl, fun i p hi hp => ?_, rfl⟩
            by_cases h : i = j
            · subst h
              rw [hy] at hp
              cases hp
              omega
            · exact hno i p (by omega) hp
      · have ej : j = l.length := by omega
        unfold treeE at hk
        rw [if_pos ⟨c1, c2, fun i p hp => hno i p (by have := (List.getElem?_eq_some_iff.1 hp).1; omega) hp⟩] at hk
        exact hk
    · repeat (first | refine gd_tt ?_ | refine gd_ff ?_ | refine gd_tf ?_ | refine gd_ft ?_ | refine gd_u ?_ | refine pk_t ?_ | refine pk_f ?_ | refine iff_t ?_ | refine iff_f ?_ | refine not_t ?_ | refine not_f ?_ | refine beq_s ?_ | refine bne_s ?_ | refine ncP_p ?_ | refine nc_p ?_ | refine fld_at ?_ | refine xt_02 ?_ | refine xt_12 ?_ | refine xt_03 ?_ | refine xt_13 ?_ | refine xt_23 ?_ | refine eq_t (by omega) ?_ | refine eq_f (by omega) ?_ | refine ne_t (by omega) ?_ | refine ne_f (by omega) ?_ | refine lt_t (by omega) ?_ | refine lt_f (by omega) ?_ | refine gt_t (by omega) ?_ | refine gt_f (by omega) ?_ | refine ge_t (by omega) ?_ | refine ge_f (by omega) ?_ | refine le_t (by omega) ?_ | refine le_f (by omega) ?_)
      exact hbad fun h => c2 h.2.1
  · repeat (first | refine gd_tt ?_ | refine gd_ff ?_ | refine gd_tf ?_ | refine gd_ft ?_ | refine gd_u ?_ | refine pk_t ?_ | refine pk_f ?_ | refine iff_t ?_ | refine iff_f ?_ | refine not_t ?_ | refine not_f ?_ | refine beq_s ?_ | refine bne_s ?_ | refine ncP_p ?_ | refine nc_p ?_ | refine fld_at ?_ | refine xt_02 ?_ | refine xt_12 ?_ | refine xt_03 ?_ | refine xt_13 ?_ | refine xt_23 ?_ | refine eq_t (by omega) ?_ | refine eq_f (by omega) ?_ | refine ne_t (by omega) ?_ | refine ne_f (by omega) ?_ | refine lt_t (by omega) ?_ | refine lt_f (by omega) ?_ | refine gt_t (by omega) ?_ | refine gt_f (by omega) ?_ | refine ge_t (by omega) ?_ | refine ge_f (by omega) ?_ | refine le_t (by omega) ?_ | refine le_f (by omega) ?_)
    exact hbad fun h => c1 h.1

theorem odd1_s {o : Out} (ho : o.wf) (hS : Sat e w R) (hk : ∀ w', Sat e w' R → ∀ b : Bool, (b = true ↔ ¬ okOut o) → K (.bool b) w') : clV prog (.func (.func 169) #[] #[]) #[.agg o.cs.toArray] w K := by
  refine ⟨_, _, _, rfl, ?_⟩
  refine table_Check_1_calls (t0 := .agg o.cs.toArray) ?_
  unfold table_Check_1
  obtain ⟨w1, w2, w3⟩ := ho
  refine al_s (cs := o.cs) hS rfl fun b2 w1' h1 => ?_
  have hk := hk w1' h1.drop
  repeat (first | refine gd_tt ?_ | refine gd_ff ?_ | refine gd_tf ?_ | refine gd_ft ?_ | refine gd_u ?_ | refine pk_t ?_ | refine pk_f ?_ | refine iff_t ?_ | refine iff_f ?_ | refine not_t ?_ | refine not_f ?_ | refine beq_s ?_ | refine bne_s ?_ | refine ncP_p ?_ | refine nc_p ?_ | refine fld_at ?_ | refine xt_02 ?_ | refine xt_12 ?_ | refine xt_03 ?_ | refine xt_13 ?_ | refine xt_23 ?_ | refine eq_t (by omega) ?_ | refine eq_f (by omega) ?_ | refine ne_t (by omega) ?_ | refine ne_f (by omega) ?_ | refine lt_t (by omega) ?_ | refine lt_f (by omega) ?_ | refine gt_t (by omega) ?_ | refine gt_f (by omega) ?_ | refine ge_t (by omega) ?_ | refine ge_f (by omega) ?_ | refine le_t (by omega) ?_ | refine le_f (by omega) ?_)
  refine ld1_at h1 0 rfl (v := .int .i64 o.Class) rfl ?_
  refine below_s w1 (by decide) (by decide) ?_
  refine not_d ?_
  by_cases c1 : 0 ≤ o.Class ∧ o.Class < 16
  · rw [decide_eq_true c1, Bool.not_true]
    repeat (first | refine gd_tt ?_ | refine gd_ff ?_ | refine gd_tf ?_ | refine gd_ft ?_ | refine gd_u ?_ | refine pk_t ?_ | refine pk_f ?_ | refine iff_t ?_ | refine iff_f ?_ | refine not_t ?_ | refine not_f ?_ | refine beq_s ?_ | refine bne_s ?_ | refine ncP_p ?_ | refine nc_p ?_ | refine fld_at ?_ | refine xt_02 ?_ | refine xt_12 ?_ | refine xt_03 ?_ | refine xt_13 ?_ | refine xt_23 ?_ | refine eq_t (by omega) ?_ | refine eq_f (by omega) ?_ | refine ne_t (by omega) ?_ | refine ne_f (by omega) ?_ | refine lt_t (by omega) ?_ | refine lt_f (by omega) ?_ | refine gt_t (by omega) ?_ | refine gt_f (by omega) ?_ | refine ge_t (by omega) ?_ | refine ge_f (by omega) ?_ | refine le_t (by omega) ?_ | refine le_f (by omega) ?_)
    refine ld1_at h1 0 rfl (v := .int .i64 o.Delay) rfl ?_
    refine gd_ff (below_s w2 (by decide) (by decide) ?_)
    refine gd_ff (not_d ?_)
    by_cases c2 : 0 ≤ o.Delay ∧ o.Delay < 1048577
    · rw [decide_eq_true c2, Bool.not_true]
      repeat (first | refine gd_tt ?_ | refine gd_ff ?_ | refine gd_tf ?_ | refine gd_ft ?_ | refine gd_u ?_ | refine pk_t ?_ | refine pk_f ?_ | refine iff_t ?_ | refine iff_f ?_ | refine not_t ?_ | refine not_f ?_ | refine beq_s ?_ | refine bne_s ?_ | refine ncP_p ?_ | refine nc_p ?_ | refine fld_at ?_ | refine xt_02 ?_ | refine xt_12 ?_ | refine xt_03 ?_ | refine xt_13 ?_ | refine xt_23 ?_ | refine eq_t (by omega) ?_ | refine eq_f (by omega) ?_ | refine ne_t (by omega) ?_ | refine ne_f (by omega) ?_ | refine lt_t (by omega) ?_ | refine lt_f (by omega) ?_ | refine gt_t (by omega) ?_ | refine gt_f (by omega) ?_ | refine ge_t (by omega) ?_ | refine ge_f (by omega) ?_ | refine le_t (by omega) ?_ | refine le_f (by omega) ?_)
      refine ld1_at h1 0 rfl (v := .int .i64 o.Add) rfl ?_
      refine gd_ff (below_s w3 (by decide) (by decide) ?_)
      refine gd_ff (not_d (pk_f ?_))
      refine hk _ ?_
      unfold okOut
      by_cases c3 : 0 ≤ o.Add ∧ o.Add < 1000
      · simp [c1, c2, c3]
      · rw [decide_eq_false c3]
        simp only [Bool.not_false, true_iff]
        exact fun h => c3 h.2.2.2.2
    · rw [decide_eq_false c2, Bool.not_false]
      repeat (first | refine gd_tt ?_ | refine gd_ff ?_ | refine gd_tf ?_ | refine gd_ft ?_ | refine gd_u ?_ | refine pk_t ?_ | refine pk_f ?_ | refine iff_t ?_ | refine iff_f ?_ | refine not_t ?_ | refine not_f ?_ | refine beq_s ?_ | refine bne_s ?_ | refine ncP_p ?_ | refine nc_p ?_ | refine fld_at ?_ | refine xt_02 ?_ | refine xt_12 ?_ | refine xt_03 ?_ | refine xt_13 ?_ | refine xt_23 ?_ | refine eq_t (by omega) ?_ | refine eq_f (by omega) ?_ | refine ne_t (by omega) ?_ | refine ne_f (by omega) ?_ | refine lt_t (by omega) ?_ | refine lt_f (by omega) ?_ | refine gt_t (by omega) ?_ | refine gt_f (by omega) ?_ | refine ge_t (by omega) ?_ | refine ge_f (by omega) ?_ | refine le_t (by omega) ?_ | refine le_f (by omega) ?_)
      exact hk _ ⟨fun _ (h : okOut o) => c2 ⟨h.2.2.1, h.2.2.2.1⟩, fun _ => rfl⟩
  · rw [decide_eq_false c1, Bool.not_false]
    repeat (first | refine gd_tt ?_ | refine gd_ff ?_ | refine gd_tf ?_ | refine gd_ft ?_ | refine gd_u ?_ | refine pk_t ?_ | refine pk_f ?_ | refine iff_t ?_ | refine iff_f ?_ | refine not_t ?_ | refine not_f ?_ | refine beq_s ?_ | refine bne_s ?_ | refine ncP_p ?_ | refine nc_p ?_ | refine fld_at ?_ | refine xt_02 ?_ | refine xt_12 ?_ | refine xt_03 ?_ | refine xt_13 ?_ | refine xt_23 ?_ | refine eq_t (by omega) ?_ | refine eq_f (by omega) ?_ | refine ne_t (by omega) ?_ | refine ne_f (by omega) ?_ | refine lt_t (by omega) ?_ | refine lt_f (by omega) ?_ | refine gt_t (by omega) ?_ | refine gt_f (by omega) ?_ | refine ge_t (by omega) ?_ | refine ge_f (by omega) ?_ | refine le_t (by omega) ?_ | refine le_f (by omega) ?_)
    exact hk _ ⟨fun _ h => c1 ⟨h.1, h.2.1⟩, fun _ => rfl⟩
theorem containsOut_s {v fv : Value} {l : List Out} {p : Out → Prop} (i : Nat) (hi : L[i]? = some S) (hS : Sat e w L) (hr : ∀ g, S g → rdS 3 Out.cs v l g) (hl : l.length ≤ 1000000)
    (hp : ∀ o ∈ l, ∀ (w : World) (K : KV), Sat e w L → (∀ w', Sat e w' L → ∀ b : Bool, (b = true ↔ p o) → K (.bool b) w') → clV prog fv #[.agg o.cs.toArray] w K)
    (hk : ∀ w', Sat e w' L → ∀ b : Bool, (b = true ↔ ∃ o ∈ l, p o) → K (.bool b) w') : Cl prog 142 #[v, fv] w K := by
  refine slices_ContainsFunc_api_Out_api_Out_calls ?_
  unfold slices_ContainsFunc_api_Out_api_Out
  refine slices_IndexFunc_api_Out_api_Out_calls ?_
  unfold slices_IndexFunc_api_Out_api_Out
  refine lnS_rd hS i hi hr ?_
  refine lpi1 (fun q t8 w => ∃ j : Nat, j ≤ l.length ∧ t8 = .int .i64 j ∧ q = l.length - j ∧ (∀ o ∈ l.take j, ¬ p o) ∧ Sat e w L) l.length ⟨0, Nat.zero_le _, rfl, rfl, by simp, hS⟩ ?_
  rintro q _ w g ⟨j, hj, rfl, rfl, hno, h1⟩ hg
  refine lt_c (fun c => iff_t ?_) (fun c => iff_f ?_)
  · obtain ⟨o, ho⟩ := get_of_lt (l := l) (j := j) (by omega)
    refine ixS_rd h1 i hi hr (fun _ => rfl) ho fun a ha => ?_
    refine ldN_of h1 i hi ha rfl ?_
    refine hp o (List.mem_of_getElem? ho) _ _ h1 fun w2 h2 b hb => ?_
    cases b with
    | true => exact iff_t (ge_t (by omega) (hk _ h2 true ⟨fun _ => ⟨o, List.mem_of_getElem? ho, hb.1 rfl⟩, fun _ => rfl⟩))
    | false =>
      refine iff_f (inc_s (by omega) ?_)
      refine hg _ _ _ (by omega) ⟨j + 1, by omega, rfl, rfl, fun y hy => ?_, h2⟩
      rw [List.take_add_one, ho] at hy
      rcases List.mem_append.1 hy with h | h
      · exact hno y h
      · simp at h
        subst h
        exact fun h => by have := hb.2 h; cases this
  · have ej : j = l.length := by omega
    rw [ej, List.take_length] at hno
    exact ge_f (by omega) (hk _ h1 false ⟨(fun h => by cases h), fun ⟨o, ho, hpo⟩ => absurd hpo (hno o ho)⟩)

structure OnK where
  s : Int
  c : Int
  deriving DecidableEq
def OnK.ns (x : OnK) : List Int := [x.s, x.c]
def kfO (x : OnK) : Value := .agg (ints x.ns).toArray
def vfB (b : Bool) : Value := .bool b
theorem OnK.eq_ns (a b : OnK) : (a.ns == b.ns) = decide (a = b) := by
  rw [Bool.eq_iff_iff]
  obtain ⟨a0, a1⟩ := a
  obtain ⟨b0, b1⟩ := b
  simp [OnK.ns]
theorem keyT_On : KeyT prog 233 kfO :=
  keyT_chk (κ := OnK) (ns := OnK.ns) (n := 6) Tryz.underlying233 eqT_233 agg_233 (by decide) (fun _ => rfl) OnK.eq_ns (fun b k w => by cases b <;> kernel_rfl)
def onK (r : RuleX) : OnK := ⟨r.State, r.Class⟩
theorem okRules_x {l : List RuleX} : okRules (l.map RuleX.r) ↔ l.length ≤ 32 ∧ (∀ r ∈ l, okRule r.r) ∧ (l.map onK).Nodup := by
  unfold okRules
  rw [List.length_map, List.map_map]
  refine and_congr Iff.rfl (and_congr ⟨fun h r hr => h _ (List.mem_map_of_mem hr), fun h r hr => ?_⟩ ?_)
  · obtain ⟨x, hx, rfl⟩ := List.mem_map.1 hr
    exact h x hx
  · rw [List.nodup_iff_pairwise_ne, List.nodup_iff_pairwise_ne, List.pairwise_map, List.pairwise_map]
    constructor
    · refine fun h => h.imp fun hne e => hne ?_
      simp only [onK, OnK.mk.injEq] at e
      simp only [Function.comp, onOf, RuleX.r, e]
    · refine fun h => h.imp fun hne e => hne ?_
      simp only [Function.comp, onOf, RuleX.r, Prod.mk.injEq] at e
      simp only [onK, e]
theorem nodup_at {α β : Type} {f : α → β} {l : List α} {j : Nat} {x : α} (h : (l.map f).Nodup) (hx : l[j]? = some x) : f x ∉ (l.take j).map f := by
  have hsp : l = l.take j ++ x :: l.drop (j + 1) := by rw [← drop_cons hx, List.take_append_drop]
  rw [hsp, List.map_append, List.map_cons, List.nodup_append] at h
  intro hm
  exact h.2.2 _ hm _ List.mem_cons_self rfl
theorem nodup_take {α β : Type} {f : α → β} {l : List α} {j : Nat} {x : α} (h : ((l.take j).map f).Nodup) (hx : l[j]? = some x) (hn : f x ∉ (l.take j).map f) : ((l.take (j + 1)).map f).Nodup := by
  rw [List.take_add_one, hx, Option.toList_some, List.map_append, List.nodup_append]
  refine ⟨h, by simp, fun a ha b hb => ?_⟩
  simp at hb
  subst hb
  exact fun e => hn (e ▸ ha)
open Classical in
theorem table_Check_s {v : Value} {l : List RuleX} (i : Nat) (hi : L[i]? = some S) (hS : Sat e w L) (hr : ∀ g, S g → RdRules v l g) (hwf : ∀ r ∈ l, r.wf) (hl : ∀ r ∈ l, r.Sends.length ≤ 1000000) (hk : ∀ w', Sat e w' L → K (.int .i64 (if okRules (l.map RuleX.r) then 0 else 70)) w') :
    Cl prog 141 #[v] w K := by
  refine table_Check_calls ?_
  unfold table_Check
  have hbad : ¬ okRules (l.map RuleX.r) → ∀ w', Sat e w' L → K (.int .i64 70) w' := fun h w' h' => by have := hk w' h'; rw [if_neg h] at this; exact this
  refine lnS_rd hS i hi (fun g hg => (hr g hg).s) ?_
  by_cases c1 : 32 < l.length
  · repeat (first | refine gd_tt ?_ | refine gd_ff ?_ | refine gd_tf ?_ | refine gd_ft ?_ | refine gd_u ?_ | refine pk_t ?_ | refine pk_f ?_ | refine iff_t ?_ | refine iff_f ?_ | refine not_t ?_ | refine not_f ?_ | refine beq_s ?_ | refine bne_s ?_ | refine ncP_p ?_ | refine nc_p ?_ | refine fld_at ?_ | refine xt_02 ?_ | refine xt_12 ?_ | refine xt_03 ?_ | refine xt_13 ?_ | refine xt_23 ?_ | refine eq_t (by omega) ?_ | refine eq_f (by omega) ?_ | refine ne_t (by omega) ?_ | refine ne_f (by omega) ?_ | refine lt_t (by omega) ?_ | refine lt_f (by omega) ?_ | refine gt_t (by omega) ?_ | refine gt_f (by omega) ?_ | refine ge_t (by omega) ?_ | refine ge_f (by omega) ?_ | refine le_t (by omega) ?_ | refine le_f (by omega) ?_)
    exact hbad (fun h => by have := h.1; rw [List.length_map] at this; omega) _ hS
  refine gt_f (by omega) (iff_f ?_)
  refine mkMap_s kfO vfB hS fun mb w1 h1 => ?_
  refine lnS_rd h1 (i + 1) (by simpa using hi) (fun g hg => (hr g hg).s) ?_
  refine lpi1 (fun q t14 w => ∃ (j : Nat) (m : List (OnK × Bool)), j ≤ l.length ∧ t14 = .int .i64 j ∧ q = l.length - j ∧ (∀ r ∈ l.take j, okRule r.r) ∧ ((l.take j).map onK).Nodup ∧ Uniq m ∧ (∀ k, lkA m k = if k ∈ (l.take j).map onK then some true else none) ∧ Sat e w (isMap kfO vfB mb m :: L)) l.length
    ⟨0, [], Nat.zero_le _, rfl, rfl, by simp, by simp, by simp [Uniq], by simp [lkA], h1⟩ ?_
  rintro q _ w g ⟨j, m, hj, rfl, rfl, hall, hnd, hu, hlk, h2⟩ hg
  refine lt_c (fun c => iff_t ?_) (fun c => iff_f ?_)
  · obtain ⟨r, hrj⟩ := get_of_lt (l := l) (j := j) (by omega)
    have hrm := List.mem_of_getElem? hrj
    obtain ⟨f1, f2, f3, f4⟩ := hwf r hrm
    have hi1 : (isMap kfO vfB mb m :: L)[i + 1]? = some S := by simpa using hi
    refine ixS_rd h2 (i + 1) hi1 (fun g hg => (hr g hg).s) (fun _ => rfl) hrj fun a ha => ?_
    refine ldN_of h2 (i + 1) hi1 ha rfl ?_
    rw [zero_89, zero_233]
    refine al_s (cs := [.int .i64 0, .int .i64 0, .int .i64 0, .slice none 0 0]) h2 rfl fun t w3 h3 => ?_
    have hflat : ∀ c ∈ r.cs, flat c = true := by
      obtain ⟨g, hg, _⟩ := hS.get i hi
      obtain ⟨A, c', hsv, _⟩ := (hr g hg).e r hrm
      intro c hc
      simp only [RuleX.cs, List.mem_cons, List.not_mem_nil, or_false] at hc
      rcases hc with rfl | rfl | rfl | rfl
      · rfl
      · rfl
      · rfl
      · rw [hsv]; rfl
    refine stN_at h3 0 rfl (vs := r.cs) rfl rfl (by simp) hflat (cs' := r.cs) (by rfl) fun w4 h4 => ?_
    repeat (first | refine gd_tt ?_ | refine gd_ff ?_ | refine gd_tf ?_ | refine gd_ft ?_ | refine gd_u ?_ | refine pk_t ?_ | refine pk_f ?_ | refine iff_t ?_ | refine iff_f ?_ | refine not_t ?_ | refine not_f ?_ | refine beq_s ?_ | refine bne_s ?_ | refine ncP_p ?_ | refine nc_p ?_ | refine fld_at ?_ | refine xt_02 ?_ | refine xt_12 ?_ | refine xt_03 ?_ | refine xt_13 ?_ | refine xt_23 ?_ | refine eq_t (by omega) ?_ | refine eq_f (by omega) ?_ | refine ne_t (by omega) ?_ | refine ne_f (by omega) ?_ | refine lt_t (by omega) ?_ | refine lt_f (by omega) ?_ | refine gt_t (by omega) ?_ | refine gt_f (by omega) ?_ | refine ge_t (by omega) ?_ | refine ge_f (by omega) ?_ | refine le_t (by omega) ?_ | refine le_f (by omega) ?_)
    refine ld1_at h4 0 rfl (v := .int .i64 r.State) rfl ?_
    repeat (first | refine gd_tt ?_ | refine gd_ff ?_ | refine gd_tf ?_ | refine gd_ft ?_ | refine gd_u ?_ | refine pk_t ?_ | refine pk_f ?_ | refine iff_t ?_ | refine iff_f ?_ | refine not_t ?_ | refine not_f ?_ | refine beq_s ?_ | refine bne_s ?_ | refine ncP_p ?_ | refine nc_p ?_ | refine fld_at ?_ | refine xt_02 ?_ | refine xt_12 ?_ | refine xt_03 ?_ | refine xt_13 ?_ | refine xt_23 ?_ | refine eq_t (by omega) ?_ | refine eq_f (by omega) ?_ | refine ne_t (by omega) ?_ | refine ne_f (by omega) ?_ | refine lt_t (by omega) ?_ | refine lt_f (by omega) ?_ | refine gt_t (by omega) ?_ | refine gt_f (by omega) ?_ | refine ge_t (by omega) ?_ | refine ge_f (by omega) ?_ | refine le_t (by omega) ?_ | refine le_f (by omega) ?_)
    refine ld1_at h4 0 rfl (v := .int .i64 r.Class) rfl ?_
    refine bld_s [.int .i64 r.State, .int .i64 r.Class] (by kernel_rfl) ?_
    refine al_s (cs := [.int .i64 0, .int .i64 0]) h4 rfl fun t6 w5 h5 => ?_
    refine stN_at h5 0 rfl (vs := ints (onK r).ns) rfl rfl (by simp) (ints_flat _) (cs' := ints (onK r).ns) (by rfl) fun w6 h6 => ?_
    refine ldN_at h6 0 (vs := ints (onK r).ns) rfl (by rfl) rfl ?_
    refine lkM_f keyT_On mapT_231 h6 2 rfl (onK r) ?_
    rw [hlk]
    have hi3 : (blk t6 233 (ints (onK r).ns) :: blk t 89 r.cs :: isMap kfO vfB mb m :: L)[i + 3]? = some S := by simpa using hi
    by_cases hmem : onK r ∈ (l.take j).map onK
    · rw [if_pos hmem]
      show gd (.bool true) false _ _ _
      repeat (first | refine gd_tt ?_ | refine gd_ff ?_ | refine gd_tf ?_ | refine gd_ft ?_ | refine gd_u ?_ | refine pk_t ?_ | refine pk_f ?_ | refine iff_t ?_ | refine iff_f ?_ | refine not_t ?_ | refine not_f ?_ | refine beq_s ?_ | refine bne_s ?_ | refine ncP_p ?_ | refine nc_p ?_ | refine fld_at ?_ | refine xt_02 ?_ | refine xt_12 ?_ | refine xt_03 ?_ | refine xt_13 ?_ | refine xt_23 ?_ | refine eq_t (by omega) ?_ | refine eq_f (by omega) ?_ | refine ne_t (by omega) ?_ | refine ne_f (by omega) ?_ | refine lt_t (by omega) ?_ | refine lt_f (by omega) ?_ | refine gt_t (by omega) ?_ | refine gt_f (by omega) ?_ | refine ge_t (by omega) ?_ | refine ge_f (by omega) ?_ | refine le_t (by omega) ?_ | refine le_f (by omega) ?_)
      exact hbad (fun h => nodup_at (okRules_x.1 h).2.2 hrj hmem) _ h6.drop.drop.drop
    rw [if_neg hmem]
    show gd (.bool false) false _ _ _
    have hno : ¬ okRule r.r → K (.int .i64 70) w6 := fun h => hbad (fun h2 => h ((okRules_x.1 h2).2.1 r hrm)) _ h6.drop.drop.drop
    repeat (first | refine gd_tt ?_ | refine gd_ff ?_ | refine gd_tf ?_ | refine gd_ft ?_ | refine gd_u ?_ | refine pk_t ?_ | refine pk_f ?_ | refine iff_t ?_ | refine iff_f ?_ | refine not_t ?_ | refine not_f ?_ | refine beq_s ?_ | refine bne_s ?_ | refine ncP_p ?_ | refine nc_p ?_ | refine fld_at ?_ | refine xt_02 ?_ | refine xt_12 ?_ | refine xt_03 ?_ | refine xt_13 ?_ | refine xt_23 ?_ | refine eq_t (by omega) ?_ | refine eq_f (by omega) ?_ | refine ne_t (by omega) ?_ | refine ne_f (by omega) ?_ | refine lt_t (by omega) ?_ | refine lt_f (by omega) ?_ | refine gt_t (by omega) ?_ | refine gt_f (by omega) ?_ | refine ge_t (by omega) ?_ | refine ge_f (by omega) ?_ | refine le_t (by omega) ?_ | refine le_f (by omega) ?_)
    refine ld1_at h6 1 rfl (v := .int .i64 r.State) rfl ?_
    refine gd_ff (below_s f1 (by decide) (by decide) ?_)
    refine gd_ff (not_d ?_)
    by_cases d1 : 0 ≤ r.State ∧ r.State < 8
    case neg =>
      rw [decide_eq_false d1, Bool.not_false]
      repeat (first | refine gd_tt ?_ | refine gd_ff ?_ | refine gd_tf ?_ | refine gd_ft ?_ | refine gd_u ?_ | refine pk_t ?_ | refine pk_f ?_ | refine iff_t ?_ | refine iff_f ?_ | refine not_t ?_ | refine not_f ?_ | refine beq_s ?_ | refine bne_s ?_ | refine ncP_p ?_ | refine nc_p ?_ | refine fld_at ?_ | refine xt_02 ?_ | refine xt_12 ?_ | refine xt_03 ?_ | refine xt_13 ?_ | refine xt_23 ?_ | refine eq_t (by omega) ?_ | refine eq_f (by omega) ?_ | refine ne_t (by omega) ?_ | refine ne_f (by omega) ?_ | refine lt_t (by omega) ?_ | refine lt_f (by omega) ?_ | refine gt_t (by omega) ?_ | refine gt_f (by omega) ?_ | refine ge_t (by omega) ?_ | refine ge_f (by omega) ?_ | refine le_t (by omega) ?_ | refine le_f (by omega) ?_)
      exact hno fun h => d1 ⟨h.1, h.2.1⟩
    rw [decide_eq_true d1, Bool.not_true]
    repeat (first | refine gd_tt ?_ | refine gd_ff ?_ | refine gd_tf ?_ | refine gd_ft ?_ | refine gd_u ?_ | refine pk_t ?_ | refine pk_f ?_ | refine iff_t ?_ | refine iff_f ?_ | refine not_t ?_ | refine not_f ?_ | refine beq_s ?_ | refine bne_s ?_ | refine ncP_p ?_ | refine nc_p ?_ | refine fld_at ?_ | refine xt_02 ?_ | refine xt_12 ?_ | refine xt_03 ?_ | refine xt_13 ?_ | refine xt_23 ?_ | refine eq_t (by omega) ?_ | refine eq_f (by omega) ?_ | refine ne_t (by omega) ?_ | refine ne_f (by omega) ?_ | refine lt_t (by omega) ?_ | refine lt_f (by omega) ?_ | refine gt_t (by omega) ?_ | refine gt_f (by omega) ?_ | refine ge_t (by omega) ?_ | refine ge_f (by omega) ?_ | refine le_t (by omega) ?_ | refine le_f (by omega) ?_)
    refine ld1_at h6 1 rfl (v := .int .i64 r.Next) rfl ?_
    refine gd_ff (below_s f3 (by decide) (by decide) ?_)
    refine gd_ff (not_d ?_)
    by_cases d2 : 0 ≤ r.Next ∧ r.Next < 8
    case neg =>
      rw [decide_eq_false d2, Bool.not_false]
      repeat (first | refine gd_tt ?_ | refine gd_ff ?_ | refine gd_tf ?_ | refine gd_ft ?_ | refine gd_u ?_ | refine pk_t ?_ | refine pk_f ?_ | refine iff_t ?_ | refine iff_f ?_ | refine not_t ?_ | refine not_f ?_ | refine beq_s ?_ | refine bne_s ?_ | refine ncP_p ?_ | refine nc_p ?_ | refine fld_at ?_ | refine xt_02 ?_ | refine xt_12 ?_ | refine xt_03 ?_ | refine xt_13 ?_ | refine xt_23 ?_ | refine eq_t (by omega) ?_ | refine eq_f (by omega) ?_ | refine ne_t (by omega) ?_ | refine ne_f (by omega) ?_ | refine lt_t (by omega) ?_ | refine lt_f (by omega) ?_ | refine gt_t (by omega) ?_ | refine gt_f (by omega) ?_ | refine ge_t (by omega) ?_ | refine ge_f (by omega) ?_ | refine le_t (by omega) ?_ | refine le_f (by omega) ?_)
      exact hno fun h => d2 ⟨h.2.2.1, h.2.2.2.1⟩
    rw [decide_eq_true d2, Bool.not_true]
    repeat (first | refine gd_tt ?_ | refine gd_ff ?_ | refine gd_tf ?_ | refine gd_ft ?_ | refine gd_u ?_ | refine pk_t ?_ | refine pk_f ?_ | refine iff_t ?_ | refine iff_f ?_ | refine not_t ?_ | refine not_f ?_ | refine beq_s ?_ | refine bne_s ?_ | refine ncP_p ?_ | refine nc_p ?_ | refine fld_at ?_ | refine xt_02 ?_ | refine xt_12 ?_ | refine xt_03 ?_ | refine xt_13 ?_ | refine xt_23 ?_ | refine eq_t (by omega) ?_ | refine eq_f (by omega) ?_ | refine ne_t (by omega) ?_ | refine ne_f (by omega) ?_ | refine lt_t (by omega) ?_ | refine lt_f (by omega) ?_ | refine gt_t (by omega) ?_ | refine gt_f (by omega) ?_ | refine ge_t (by omega) ?_ | refine ge_f (by omega) ?_ | refine le_t (by omega) ?_ | refine le_f (by omega) ?_)
    refine ld1_at h6 1 rfl (v := .int .i64 r.Class) rfl ?_
    refine gd_ff (below_s f2 (by decide) (by decide) ?_)
    refine gd_ff (not_d ?_)
    by_cases d3 : 0 ≤ r.Class ∧ r.Class < 16
    case neg =>
      rw [decide_eq_false d3, Bool.not_false]
      repeat (first | refine gd_tt ?_ | refine gd_ff ?_ | refine gd_tf ?_ | refine gd_ft ?_ | refine gd_u ?_ | refine pk_t ?_ | refine pk_f ?_ | refine iff_t ?_ | refine iff_f ?_ | refine not_t ?_ | refine not_f ?_ | refine beq_s ?_ | refine bne_s ?_ | refine ncP_p ?_ | refine nc_p ?_ | refine fld_at ?_ | refine xt_02 ?_ | refine xt_12 ?_ | refine xt_03 ?_ | refine xt_13 ?_ | refine xt_23 ?_ | refine eq_t (by omega) ?_ | refine eq_f (by omega) ?_ | refine ne_t (by omega) ?_ | refine ne_f (by omega) ?_ | refine lt_t (by omega) ?_ | refine lt_f (by omega) ?_ | refine gt_t (by omega) ?_ | refine gt_f (by omega) ?_ | refine ge_t (by omega) ?_ | refine ge_f (by omega) ?_ | refine le_t (by omega) ?_ | refine le_f (by omega) ?_)
      exact hno fun h => d3 ⟨h.2.2.2.2.1, h.2.2.2.2.2.1⟩
    rw [decide_eq_true d3, Bool.not_true]
    repeat (first | refine gd_tt ?_ | refine gd_ff ?_ | refine gd_tf ?_ | refine gd_ft ?_ | refine gd_u ?_ | refine pk_t ?_ | refine pk_f ?_ | refine iff_t ?_ | refine iff_f ?_ | refine not_t ?_ | refine not_f ?_ | refine beq_s ?_ | refine bne_s ?_ | refine ncP_p ?_ | refine nc_p ?_ | refine fld_at ?_ | refine xt_02 ?_ | refine xt_12 ?_ | refine xt_03 ?_ | refine xt_13 ?_ | refine xt_23 ?_ | refine eq_t (by omega) ?_ | refine eq_f (by omega) ?_ | refine ne_t (by omega) ?_ | refine ne_f (by omega) ?_ | refine lt_t (by omega) ?_ | refine lt_f (by omega) ?_ | refine gt_t (by omega) ?_ | refine gt_f (by omega) ?_ | refine ge_t (by omega) ?_ | refine ge_f (by omega) ?_ | refine le_t (by omega) ?_ | refine le_f (by omega) ?_)
    refine ld1_at h6 1 rfl (v := r.sv) rfl ?_
    refine gd_ff (lnS_rd h6 (i + 3) hi3 (fun g hg => (hr g hg).e r hrm) ?_)
    by_cases d4 : 3 < r.Sends.length
    · repeat (first | refine gd_tt ?_ | refine gd_ff ?_ | refine gd_tf ?_ | refine gd_ft ?_ | refine gd_u ?_ | refine pk_t ?_ | refine pk_f ?_ | refine iff_t ?_ | refine iff_f ?_ | refine not_t ?_ | refine not_f ?_ | refine beq_s ?_ | refine bne_s ?_ | refine ncP_p ?_ | refine nc_p ?_ | refine fld_at ?_ | refine xt_02 ?_ | refine xt_12 ?_ | refine xt_03 ?_ | refine xt_13 ?_ | refine xt_23 ?_ | refine eq_t (by omega) ?_ | refine eq_f (by omega) ?_ | refine ne_t (by omega) ?_ | refine ne_f (by omega) ?_ | refine lt_t (by omega) ?_ | refine lt_f (by omega) ?_ | refine gt_t (by omega) ?_ | refine gt_f (by omega) ?_ | refine ge_t (by omega) ?_ | refine ge_f (by omega) ?_ | refine le_t (by omega) ?_ | refine le_f (by omega) ?_)
      exact hno fun h => by have := h.2.2.2.2.2.2.1; simp only [RuleX.r] at this; omega
    refine gd_ff (gt_f (by omega) ?_)
    repeat (first | refine gd_tt ?_ | refine gd_ff ?_ | refine gd_tf ?_ | refine gd_ft ?_ | refine gd_u ?_ | refine pk_t ?_ | refine pk_f ?_ | refine iff_t ?_ | refine iff_f ?_ | refine not_t ?_ | refine not_f ?_ | refine beq_s ?_ | refine bne_s ?_ | refine ncP_p ?_ | refine nc_p ?_ | refine fld_at ?_ | refine xt_02 ?_ | refine xt_12 ?_ | refine xt_03 ?_ | refine xt_13 ?_ | refine xt_23 ?_ | refine eq_t (by omega) ?_ | refine eq_f (by omega) ?_ | refine ne_t (by omega) ?_ | refine ne_f (by omega) ?_ | refine lt_t (by omega) ?_ | refine lt_f (by omega) ?_ | refine gt_t (by omega) ?_ | refine gt_f (by omega) ?_ | refine ge_t (by omega) ?_ | refine ge_f (by omega) ?_ | refine le_t (by omega) ?_ | refine le_f (by omega) ?_)
    refine ld1_at h6 1 rfl (v := r.sv) rfl ?_
    refine gd_ff (gd_ff (containsOut_s (p := fun o => ¬ okOut o) (i + 3) hi3 h6 (fun g hg => (hr g hg).e r hrm) (hl r hrm) (fun o ho w K h hk => odd1_s (f4 o ho) h hk) fun w7 h7 b hb => ?_))
    refine pk_f (iff_b b (fun hbt => ?_) (fun hbf => ?_))
    · obtain ⟨o, ho, hno'⟩ := hb.1 hbt
      exact hbad (fun h2 => hno' (((okRules_x.1 h2).2.1 r hrm).2.2.2.2.2.2.2 o ho)) _ h7.drop.drop.drop
    · refine ldN_at h7 0 (vs := ints (onK r).ns) rfl (by rfl) rfl ?_
      refine upM_s keyT_On mapT_231 hu (h7.pick 2 rfl) (onK r) true rfl fun w8 h8 => ?_
      refine inc_s (by omega) ?_
      refine hg _ _ _ (by omega) ⟨j + 1, _, by omega, rfl, rfl, fun x hx => ?_, nodup_take hnd hrj hmem, hu.up _ _, fun k => ?_, h8.selR [_, _, _] [_] [0] (by decide) rfl⟩
      · rw [List.take_add_one, hrj] at hx
        rcases List.mem_append.1 hx with h | h
        · exact hall x h
        · simp at h
          subst h
          refine ⟨d1.1, d1.2, d2.1, d2.2, d3.1, d3.2, by simp only [RuleX.r]; omega, fun o ho => Classical.not_not.1 fun h => ?_⟩
          have := hb.2 ⟨o, ho, h⟩
          rw [hbf] at this
          cases this
      · rw [lkA_up hu, hlk, List.take_add_one, hrj, Option.toList_some, List.map_append]
        by_cases hk1 : k = onK r
        · simp [hk1]
        · simp [hk1]
  · have ej : j = l.length := by omega
    rw [ej, List.take_length] at hall hnd
    have := hk _ h2.drop
    rw [if_pos (okRules_x.2 ⟨by omega, hall, hnd⟩)] at this
    exact this
end Go.Proofs.YtbopajpmadlmhaaGreat
end
section
namespace Go.Proofs.YtbopajpmadlmhaaGreat
open Go Go.E
set_option maxRecDepth 100000
variable {e w : World} {L R : List HP} {K : KV} {S : HP}

structure FedX.short (f : FedX) : Prop where
  pubs : f.Pubs.length ≤ 1000
  subs : f.Subs.length ≤ 1000
  init : f.Init.length ≤ 1000
  rules : f.Rules.length ≤ 1000
  sends : ∀ r ∈ f.Rules, r.Sends.length ≤ 1000
theorem rising_drop {most lo : Int} : ∀ {l : List Int}, rising most lo l ↔ ∀ (i : Nat) c, l[i]? = some c → (if i = 0 then lo else l.getD (i - 1) 0) < c ∧ c < most := by
  intro l
  induction l generalizing lo with
  | nil => simp [rising]
  | cons a l ih =>
    unfold rising
    rw [ih]
    constructor
    · rintro ⟨h1, h2, h3⟩ i c hc
      match i with
      | 0 => simp at hc; subst hc; exact ⟨h1, h2⟩
      | 1 => have := h3 0 c (by simpa using hc); simpa using this
      | i + 2 => have := h3 (i + 1) c (by simpa using hc); simpa using this
    · intro h
      refine ⟨(h 0 a rfl).1, (h 0 a rfl).2, fun i c hc => ?_⟩
      match i with
      | 0 => have := h 1 c (by simpa using hc); simpa using this
      | i + 1 => have := h (i + 2) c (by simpa using hc); simpa using this
open Classical in
theorem rising_s {v : Value} {l : List Int} {most : Int} {b : Nat} (i k : Nat) (hi : L[i]? = some S) (hb : L[k]? = some (blk b 3 [.int .i64 most])) (hS : Sat e w L) (hr : ∀ g, S g → rdS 1 (intsK .i64) v l g) (hl : l.length ≤ 1000)
    (hk : K (.bool (decide (rising most (-1) l))) w) : clV prog (.func (.func 136) #[] #[.pointer (some ⟨b, 0, none⟩)]) #[v] w K := by
  refine ⟨_, _, _, rfl, ?_⟩
  refine config_fed_1_calls (t0 := v) (t1 := .pointer (some ⟨b, 0, none⟩)) ?_
  unfold config_fed_1
  have hbad : ¬ rising most (-1) l → K (.bool false) w := fun h => by rw [decide_eq_false h] at hk; exact hk
  refine lnS_rd hS i hi hr ?_
  refine lpi2 (fun q t4 t9 w' => ∃ j : Nat, j ≤ l.length ∧ t9 = .int .i64 j ∧ t4 = .int .i64 (if j = 0 then -1 else l.getD (j - 1) 0) ∧ q = l.length - j ∧ (∀ (i : Nat) c, i < j → l[i]? = some c → (if i = 0 then -1 else l.getD (i - 1) 0) < c ∧ c < most) ∧ w' = w) l.length ⟨0, Nat.zero_le _, rfl, rfl, rfl, fun _ _ h => absurd h (by omega), rfl⟩ ?_
  rintro q _ _ w' g ⟨j, hj, rfl, rfl, rfl, hno, rfl⟩ hg
  refine lt_c (fun c => iff_t ?_) (fun c => iff_f ?_)
  · obtain ⟨y, hy⟩ := get_of_lt (l := l) (j := j) (by omega)
    refine ixS_rd hS i hi hr (fun _ => rfl) hy fun a ha => ?_
    refine ld1_of hS i hi ha (v := .int .i64 y) rfl ?_
    generalize hlo : (if j = 0 then (-1 : Int) else l.getD (j - 1) 0) = lo
    by_cases c1 : y ≤ lo
    · repeat (first | refine gd_tt ?_ | refine gd_ff ?_ | refine gd_tf ?_ | refine gd_ft ?_ | refine gd_u ?_ | refine pk_t ?_ | refine pk_f ?_ | refine iff_t ?_ | refine iff_f ?_ | refine not_t ?_ | refine not_f ?_ | refine beq_s ?_ | refine bne_s ?_ | refine ncP_p ?_ | refine nc_p ?_ | refine fld_at ?_ | refine xt_02 ?_ | refine xt_12 ?_ | refine xt_03 ?_ | refine xt_13 ?_ | refine xt_23 ?_ | refine eq_t (by omega) ?_ | refine eq_f (by omega) ?_ | refine ne_t (by omega) ?_ | refine ne_f (by omega) ?_ | refine lt_t (by omega) ?_ | refine lt_f (by omega) ?_ | refine gt_t (by omega) ?_ | refine gt_f (by omega) ?_ | refine ge_t (by omega) ?_ | refine ge_f (by omega) ?_ | refine le_t (by omega) ?_ | refine le_f (by omega) ?_)
      refine hbad fun h => ?_
      have := (rising_drop.1 h j y hy).1
      omega
    refine le_f c1 ?_
    repeat (first | refine gd_tt ?_ | refine gd_ff ?_ | refine gd_tf ?_ | refine gd_ft ?_ | refine gd_u ?_ | refine pk_t ?_ | refine pk_f ?_ | refine iff_t ?_ | refine iff_f ?_ | refine not_t ?_ | refine not_f ?_ | refine beq_s ?_ | refine bne_s ?_ | refine ncP_p ?_ | refine nc_p ?_ | refine fld_at ?_ | refine xt_02 ?_ | refine xt_12 ?_ | refine xt_03 ?_ | refine xt_13 ?_ | refine xt_23 ?_ | refine eq_t (by omega) ?_ | refine eq_f (by omega) ?_ | refine ne_t (by omega) ?_ | refine ne_f (by omega) ?_ | refine lt_t (by omega) ?_ | refine lt_f (by omega) ?_ | refine gt_t (by omega) ?_ | refine gt_f (by omega) ?_ | refine ge_t (by omega) ?_ | refine ge_f (by omega) ?_ | refine le_t (by omega) ?_ | refine le_f (by omega) ?_)
    refine ld1_at hS k hb rfl ?_
    by_cases c2 : most ≤ y
    · repeat (first | refine gd_tt ?_ | refine gd_ff ?_ | refine gd_tf ?_ | refine gd_ft ?_ | refine gd_u ?_ | refine pk_t ?_ | refine pk_f ?_ | refine iff_t ?_ | refine iff_f ?_ | refine not_t ?_ | refine not_f ?_ | refine beq_s ?_ | refine bne_s ?_ | refine ncP_p ?_ | refine nc_p ?_ | refine fld_at ?_ | refine xt_02 ?_ | refine xt_12 ?_ | refine xt_03 ?_ | refine xt_13 ?_ | refine xt_23 ?_ | refine eq_t (by omega) ?_ | refine eq_f (by omega) ?_ | refine ne_t (by omega) ?_ | refine ne_f (by omega) ?_ | refine lt_t (by omega) ?_ | refine lt_f (by omega) ?_ | refine gt_t (by omega) ?_ | refine gt_f (by omega) ?_ | refine ge_t (by omega) ?_ | refine ge_f (by omega) ?_ | refine le_t (by omega) ?_ | refine le_f (by omega) ?_)
      refine hbad fun h => ?_
      have := (rising_drop.1 h j y hy).2
      omega
    refine gd_ff (ge_f (by omega) (pk_f (iff_f (inc_s (by omega) ?_))))
    refine hg _ _ _ _ (by omega) ⟨j + 1, by omega, rfl, ?_, rfl, fun i c hi hc => ?_, rfl⟩
    · rw [if_neg (by omega), Nat.add_sub_cancel, List.getD_eq_getElem?_getD, hy]
      rfl
    · by_cases h : i = j
      · subst h
        rw [hy] at hc
        cases hc
        rw [hlo]
        omega
      · exact hno i c (by omega) hc
  · have ej : j = l.length := by omega
    rw [decide_eq_true (rising_drop.2 fun i c hc => hno i c (by have := (List.getElem?_eq_some_iff.1 hc).1; omega) hc)] at hk
    exact hk

theorem sendsE_cons (f : Fed) (o : Out) (l : List Out) : sendsE f (o :: l) = if o.Class ∉ f.Pubs then 81 else if o.Delay < f.Look then 80 else sendsE f l := rfl
theorem rulesE_cons (f : Fed) (most : Int) (r : Rule) (l : List Rule) : rulesE f most (r :: l) = if most ≤ r.Class then 81 else if sendsE f r.Sends ≠ 0 then sendsE f r.Sends else rulesE f most l := rfl
theorem sendsE_app (f : Fed) : ∀ (a b : List Out), sendsE f a = 0 → sendsE f (a ++ b) = sendsE f b
  | [], _, _ => rfl
  | o :: a, b, h => by
    rw [sendsE_cons] at h
    rw [List.cons_append, sendsE_cons]
    split at h
    · cases h
    · rename_i h1
      split at h
      · cases h
      · rename_i h2
        rw [if_neg h1, if_neg h2]
        exact sendsE_app f a b h
theorem rulesE_app (f : Fed) (most : Int) : ∀ (a b : List Rule), rulesE f most a = 0 → rulesE f most (a ++ b) = rulesE f most b
  | [], _, _ => rfl
  | r :: a, b, h => by
    rw [rulesE_cons] at h
    rw [List.cons_append, rulesE_cons]
    split at h
    · cases h
    · rename_i h1
      split at h
      · rename_i h2
        exact absurd h h2
      · rename_i h2
        rw [if_neg h1, if_neg h2]
        exact rulesE_app f most a b h
theorem take_split {α : Type} {l : List α} {j : Nat} {x : α} (h : l[j]? = some x) : l = l.take j ++ x :: l.drop (j + 1) := by rw [← drop_cons h, List.take_append_drop]
theorem rules_s {f : FedX} {most : Int} {b c : Nat} (i k m : Nat) (hi : L[i]? = some S) (hb : L[k]? = some (blk b 66 f.cs)) (hc : L[m]? = some (blk c 3 [.int .i64 most])) (hS : Sat e w L) (hr : ∀ g, S g → RdFed f g) (hs : f.short)
    (hk : ∀ w', Sat e w' L → K (.int .i64 (rulesE f.f most f.f.Rules)) w') : clV prog (.func (.func 137) #[] #[.pointer (some ⟨b, 0, none⟩), .pointer (some ⟨c, 0, none⟩)]) #[] w K := by
  refine ⟨_, _, _, rfl, ?_⟩
  refine config_fed_2_calls (t0 := .pointer (some ⟨b, 0, none⟩)) (t1 := .pointer (some ⟨c, 0, none⟩)) ?_
  unfold config_fed_2
  rw [zero_89, zero_87]
  refine fld_at (ld1_at hS k hb (v := f.rv) rfl ?_)
  refine lnS_rd hS i hi (fun g hg => (hr g hg).rules.s) ?_
  have hrl := hs.rules
  refine lpi1 (fun q t11 w => ∃ j : Nat, j ≤ f.Rules.length ∧ t11 = .int .i64 j ∧ q = f.Rules.length - j ∧ rulesE f.f most ((f.Rules.take j).map RuleX.r) = 0 ∧ Sat e w L) f.Rules.length ⟨0, Nat.zero_le _, rfl, rfl, rfl, hS⟩ ?_
  rintro q _ w g ⟨j, hj, rfl, rfl, hno, h1⟩ hg
  refine lt_c (fun c0 => iff_t ?_) (fun c0 => iff_f ?_)
  · obtain ⟨r, hrj⟩ := get_of_lt (l := f.Rules) (j := j) (by omega)
    have hrm := List.mem_of_getElem? hrj
    have hsl := hs.sends r hrm
    have hsp : f.f.Rules = (f.Rules.take j).map RuleX.r ++ r.r :: (f.Rules.drop (j + 1)).map RuleX.r := by
      show f.Rules.map RuleX.r = _
      conv => lhs; rw [take_split hrj]
      simp
    have hkE : ∀ w', Sat e w' L → K (.int .i64 (rulesE f.f most (r.r :: (f.Rules.drop (j + 1)).map RuleX.r))) w' := by
      intro w' h'
      have := hk w' h'
      rw [hsp, rulesE_app _ _ _ _ hno] at this
      exact this
    refine ixS_rd h1 i hi (fun g hg => (hr g hg).rules.s) (fun _ => rfl) hrj fun a ha => ?_
    refine ldN_of h1 i hi ha rfl ?_
    have hflat : ∀ c ∈ r.cs, flat c = true := by
      obtain ⟨g, hg, _⟩ := hS.get i hi
      obtain ⟨A, c', hsv, _⟩ := (hr g hg).rules.e r hrm
      intro c hc
      simp only [RuleX.cs, List.mem_cons, List.not_mem_nil, or_false] at hc
      rcases hc with rfl | rfl | rfl | rfl
      · rfl
      · rfl
      · rfl
      · rw [hsv]; rfl
    refine al_s (cs := [.int .i64 0, .int .i64 0, .int .i64 0, .slice none 0 0]) h1 rfl fun t w3 h3 => ?_
    refine stN_at h3 0 rfl (vs := r.cs) rfl rfl (by simp) hflat (cs' := r.cs) (by rfl) fun w4 h4 => ?_
    have hi1 : (blk t 89 r.cs :: L)[i + 1]? = some S := by simpa using hi
    have hb1 : (blk t 89 r.cs :: L)[k + 1]? = some (blk b 66 f.cs) := by simpa using hb
    have hc1 : (blk t 89 r.cs :: L)[m + 1]? = some (blk c 3 [.int .i64 most]) := by simpa using hc
    refine fld_at (ld1_at h4 0 rfl (v := .int .i64 r.Class) rfl ?_)
    refine ld1_at h4 (m + 1) hc1 rfl ?_
    refine ge_c (fun c2 => iff_t ?_) (fun c2 => iff_f ?_)
    · have := hkE _ h4.drop
      rw [rulesE_cons] at this
      rw [if_pos (show most ≤ r.r.Class from c2)] at this
      exact this
    refine fld_at (ld1_at h4 0 rfl (v := r.sv) rfl ?_)
    refine lnS_rd h4 (i + 1) hi1 (fun g hg => (hr g hg).rules.e r hrm) ?_
    refine lpi1 (fun q t22 w => ∃ n : Nat, n ≤ r.Sends.length ∧ t22 = .int .i64 n ∧ q = r.Sends.length - n ∧ sendsE f.f (r.Sends.take n) = 0 ∧ Sat e w (blk t 89 r.cs :: L)) r.Sends.length ⟨0, Nat.zero_le _, rfl, rfl, rfl, h4⟩ ?_
    rintro q _ w g2 ⟨n, hn, rfl, rfl, hso, h5⟩ hg2
    refine lt_c (fun c3 => iff_t ?_) (fun c3 => iff_f ?_)
    · obtain ⟨o, ho⟩ := get_of_lt (l := r.Sends) (j := n) (by omega)
      have hsp2 := take_split ho
      refine ixS_rd h5 (i + 1) hi1 (fun g hg => (hr g hg).rules.e r hrm) (fun _ => rfl) ho fun a ha => ?_
      refine ldN_of h5 (i + 1) hi1 ha rfl ?_
      refine al_s (cs := ints [0, 0, 0]) h5 rfl fun t2 w6 h6 => ?_
      refine stN_at h6 0 rfl (vs := o.cs) rfl rfl (by decide) (ints_flat _) (cs' := o.cs) (by rfl) fun w7 h7 => ?_
      refine dr_s h7 fun w8 h8 => ?_
      have hi2 : (blk t2 87 o.cs :: blk t 89 r.cs :: L)[i + 2]? = some S := by simpa using hi
      have hb2 : (blk t2 87 o.cs :: blk t 89 r.cs :: L)[k + 2]? = some (blk b 66 f.cs) := by simpa using hb
      refine fld_at (ld1_at h8 (k + 2) hb2 (v := f.pv) rfl ?_)
      refine fld_at (ld1_at h8 0 rfl (v := .int .i64 o.Class) rfl ?_)
      refine fld_at (ld1_at h8 0 rfl (v := .int .i64 o.Delay) rfl ?_)
      refine fld_at (ld1_at h8 (k + 2) hb2 (v := .int .i64 f.Look) rfl ?_)
      refine ge_d ?_
      refine contains_s (i + 2) hi2 h8 (fun g hg => (hr g hg).pubs) (by have := hs.pubs; omega) ?_
      refine ⟨ld1_at h8 (k + 2) hb2 (v := .int .i64 f.Look) rfl ⟨rfl, rfl⟩, ld1_at h8 0 rfl (v := .int .i64 o.Delay) rfl ⟨rfl, rfl⟩, ?_⟩
      refine unless_s h8 fun c3' d3 w9 h9 => ?_
      have hb3 : (UN c3' d3 (decide (o.Class ∈ f.Pubs)) 81 :: blk t2 87 o.cs :: blk t 89 r.cs :: L)[k + 3]? = some (blk b 66 f.cs) := by simpa using hb
      refine ⟨ld1_at h9 (k + 3) hb3 (v := .int .i64 f.Look) rfl ⟨rfl, rfl⟩, ld1_at h9 1 rfl (v := .int .i64 o.Delay) rfl ⟨rfl, rfl⟩, ?_⟩
      refine unless_s h9 fun c4 d4 w10 h10 => ?_
      refine bsl_s [unV c3' d3, unV c4 d4] h10 (by kernel_rfl) fun bb w11 h11 => ?_
      refine first_s (fs := [unV c3' d3, unV c4 d4]) (Es := [if decide (o.Class ∈ f.Pubs) = true then 0 else 81, if decide (f.Look ≤ o.Delay) = true then 0 else 80]) 0 rfl h11 (blk_rdn (f := fun v => [v]) [unV c3' d3, unV c4 d4] rfl (Nat.le_refl _)) (by simp) rfl (fun j fv E hf hE _ w K hw hK => ?_) fun w12 h12 => ?_
      · match j with
        | 0 =>
          simp only [List.getElem?_cons_zero, Option.some.injEq] at hf hE
          subst hf hE
          exact unless1_s 2 rfl hw (hK _ hw)
        | 1 =>
          simp only [List.getElem?_cons_succ, List.getElem?_cons_zero, Option.some.injEq] at hf hE
          subst hf hE
          exact unless1_s 1 rfl hw (hK _ hw)
        | j + 2 => simp at hf
      · have h13 : Sat e w12 (blk t 89 r.cs :: L) := h12.drop.drop.drop.drop
        have hkS : ∀ E, E ≠ 0 → sendsE f.f (o :: r.Sends.drop (n + 1)) = E → K (.int .i64 E) w12 := by
          intro E hE0 hE
          have := hkE _ h13.drop
          rw [rulesE_cons] at this
          have e1 : sendsE f.f r.r.Sends = E := by
            show sendsE f.f r.Sends = E
            rw [hsp2, sendsE_app _ _ _ hso]
            exact hE
          rw [if_neg (show ¬ most ≤ r.r.Class by simp only [RuleX.r]; omega), e1, if_pos hE0] at this
          exact this
        rw [firstE_cons, firstE_cons, firstE_nil]
        by_cases d1 : o.Class ∈ f.Pubs
        · by_cases d2 : f.Look ≤ o.Delay
          · rw [decide_eq_true d1, decide_eq_true d2]
            simp only [if_true]
            refine ne_f rfl (iff_f (inc_s (by omega) ?_))
            refine hg2 _ _ _ (by omega) ⟨n + 1, by omega, rfl, rfl, ?_, h13⟩
            rw [List.take_add_one, ho, sendsE_app _ _ _ hso]
            show sendsE f.f [o] = 0
            rw [sendsE_cons]
            rw [if_neg (show ¬ o.Class ∉ f.f.Pubs from fun h => h d1), if_neg (show ¬ o.Delay < f.f.Look by simp only [FedX.f]; omega)]
            rfl
          · rw [decide_eq_true d1, decide_eq_false d2]
            refine ne_t (by decide) (iff_t (hkS 80 (by decide) ?_))
            rw [sendsE_cons]
            rw [if_neg (show ¬ o.Class ∉ f.f.Pubs from fun h => h d1), if_pos (show o.Delay < f.f.Look by simp only [FedX.f]; omega)]
        · rw [decide_eq_false d1]
          refine ne_t (by simp) (iff_t (hkS 81 (by decide) ?_))
          rw [sendsE_cons]
          rw [if_pos (show o.Class ∉ f.f.Pubs from d1)]
    · have en : n = r.Sends.length := by omega
      rw [en, List.take_length] at hso
      refine inc_s (by omega) ?_
      refine hg _ _ _ (by omega) ⟨j + 1, by omega, rfl, rfl, ?_, h5.drop⟩
      rw [List.take_add_one, hrj, List.map_append, rulesE_app _ _ _ _ hno]
      show rulesE f.f most [r.r] = 0
      rw [rulesE_cons]
      rw [if_neg (show ¬ most ≤ r.r.Class by simp only [RuleX.r]; omega), if_neg (show ¬ sendsE f.f r.r.Sends ≠ 0 from fun h => h hso)]
      rfl
  · have ej : j = f.Rules.length := by omega
    rw [ej, List.take_length] at hno
    have := hk _ h1
    rw [show f.f.Rules = f.Rules.map RuleX.r from rfl, hno] at this
    exact this
end Go.Proofs.YtbopajpmadlmhaaGreat
namespace Go.Proofs.YtbopajpmadlmhaaGreat
open Go Go.E
set_option maxRecDepth 100000
variable {e w : World} {L R : List HP} {K : KV} {S : HP}

def okIni (f : Fed) (o : Out) : Prop := o.Class ∈ f.Pubs ∧ 0 ≤ o.Delay ∧ o.Delay ≤ 1099511627776 ∧ 0 ≤ o.Add ∧ o.Add ≤ 999
theorem odd2_s {f : FedX} {b : Nat} {o : Out} (i k : Nat) (hi : L[i]? = some S) (hb : L[k]? = some (blk b 66 f.cs)) (hS : Sat e w L) (hr : ∀ g, S g → RdFed f g) (hs : f.short)
    (hk : ∀ w', Sat e w' L → ∀ q : Bool, (q = true ↔ ¬ okIni f.f o) → K (.bool q) w') : clV prog (.func (.func 139) #[] #[.pointer (some ⟨b, 0, none⟩)]) #[.agg o.cs.toArray] w K := by
  refine ⟨_, _, _, rfl, ?_⟩
  refine config_fed_3_calls (t0 := .agg o.cs.toArray) (t1 := .pointer (some ⟨b, 0, none⟩)) ?_
  unfold config_fed_3
  refine al_s (cs := o.cs) hS rfl fun t w1 h1 => ?_
  have hi1 : (blk t 87 o.cs :: L)[i + 1]? = some S := by simpa using hi
  have hb1 : (blk t 87 o.cs :: L)[k + 1]? = some (blk b 66 f.cs) := by simpa using hb
  have hk := hk w1 h1.drop
  refine fld_at (ld1_at h1 (k + 1) hb1 (v := f.pv) rfl ?_)
  refine fld_at (ld1_at h1 0 rfl (v := .int .i64 o.Class) rfl ?_)
  refine contains_s (i + 1) hi1 h1 (fun g hg => (hr g hg).pubs) (by have := hs.pubs; omega) (not_d ?_)
  by_cases c1 : o.Class ∈ f.Pubs
  case neg =>
    rw [decide_eq_false c1, Bool.not_false]
    repeat (first | refine gd_tt ?_ | refine gd_ff ?_ | refine gd_tf ?_ | refine gd_ft ?_ | refine gd_u ?_ | refine pk_t ?_ | refine pk_f ?_ | refine iff_t ?_ | refine iff_f ?_ | refine not_t ?_ | refine not_f ?_ | refine beq_s ?_ | refine bne_s ?_ | refine ncP_p ?_ | refine nc_p ?_ | refine fld_at ?_ | refine xt_02 ?_ | refine xt_12 ?_ | refine xt_03 ?_ | refine xt_13 ?_ | refine xt_23 ?_ | refine eq_t (by omega) ?_ | refine eq_f (by omega) ?_ | refine ne_t (by omega) ?_ | refine ne_f (by omega) ?_ | refine lt_t (by omega) ?_ | refine lt_f (by omega) ?_ | refine gt_t (by omega) ?_ | refine gt_f (by omega) ?_ | refine ge_t (by omega) ?_ | refine ge_f (by omega) ?_ | refine le_t (by omega) ?_ | refine le_f (by omega) ?_)
    exact hk true ⟨fun _ h => c1 h.1, fun _ => rfl⟩
  rw [decide_eq_true c1, Bool.not_true]
  repeat (first | refine gd_tt ?_ | refine gd_ff ?_ | refine gd_tf ?_ | refine gd_ft ?_ | refine gd_u ?_ | refine pk_t ?_ | refine pk_f ?_ | refine iff_t ?_ | refine iff_f ?_ | refine not_t ?_ | refine not_f ?_ | refine beq_s ?_ | refine bne_s ?_ | refine ncP_p ?_ | refine nc_p ?_ | refine fld_at ?_ | refine xt_02 ?_ | refine xt_12 ?_ | refine xt_03 ?_ | refine xt_13 ?_ | refine xt_23 ?_ | refine eq_t (by omega) ?_ | refine eq_f (by omega) ?_ | refine ne_t (by omega) ?_ | refine ne_f (by omega) ?_ | refine lt_t (by omega) ?_ | refine lt_f (by omega) ?_ | refine gt_t (by omega) ?_ | refine gt_f (by omega) ?_ | refine ge_t (by omega) ?_ | refine ge_f (by omega) ?_ | refine le_t (by omega) ?_ | refine le_f (by omega) ?_)
  refine ld1_at h1 0 rfl (v := .int .i64 o.Delay) rfl ?_
  refine gd_ff (within_s ?_)
  refine gd_ff (not_d ?_)
  by_cases c2 : 0 ≤ o.Delay ∧ o.Delay ≤ 1099511627776
  case neg =>
    rw [decide_eq_false c2, Bool.not_false]
    repeat (first | refine gd_tt ?_ | refine gd_ff ?_ | refine gd_tf ?_ | refine gd_ft ?_ | refine gd_u ?_ | refine pk_t ?_ | refine pk_f ?_ | refine iff_t ?_ | refine iff_f ?_ | refine not_t ?_ | refine not_f ?_ | refine beq_s ?_ | refine bne_s ?_ | refine ncP_p ?_ | refine nc_p ?_ | refine fld_at ?_ | refine xt_02 ?_ | refine xt_12 ?_ | refine xt_03 ?_ | refine xt_13 ?_ | refine xt_23 ?_ | refine eq_t (by omega) ?_ | refine eq_f (by omega) ?_ | refine ne_t (by omega) ?_ | refine ne_f (by omega) ?_ | refine lt_t (by omega) ?_ | refine lt_f (by omega) ?_ | refine gt_t (by omega) ?_ | refine gt_f (by omega) ?_ | refine ge_t (by omega) ?_ | refine ge_f (by omega) ?_ | refine le_t (by omega) ?_ | refine le_f (by omega) ?_)
    exact hk true ⟨fun _ h => c2 ⟨h.2.1, h.2.2.1⟩, fun _ => rfl⟩
  rw [decide_eq_true c2, Bool.not_true]
  repeat (first | refine gd_tt ?_ | refine gd_ff ?_ | refine gd_tf ?_ | refine gd_ft ?_ | refine gd_u ?_ | refine pk_t ?_ | refine pk_f ?_ | refine iff_t ?_ | refine iff_f ?_ | refine not_t ?_ | refine not_f ?_ | refine beq_s ?_ | refine bne_s ?_ | refine ncP_p ?_ | refine nc_p ?_ | refine fld_at ?_ | refine xt_02 ?_ | refine xt_12 ?_ | refine xt_03 ?_ | refine xt_13 ?_ | refine xt_23 ?_ | refine eq_t (by omega) ?_ | refine eq_f (by omega) ?_ | refine ne_t (by omega) ?_ | refine ne_f (by omega) ?_ | refine lt_t (by omega) ?_ | refine lt_f (by omega) ?_ | refine gt_t (by omega) ?_ | refine gt_f (by omega) ?_ | refine ge_t (by omega) ?_ | refine ge_f (by omega) ?_ | refine le_t (by omega) ?_ | refine le_f (by omega) ?_)
  refine ld1_at h1 0 rfl (v := .int .i64 o.Add) rfl ?_
  refine gd_ff (within_s ?_)
  refine gd_ff (not_d (pk_f (hk _ ?_)))
  by_cases c3 : 0 ≤ o.Add ∧ o.Add ≤ 999
  · rw [decide_eq_true c3, Bool.not_true]
    exact ⟨(fun h => by cases h), fun h => absurd ⟨c1, c2.1, c2.2, c3.1, c3.2⟩ h⟩
  · rw [decide_eq_false c3, Bool.not_false]
    exact ⟨fun _ h => c3 h.2.2.2, fun _ => rfl⟩
open Classical in
theorem fed4_s {f : FedX} {b : Nat} (i k : Nat) (hi : L[i]? = some S) (hb : L[k]? = some (blk b 66 f.cs)) (hS : Sat e w L) (hr : ∀ g, S g → RdFed f g) (hwf : f.wf) (hs : f.short)
    (hk : ∀ w', Sat e w' L → K (.int .i64 (if okRules f.f.Rules then 0 else 70)) w') : clV prog (.func (.func 140) #[] #[.pointer (some ⟨b, 0, none⟩)]) #[] w K := by
  refine ⟨_, _, _, rfl, ?_⟩
  refine config_fed_4_calls (t0 := .pointer (some ⟨b, 0, none⟩)) ?_
  unfold config_fed_4
  refine fld_at (ld1_at hS k hb (v := f.rv) rfl ?_)
  exact table_Check_s i hi hS (fun g hg => (hr g hg).rules) hwf.2.2.2.1 (fun r hr => by have := hs.sends r hr; omega) hk
theorem ite_dec {p : Prop} {i j : Decidable p} {a b : Int} : (if @decide p i = true then a else b) = @ite _ p j a b := by
  by_cases h : p <;> simp [h]
theorem ite_iff {p q : Prop} {i : Decidable p} {j : Decidable q} (h : p ↔ q) {a b : Int} : @ite _ p i a b = @ite _ q j a b := by
  by_cases hp : p
  · rw [if_pos hp, if_pos (h.1 hp)]
  · rw [if_neg hp, if_neg fun k => hp (h.2 k)]
theorem fed_cells {f : FedX} (i : Nat) (hi : L[i]? = some S) (hS : Sat e w L) (hr : ∀ g, S g → RdFed f g) : ∀ c ∈ f.cs, flat c = true := by
  obtain ⟨g, hg, _⟩ := hS.get i hi
  obtain ⟨_, _, h1, _⟩ := (hr g hg).rules.s
  obtain ⟨_, _, h2, _⟩ := (hr g hg).pubs
  obtain ⟨_, _, h3, _⟩ := (hr g hg).subs
  obtain ⟨_, _, h4, _⟩ := (hr g hg).init
  intro c hc
  simp only [FedX.cs, List.mem_cons, List.not_mem_nil, or_false] at hc
  rcases hc with rfl | rfl | rfl | rfl | rfl | rfl | rfl
  · rfl
  · rfl
  · rfl
  · rw [h1]; rfl
  · rw [h2]; rfl
  · rw [h3]; rfl
  · rw [h4]; rfl
open Classical in
theorem config_fed_s {f : FedX} {most : Int} (i : Nat) (hi : L[i]? = some S) (hS : Sat e w L) (hr : ∀ g, S g → RdFed f g) (hwf : f.wf) (hs : f.short)
    (hk : ∀ w', Sat e w' L → K (.int .i64 (fedE f.f most)) w') : Cl prog 94 #[.agg f.cs.toArray, .int .i64 most] w K := by
  refine config_fed_calls ?_
  unfold config_fed
  refine al_s (cs := f.cs) hS rfl fun b w1 h1 => ?_
  refine al_s (cs := [.int .i64 most]) h1 rfl fun c w2 h2 => ?_
  refine dr_s h2 fun w3 h3 => ?_
  have hi3 : (blk c 3 [.int .i64 most] :: blk b 66 f.cs :: L)[i + 2]? = some S := by simpa using hi
  refine fld_at (ld1_at h3 1 rfl (v := .int .i64 f.Kind) rfl ?_)
  refine fld_at (ld1_at h3 1 rfl (v := .int .i64 f.Look) rfl ?_)
  refine fld_at (ld1_at h3 1 rfl (v := .int .i64 f.Start) rfl ?_)
  refine fld_at (ld1_at h3 1 rfl (v := f.pv) rfl ?_)
  refine fld_at (ld1_at h3 1 rfl (v := f.iv) rfl ?_)
  refine lnS_rd h3 (i + 2) hi3 (fun g hg => (hr g hg).init) ?_
  refine le_d ?_
  refine within_s ?_
  have ld : ∀ {A : List HP} {w : World} (n : Nat), Sat e w A → A[n]? = some (blk b 66 f.cs) → ∀ (o : Nat) (v : Value), f.cs[o]? = some v → ld1 (.pointer (some ⟨b, o, none⟩)) w (fun v' w'' => v' = v ∧ w'' = w) := fun n h hA o v ho => ld1_at h n hA ho ⟨rfl, rfl⟩
  refine ⟨ld 1 h3 rfl 6 _ rfl, ld 1 h3 rfl 4 _ rfl, ld 1 h3 rfl 2 _ rfl, ld 1 h3 rfl 1 _ rfl, ?_⟩
  refine unless_s h3 fun c1 d1 w4 h4 => ?_
  refine ⟨ld 2 h4 rfl 6 _ rfl, ld 2 h4 rfl 4 _ rfl, ld 2 h4 rfl 2 _ rfl, ld 2 h4 rfl 1 _ rfl, ?_⟩
  refine within_s ?_
  refine ⟨ld 2 h4 rfl 6 _ rfl, ld 2 h4 rfl 4 _ rfl, ld 2 h4 rfl 2 _ rfl, ?_⟩
  refine unless_s h4 fun c2 d2 w5 h5 => ?_
  refine ⟨ld 3 h5 rfl 6 _ rfl, ld 3 h5 rfl 4 _ rfl, ld 3 h5 rfl 2 _ rfl, ?_⟩
  refine within_s ?_
  refine ⟨ld 3 h5 rfl 6 _ rfl, ld 3 h5 rfl 4 _ rfl, ?_⟩
  refine unless_s h5 fun c3 d3 w6 h6 => ?_
  refine ⟨ld 4 h6 rfl 6 _ rfl, ld 4 h6 rfl 4 _ rfl, ?_⟩
  refine rising_s (most := most) (i + 5) 3 (by simpa using hi) rfl h6 (fun g hg => (hr g hg).pubs) hs.pubs ?_
  refine ⟨ld 4 h6 rfl 6 _ rfl, ?_⟩
  have hmid : ∀ K : World → KV, K w6 (.bool (decide (rising most (-1) f.Pubs ∧ rising most (-1) f.Subs))) w6 → gd (.bool (decide (rising most (-1) f.Pubs))) true (fun k => k (.func (.func 136) #[] #[.pointer (some ⟨c, 0, none⟩)]) w6) w6 fun t29 _ =>
      gd (.bool (decide (rising most (-1) f.Pubs))) true (fun k => fld 5 (.pointer (some ⟨b, 0, none⟩)) w6 k) w6 fun t30 _ =>
      gd (.bool (decide (rising most (-1) f.Pubs))) true (fun k => ld1 t30 w6 k) w6 fun t31 _ =>
      gd (.bool (decide (rising most (-1) f.Pubs))) true (fun k => clV prog t29 #[t31] w6 k) w6 fun t32 w =>
      (ld1 (.pointer (some ⟨b, 0 + 6, none⟩)) w (fun v' w'' => v' = f.iv ∧ w'' = w)) ∧ (pk (.bool (decide (rising most (-1) f.Pubs))) t32 (.bool false) w (K w)) := by
    intro K hK
    by_cases q1 : rising most (-1) f.Pubs
    · rw [decide_eq_true q1]
      refine gd_tt (gd_tt (fld_at (gd_tt (ld1_at h6 4 rfl (v := f.sv) rfl (gd_tt ?_)))))
      refine rising_s (most := most) (i + 5) 3 (by simpa using hi) rfl h6 (fun g hg => (hr g hg).subs) hs.subs ?_
      refine ⟨ld 4 h6 rfl 6 _ rfl, pk_t ?_⟩
      by_cases q2 : rising most (-1) f.Subs
      · rw [decide_eq_true q2]
        rw [decide_eq_true ⟨q1, q2⟩] at hK
        exact hK
      · rw [decide_eq_false q2]
        rw [decide_eq_false fun h => q2 h.2] at hK
        exact hK
    · rw [decide_eq_false q1]
      rw [decide_eq_false fun h => q1 h.1] at hK
      exact gd_ft (gd_ft (gd_ft (gd_ft ⟨ld 4 h6 rfl 6 _ rfl, pk_f hK⟩)))
  refine hmid (fun w t33 _ => _) ?_
  clear hmid
  refine unless_s h6 fun c5 d5 w7 h7 => ?_
  refine ⟨ld 5 h7 rfl 6 _ rfl, ?_⟩
  have hmid : ∀ K : World → KV, (∀ w', Sat e w' (UN c5 d5 (decide (rising most (-1) f.Pubs ∧ rising most (-1) f.Subs)) 81 :: UN c3 d3 (decide (0 ≤ f.Start ∧ f.Start ≤ 7)) 70 :: UN c2 d2 (decide (1 ≤ f.Look ∧ f.Look ≤ 1048576)) 80 :: UN c1 d1 (decide (0 ≤ f.Kind ∧ f.Kind ≤ 1)) 1 :: blk c 3 [.int .i64 most] :: blk b 66 f.cs :: L) → ∀ q : Bool, (q = true ↔ okInit f.f) → K w' (.bool q) w') →
      gd (.bool (decide ((f.Init.length : Int) ≤ 4))) true (fun k => fld 6 (.pointer (some ⟨b, 0, none⟩)) w7 k) w7 fun t41 _ =>
      gd (.bool (decide ((f.Init.length : Int) ≤ 4))) true (fun k => ld1 t41 w7 k) w7 fun t42 _ =>
      gd (.bool (decide ((f.Init.length : Int) ≤ 4))) true (fun k => k (.func (.func 139) #[] #[.pointer (some ⟨b, 0, none⟩)]) w7) w7 fun t43 _ =>
      gd (.bool (decide ((f.Init.length : Int) ≤ 4))) true (fun k => Cl prog 142 #[t42, t43] w7 k) w7 fun t44 w =>
      gd (.bool (decide ((f.Init.length : Int) ≤ 4))) true (fun k => bnot t44 w k) w fun t45 _ =>
      pk (.bool (decide ((f.Init.length : Int) ≤ 4))) t45 (.bool false) w (K w) := by
    intro K hK
    by_cases q1 : (f.Init.length : Int) ≤ 4
    · rw [decide_eq_true q1]
      refine gd_tt (fld_at (gd_tt (ld1_at h7 5 rfl (v := f.iv) rfl (gd_tt (gd_tt ?_)))))
      refine containsOut_s (p := fun o => ¬ okIni f.f o) (i + 6) (by simpa using hi) h7 (fun g hg => (hr g hg).init) (by have := hs.init; omega) (fun o ho w K h hk => odd2_s (i + 6) 5 (by simpa using hi) rfl h hr hs hk) fun w8 h8 q hq => ?_
      refine gd_tt (not_d (pk_t (hK _ h8 _ ?_)))
      constructor
      · intro h
        refine ⟨by show f.Init.length ≤ 4; omega, fun o ho => Classical.not_not.1 fun hn => ?_⟩
        have := hq.2 ⟨o, ho, hn⟩
        rw [this] at h
        cases h
      · intro h
        cases q with
        | false => rfl
        | true =>
          obtain ⟨o, ho, hn⟩ := hq.1 rfl
          exact absurd (h.2 o ho) hn
    · rw [decide_eq_false q1]
      exact gd_ft (gd_ft (gd_ft (gd_ft (gd_ft (pk_f (hK _ h7 _ ⟨(fun h => by cases h), fun h => absurd (show (f.Init.length : Int) ≤ 4 from by have h2 : f.Init.length ≤ 4 := h.1; omega) q1⟩))))))
  refine hmid (fun w t46 _ => _) fun w8 h8 q hq => ?_
  clear hmid
  refine unless_s h8 fun c7 d7 w9 h9 => ?_
  refine bsl_s [unV c1 d1, unV c2 d2, unV c3 d3, .func (.func 140) #[] #[.pointer (some ⟨b, 0, none⟩)], unV c5 d5, .func (.func 137) #[] #[.pointer (some ⟨b, 0, none⟩), .pointer (some ⟨c, 0, none⟩)], unV c7 d7] h9 (by kernel_rfl) fun bb w10 h10 => ?_
  have hEs : fedEs f.f most = [if decide (0 ≤ f.Kind ∧ f.Kind ≤ 1) = true then 0 else 1, if decide (1 ≤ f.Look ∧ f.Look ≤ 1048576) = true then 0 else 80, if decide (0 ≤ f.Start ∧ f.Start ≤ 7) = true then 0 else 70, if okRules f.f.Rules then 0 else 70,
      if decide (rising most (-1) f.Pubs ∧ rising most (-1) f.Subs) = true then 0 else 81, rulesE f.f most f.f.Rules, if q = true then 0 else 82] := by
    unfold fedEs
    rw [ite_dec, ite_dec, ite_dec, ite_dec, ite_iff hq]
    rfl
  refine first_s (fs := [unV c1 d1, unV c2 d2, unV c3 d3, .func (.func 140) #[] #[.pointer (some ⟨b, 0, none⟩)], unV c5 d5, .func (.func 137) #[] #[.pointer (some ⟨b, 0, none⟩), .pointer (some ⟨c, 0, none⟩)], unV c7 d7]) (Es := fedEs f.f most) 0 rfl h10 (blk_rdn (f := fun v => [v]) [unV c1 d1, unV c2 d2, unV c3 d3, .func (.func 140) #[] #[.pointer (some ⟨b, 0, none⟩)], unV c5 d5, .func (.func 137) #[] #[.pointer (some ⟨b, 0, none⟩), .pointer (some ⟨c, 0, none⟩)], unV c7 d7] rfl (Nat.le_refl _)) (by simp) rfl (fun j fv E hf hE _ w K hw hK => ?_) fun w11 h11 => ?_
  · rw [hEs] at hE
    match j with
    | 0 =>
      simp only [List.getElem?_cons_zero, Option.some.injEq] at hf hE
      subst hf hE
      exact unless1_s 5 rfl hw (hK _ hw)
    | 1 =>
      simp only [List.getElem?_cons_succ, List.getElem?_cons_zero, Option.some.injEq] at hf hE
      subst hf hE
      exact unless1_s 4 rfl hw (hK _ hw)
    | 2 =>
      simp only [List.getElem?_cons_succ, List.getElem?_cons_zero, Option.some.injEq] at hf hE
      subst hf hE
      exact unless1_s 3 rfl hw (hK _ hw)
    | 3 =>
      simp only [List.getElem?_cons_succ, List.getElem?_cons_zero, Option.some.injEq] at hf hE
      subst hf hE
      exact fed4_s (i + 8) 7 (by simpa using hi) rfl hw hr hwf hs hK
    | 4 =>
      simp only [List.getElem?_cons_succ, List.getElem?_cons_zero, Option.some.injEq] at hf hE
      subst hf hE
      exact unless1_s 2 rfl hw (hK _ hw)
    | 5 =>
      simp only [List.getElem?_cons_succ, List.getElem?_cons_zero, Option.some.injEq] at hf hE
      subst hf hE
      exact rules_s (i + 8) 7 6 (by simpa using hi) rfl rfl hw hr hs hK
    | 6 =>
      simp only [List.getElem?_cons_succ, List.getElem?_cons_zero, Option.some.injEq] at hf hE
      subst hf hE
      exact unless1_s 1 rfl hw (hK _ hw)
    | j + 7 => simp at hf
  · exact hk _ (h11.selR [_, _, _, _, _, _, _, _] [] [] (by decide) rfl)

structure WdX.short (x : WdX) : Prop where
  feds : x.Feds.length ≤ 1000
  par : x.Parents.length ≤ 1000
  fed : ∀ f ∈ x.Feds, f.short
theorem fedsE_cons (most : Int) (i : Nat) (f : Fed) (l : List Fed) : fedsE most i (f :: l) = if fedE f most ≠ 0 then ((i : Int), fedE f most) else fedsE most (i + 1) l := rfl
theorem fedsE_app (most : Int) : ∀ (a b : List Fed) (i : Nat), (∀ f ∈ a, fedE f most = 0) → fedsE most i (a ++ b) = fedsE most (i + a.length) b
  | [], _, _, _ => rfl
  | f :: a, b, i, h => by
    rw [List.cons_append, fedsE_cons, if_neg (fun k => k (h f (by simp))), fedsE_app most a b (i + 1) fun g hg => h g (by simp [hg])]
    congr 1
    simp; omega
theorem wd_cells {x : WdX} (i : Nat) (hi : L[i]? = some S) (hS : Sat e w L) (hr : ∀ g, S g → RdWd x g) : ∀ c ∈ x.cs, flat c = true := by
  obtain ⟨g, hg, _⟩ := hS.get i hi
  obtain ⟨_, _, h1, _⟩ := (hr g hg).par
  obtain ⟨_, _, h2, _⟩ := (hr g hg).feds
  intro c hc
  simp only [WdX.cs, List.mem_cons, List.not_mem_nil, or_false] at hc
  rcases hc with rfl | rfl | rfl
  · rw [h1]; rfl
  · rw [h2]; rfl
  · rfl
theorem config_Check_s {x : WdX} (i : Nat) (hi : L[i]? = some S) (hS : Sat e w L) (hr : ∀ g, S g → RdWd x g) (hwf : x.wf) (hs : x.short)
    (hk : ∀ w', Sat e w' L → K (.tuple #[.int .i64 (checkW x.w).1, .int .i64 (checkW x.w).2]) w') : Cl prog 42 #[.agg x.cs.toArray] w K := by
  refine config_Check_calls ?_
  unfold config_Check
  refine al_s (cs := x.cs) hS rfl fun b w1 h1 => ?_
  have hi1 : (blk b 27 x.cs :: L)[i + 1]? = some S := by simpa using hi
  have hfl := hs.feds
  refine fld_at (ld1_at h1 0 rfl (v := .int .i64 x.End) rfl ?_)
  refine within_s ?_
  have hmid : ∀ K : KV, K (.bool (decide ((0 ≤ x.End ∧ x.End ≤ 1099511627776) ∧ (1 ≤ (x.Feds.length : Int) ∧ (x.Feds.length : Int) ≤ 8)))) w1 →
      gd (.bool (decide (0 ≤ x.End ∧ x.End ≤ 1099511627776))) true (fun k => fld 1 (.pointer (some ⟨b, 0, none⟩)) w1 k) w1 fun t13 w =>
      gd (.bool (decide (0 ≤ x.End ∧ x.End ≤ 1099511627776))) true (fun k => ld1 t13 w k) w fun t14 w =>
      gd (.bool (decide (0 ≤ x.End ∧ x.End ≤ 1099511627776))) true (fun k => lnS t14 w k) w fun t15 w =>
      gd (.bool (decide (0 ≤ x.End ∧ x.End ≤ 1099511627776))) true (fun k => Cl prog 93 #[t15, .int .i64 1, .int .i64 8] w k) w fun t16 w =>
      pk (.bool (decide (0 ≤ x.End ∧ x.End ≤ 1099511627776))) t16 (.bool false) w K := by
    intro K hK
    by_cases q1 : 0 ≤ x.End ∧ x.End ≤ 1099511627776
    · rw [decide_eq_true q1]
      refine gd_tt (fld_at (gd_tt (ld1_at h1 0 rfl (v := x.fv) rfl (gd_tt (lnS_rd h1 (i + 1) hi1 (fun g hg => (hr g hg).feds) ?_)))))
      refine gd_tt (within_s (pk_t ?_))
      by_cases q2 : 1 ≤ (x.Feds.length : Int) ∧ (x.Feds.length : Int) ≤ 8
      · rw [decide_eq_true q2]
        rw [decide_eq_true ⟨q1, q2⟩] at hK
        exact hK
      · rw [decide_eq_false q2]
        rw [decide_eq_false fun h => q2 h.2] at hK
        exact hK
    · rw [decide_eq_false q1]
      rw [decide_eq_false fun h => q1 h.1] at hK
      exact gd_ft (gd_ft (gd_ft (gd_ft (pk_f hK))))
  refine hmid _ ?_
  clear hmid
  refine unless_s h1 fun c1 d1 w2 h2 => ?_
  refine bsl_s [.func (.func 90) #[] #[.pointer (some ⟨b, 0, none⟩)], unV c1 d1] h2 (by kernel_rfl) fun bb w3 h3 => ?_
  refine first_s (fs := [.func (.func 90) #[] #[.pointer (some ⟨b, 0, none⟩)], unV c1 d1]) (Es := [treeE x.Parents, if decide ((0 ≤ x.End ∧ x.End ≤ 1099511627776) ∧ (1 ≤ (x.Feds.length : Int) ∧ (x.Feds.length : Int) ≤ 8)) = true then 0 else 1]) 0 rfl h3
    (blk_rdn (f := fun v => [v]) [.func (.func 90) #[] #[.pointer (some ⟨b, 0, none⟩)], unV c1 d1] rfl (Nat.le_refl _)) (by simp) rfl (fun j fv E hf hE _ w K hw hK => ?_) fun w4 h4 => ?_
  · match j with
    | 0 =>
      simp only [List.getElem?_cons_zero, Option.some.injEq] at hf hE
      subst hf hE
      refine ⟨_, _, _, rfl, ?_⟩
      refine config_Check_1_calls (t0 := .pointer (some ⟨b, 0, none⟩)) ?_
      unfold config_Check_1
      refine fld_at (ld1_at hw 2 rfl (v := x.pv) rfl ?_)
      exact tree_Check_s (i + 3) (by simpa using hi) hw (fun g hg => (hr g hg).par) (hK _ hw)
    | 1 =>
      simp only [List.getElem?_cons_succ, List.getElem?_cons_zero, Option.some.injEq] at hf hE
      subst hf hE
      exact unless1_s 1 rfl hw (hK _ hw)
    | j + 2 => simp at hf
  have h5 : Sat e w4 (blk b 27 x.cs :: L) := h4.drop.drop
  rw [firstE_cons, firstE_cons, firstE_nil]
  by_cases p1 : treeE x.Parents = 0
  case neg =>
    rw [if_neg p1]
    have := hk _ h5.drop
    unfold checkW at this
    rw [if_pos (show treeE x.w.Parents ≠ 0 from p1)] at this
    exact ne_t p1 (iff_t this)
  rw [if_pos p1]
  by_cases p2 : (0 ≤ x.End ∧ x.End ≤ 1099511627776) ∧ (1 ≤ (x.Feds.length : Int) ∧ (x.Feds.length : Int) ≤ 8)
  case neg =>
    rw [decide_eq_false p2, if_neg (by decide)]
    have := hk _ h5.drop
    unfold checkW at this
    rw [if_neg (show ¬ treeE x.w.Parents ≠ 0 from fun h => h p1), if_pos (by simp only [WdX.w, List.length_map]; exact p2)] at this
    refine ne_t (by decide) (iff_t ?_)
    exact this
  rw [decide_eq_true p2, if_pos rfl]
  have hk : ∀ w', Sat e w' L → K (.tuple #[.int .i64 (fedsE x.Parents.length 0 (x.Feds.map FedX.f)).1, .int .i64 (fedsE x.Parents.length 0 (x.Feds.map FedX.f)).2]) w' := by
    intro w' h'
    have := hk w' h'
    unfold checkW at this
    rw [if_neg (show ¬ treeE x.w.Parents ≠ 0 from fun h => h p1), if_neg (by simp only [WdX.w, List.length_map]; exact fun h => h p2)] at this
    exact this
  refine ne_f (by simp) (iff_f ?_)
  refine fld_at (ld1_at h5 0 rfl (v := x.fv) rfl ?_)
  refine lnS_rd h5 (i + 1) hi1 (fun g hg => (hr g hg).feds) ?_
  refine lpi1 (fun q t w => ∃ j : Nat, j ≤ x.Feds.length ∧ t = .int .i64 j ∧ q = x.Feds.length - j ∧ (∀ f ∈ (x.Feds.take j).map FedX.f, fedE f x.Parents.length = 0) ∧ Sat e w (blk b 27 x.cs :: L)) x.Feds.length ⟨0, Nat.zero_le _, rfl, rfl, by simp, h5⟩ ?_
  rintro q _ w g ⟨j, hj, rfl, rfl, hno, h6⟩ hg
  refine lt_c (fun c0 => iff_t ?_) (fun c0 => iff_f ?_)
  · obtain ⟨f, hf⟩ := get_of_lt (l := x.Feds) (j := j) (by omega)
    have hfm := List.mem_of_getElem? hf
    refine ixS_rd h6 (i + 1) hi1 (fun g hg => (hr g hg).feds) (fun _ => rfl) hf fun a ha => ?_
    refine ldN_of h6 (i + 1) hi1 ha rfl ?_
    rw [zero_66]
    refine al_s (cs := [.int .i64 0, .int .i64 0, .int .i64 0, .slice none 0 0, .slice none 0 0, .slice none 0 0, .slice none 0 0]) h6 rfl fun t w7 h7 => ?_
    refine stN_at h7 0 rfl (vs := f.cs) rfl rfl (by simp) (fed_cells i hi hS fun g hg => (hr g hg).fed f hfm) (cs' := f.cs) (by rfl) fun w8 h8 => ?_
    refine ldN_at h8 0 (vs := f.cs) rfl (by rfl) rfl ?_
    refine fld_at (ld1_at h8 1 rfl (v := x.pv) rfl ?_)
    have hi2 : (blk t 66 f.cs :: blk b 27 x.cs :: L)[i + 2]? = some S := by simpa using hi
    refine lnS_rd h8 (i + 2) hi2 (fun g hg => (hr g hg).par) ?_
    refine config_fed_s (i + 2) hi2 h8 (fun g hg => (hr g hg).fed f hfm) (hwf.2.1 f hfm) (hs.fed f hfm) fun w9 h9 => ?_
    have hsp : x.Feds.map FedX.f = (x.Feds.take j).map FedX.f ++ f.f :: (x.Feds.drop (j + 1)).map FedX.f := by
      conv => lhs; rw [take_split hf]
      simp
    have hlen : 0 + ((x.Feds.take j).map FedX.f).length = j := by rw [List.length_map, List.length_take]; omega
    refine ne_c (fun c2 => iff_t ?_) (fun c2 => iff_f (inc_s (by omega) ?_))
    · have := hk _ h9.drop.drop
      rw [hsp, fedsE_app _ _ _ _ hno, fedsE_cons, if_pos c2, hlen] at this
      exact this
    · refine hg _ _ _ (by omega) ⟨j + 1, by omega, rfl, rfl, fun y hy => ?_, h9.drop⟩
      rw [List.take_add_one, hf, List.map_append] at hy
      rcases List.mem_append.1 hy with h | h
      · exact hno y h
      · simp at h
        rw [h]; exact c2
  · have ej : j = x.Feds.length := by omega
    rw [ej, List.take_length] at hno
    have := hk _ h6.drop
    rw [← List.append_nil (x.Feds.map FedX.f), fedsE_app _ _ _ _ hno] at this
    exact this
end Go.Proofs.YtbopajpmadlmhaaGreat
end
section
namespace Go.Proofs.YtbopajpmadlmhaaGreat
open Go Go.E
set_option maxRecDepth 100000
variable {e w : World} {L R : List HP} {K : KV} {S : HP}

theorem ref05_Check_s {v : Value} {l : List Int} (i : Nat) (hi : L[i]? = some S) (hS : Sat e w L) (hr : ∀ g, S g → rdS 1 (intsK .i64) v l g) (hk : K (.int .i64 (treeE l)) w) : Cl prog 128 #[v] w K := by
  refine pacelineref05_Check_calls ?_
  unfold pacelineref05_Check
  have hbad : ¬ okTree l → K (.int .i64 50) w := fun h => by unfold treeE at hk; rw [if_neg h] at hk; exact hk
  refine lnS_rd hS i hi hr ?_
  by_cases c1 : 1 ≤ l.length
  case neg =>
    repeat (first | refine gd_tt ?_ | refine gd_ff ?_ | refine gd_tf ?_ | refine gd_ft ?_ | refine gd_u ?_ | refine pk_t ?_ | refine pk_f ?_ | refine iff_t ?_ | refine iff_f ?_ | refine not_t ?_ | refine not_f ?_ | refine beq_s ?_ | refine bne_s ?_ | refine ncP_p ?_ | refine nc_p ?_ | refine fld_at ?_ | refine xt_02 ?_ | refine xt_12 ?_ | refine xt_03 ?_ | refine xt_13 ?_ | refine xt_23 ?_ | refine eq_t (by omega) ?_ | refine eq_f (by omega) ?_ | refine ne_t (by omega) ?_ | refine ne_f (by omega) ?_ | refine lt_t (by omega) ?_ | refine lt_f (by omega) ?_ | refine gt_t (by omega) ?_ | refine gt_f (by omega) ?_ | refine ge_t (by omega) ?_ | refine ge_f (by omega) ?_ | refine le_t (by omega) ?_ | refine le_f (by omega) ?_)
    exact hbad fun h => c1 h.1
  refine lt_f (by omega) (gd_ff (gd_ff (lnS_rd hS i hi hr ?_)))
  by_cases c2 : l.length ≤ 16
  case neg =>
    repeat (first | refine gd_tt ?_ | refine gd_ff ?_ | refine gd_tf ?_ | refine gd_ft ?_ | refine gd_u ?_ | refine pk_t ?_ | refine pk_f ?_ | refine iff_t ?_ | refine iff_f ?_ | refine not_t ?_ | refine not_f ?_ | refine beq_s ?_ | refine bne_s ?_ | refine ncP_p ?_ | refine nc_p ?_ | refine fld_at ?_ | refine xt_02 ?_ | refine xt_12 ?_ | refine xt_03 ?_ | refine xt_13 ?_ | refine xt_23 ?_ | refine eq_t (by omega) ?_ | refine eq_f (by omega) ?_ | refine ne_t (by omega) ?_ | refine ne_f (by omega) ?_ | refine lt_t (by omega) ?_ | refine lt_f (by omega) ?_ | refine gt_t (by omega) ?_ | refine gt_f (by omega) ?_ | refine ge_t (by omega) ?_ | refine ge_f (by omega) ?_ | refine le_t (by omega) ?_ | refine le_f (by omega) ?_)
    exact hbad fun h => c2 h.2.1
  repeat (first | refine gd_tt ?_ | refine gd_ff ?_ | refine gd_tf ?_ | refine gd_ft ?_ | refine gd_u ?_ | refine pk_t ?_ | refine pk_f ?_ | refine iff_t ?_ | refine iff_f ?_ | refine not_t ?_ | refine not_f ?_ | refine beq_s ?_ | refine bne_s ?_ | refine ncP_p ?_ | refine nc_p ?_ | refine fld_at ?_ | refine xt_02 ?_ | refine xt_12 ?_ | refine xt_03 ?_ | refine xt_13 ?_ | refine xt_23 ?_ | refine eq_t (by omega) ?_ | refine eq_f (by omega) ?_ | refine ne_t (by omega) ?_ | refine ne_f (by omega) ?_ | refine lt_t (by omega) ?_ | refine lt_f (by omega) ?_ | refine gt_t (by omega) ?_ | refine gt_f (by omega) ?_ | refine ge_t (by omega) ?_ | refine ge_f (by omega) ?_ | refine le_t (by omega) ?_ | refine le_f (by omega) ?_)
  refine lpi1 (fun q t8 w' => ∃ j : Nat, j ≤ l.length ∧ t8 = .int .i64 j ∧ q = l.length - j ∧ (∀ (i : Nat) p, i < j → l[i]? = some p → -1 ≤ p ∧ p < i) ∧ w' = w) l.length ⟨0, Nat.zero_le _, rfl, rfl, fun _ _ h => absurd h (by omega), rfl⟩ ?_
  rintro q _ w' g ⟨j, hj, rfl, rfl, hno, rfl⟩ hg
  refine lnS_rd hS i hi hr ?_
  refine lt_c (fun c => iff_t ?_) (fun c => iff_f ?_)
  · obtain ⟨y, hy⟩ := get_of_lt (l := l) (j := j) (by omega)
    refine ixS_rd hS i hi hr (fun _ => rfl) hy fun a ha => ?_
    refine ld1_of hS i hi ha (v := .int .i64 y) rfl ?_
    by_cases c3 : y < -1
    · repeat (first | refine gd_tt ?_ | refine gd_ff ?_ | refine gd_tf ?_ | refine gd_ft ?_ | refine gd_u ?_ | refine pk_t ?_ | refine pk_f ?_ | refine iff_t ?_ | refine iff_f ?_ | refine not_t ?_ | refine not_f ?_ | refine beq_s ?_ | refine bne_s ?_ | refine ncP_p ?_ | refine nc_p ?_ | refine fld_at ?_ | refine xt_02 ?_ | refine xt_12 ?_ | refine xt_03 ?_ | refine xt_13 ?_ | refine xt_23 ?_ | refine eq_t (by omega) ?_ | refine eq_f (by omega) ?_ | refine ne_t (by omega) ?_ | refine ne_f (by omega) ?_ | refine lt_t (by omega) ?_ | refine lt_f (by omega) ?_ | refine gt_t (by omega) ?_ | refine gt_f (by omega) ?_ | refine ge_t (by omega) ?_ | refine ge_f (by omega) ?_ | refine le_t (by omega) ?_ | refine le_f (by omega) ?_)
      exact hbad fun h => by have := h.2.2 j y hy; omega
    · refine lt_f c3 (gd_ff (gd_ff (gd_ff (ixS_rd hS i hi hr (fun _ => rfl) hy fun a ha => ?_))))
      refine gd_ff (ld1_of hS i hi ha (v := .int .i64 y) rfl ?_)
      by_cases c4 : (j : Int) ≤ y
      · repeat (first | refine gd_tt ?_ | refine gd_ff ?_ | refine gd_tf ?_ | refine gd_ft ?_ | refine gd_u ?_ | refine pk_t ?_ | refine pk_f ?_ | refine iff_t ?_ | refine iff_f ?_ | refine not_t ?_ | refine not_f ?_ | refine beq_s ?_ | refine bne_s ?_ | refine ncP_p ?_ | refine nc_p ?_ | refine fld_at ?_ | refine xt_02 ?_ | refine xt_12 ?_ | refine xt_03 ?_ | refine xt_13 ?_ | refine xt_23 ?_ | refine eq_t (by omega) ?_ | refine eq_f (by omega) ?_ | refine ne_t (by omega) ?_ | refine ne_f (by omega) ?_ | refine lt_t (by omega) ?_ | refine lt_f (by omega) ?_ | refine gt_t (by omega) ?_ | refine gt_f (by omega) ?_ | refine ge_t (by omega) ?_ | refine ge_f (by omega) ?_ | refine le_t (by omega) ?_ | refine le_f (by omega) ?_)
        exact hbad fun h => by have := h.2.2 j y hy; omega
      · repeat (first | refine gd_tt ?_ | refine gd_ff ?_ | refine gd_tf ?_ | refine gd_ft ?_ | refine gd_u ?_ | refine pk_t ?_ | refine pk_f ?_ | refine iff_t ?_ | refine iff_f ?_ | refine not_t ?_ | refine not_f ?_ | refine beq_s ?_ | refine bne_s ?_ | refine ncP_p ?_ | refine nc_p ?_ | refine fld_at ?_ | refine xt_02 ?_ | refine xt_12 ?_ | refine xt_03 ?_ | refine xt_13 ?_ | refine xt_23 ?_ | refine eq_t (by omega) ?_ | refine eq_f (by omega) ?_ | refine ne_t (by omega) ?_ | refine ne_f (by omega) ?_ | refine lt_t (by omega) ?_ | refine lt_f (by omega) ?_ | refine gt_t (by omega) ?_ | refine gt_f (by omega) ?_ | refine ge_t (by omega) ?_ | refine ge_f (by omega) ?_ | refine le_t (by omega) ?_ | refine le_f (by omega) ?_)
        refine inc_s (by omega) ?_
        refine hg _ _ _ (by omega) ⟨j + 1, by omega, rfl, rfl, fun i p hi hp => ?_, rfl⟩
        by_cases h : i = j
        · subst h
          rw [hy] at hp
          cases hp
          omega
        · exact hno i p (by omega) hp
  · have ej : j = l.length := by omega
    unfold treeE at hk
    rw [if_pos ⟨c1, c2, fun i p hp => hno i p (by have := (List.getElem?_eq_some_iff.1 hp).1; omega) hp⟩] at hk
    exact hk
theorem ref05_Has_s {v : Value} {l : List Int} {x : Int} (i : Nat) (hi : L[i]? = some S) (hS : Sat e w L) (hr : ∀ g, S g → rdS 1 (intsK .i64) v l g) (hl : l.length ≤ 1000000) (hk : K (.bool (decide (x ∈ l))) w) : Cl prog 127 #[v, .int .i64 x] w K := by
  refine pacelineref05_Has_calls ?_
  unfold pacelineref05_Has
  refine lpi1 (fun q t8 w' => ∃ j : Nat, j ≤ l.length ∧ t8 = .int .i64 j ∧ q = l.length - j ∧ x ∉ l.take j ∧ w' = w) l.length ⟨0, Nat.zero_le _, rfl, rfl, by simp, rfl⟩ ?_
  rintro q _ w' g ⟨j, hj, rfl, rfl, hno, rfl⟩ hg
  refine lnS_rd hS i hi hr ?_
  refine lt_c (fun c => iff_t ?_) (fun c => iff_f ?_)
  · obtain ⟨y, hy⟩ := get_of_lt (l := l) (j := j) (by omega)
    refine ixS_rd hS i hi hr (fun _ => rfl) hy fun a ha => ?_
    refine ld1_of hS i hi ha (v := .int .i64 y) rfl ?_
    refine eq_c (fun c2 => iff_t ?_) (fun c2 => iff_f ?_)
    · rw [decide_eq_true (c2 ▸ List.mem_of_getElem? hy)] at hk
      exact hk
    · refine inc_s (by omega) ?_
      refine hg _ _ _ (by omega) ⟨j + 1, by omega, rfl, rfl, ?_, rfl⟩
      rw [List.take_add_one, hy]
      simp [hno, Ne.symm c2]
  · have ej : j = l.length := by omega
    rw [ej, List.take_length] at hno
    rw [decide_eq_false hno] at hk
    exact hk
theorem ref07_in_s {n m : Int} (hk : K (.bool (decide (0 ≤ n ∧ n < m))) w) : Cl prog 199 #[.int .i64 n, .int .i64 m] w K := by
  refine pacelineref07_in_calls ?_
  unfold pacelineref07_in
  by_cases c1 : 0 ≤ n
  · by_cases c2 : n < m
    · rw [decide_eq_true ⟨c1, c2⟩] at hk
      repeat (first | refine gd_tt ?_ | refine gd_ff ?_ | refine gd_tf ?_ | refine gd_ft ?_ | refine gd_u ?_ | refine pk_t ?_ | refine pk_f ?_ | refine iff_t ?_ | refine iff_f ?_ | refine not_t ?_ | refine not_f ?_ | refine beq_s ?_ | refine bne_s ?_ | refine ncP_p ?_ | refine nc_p ?_ | refine fld_at ?_ | refine xt_02 ?_ | refine xt_12 ?_ | refine xt_03 ?_ | refine xt_13 ?_ | refine xt_23 ?_ | refine eq_t (by omega) ?_ | refine eq_f (by omega) ?_ | refine ne_t (by omega) ?_ | refine ne_f (by omega) ?_ | refine lt_t (by omega) ?_ | refine lt_f (by omega) ?_ | refine gt_t (by omega) ?_ | refine gt_f (by omega) ?_ | refine ge_t (by omega) ?_ | refine ge_f (by omega) ?_ | refine le_t (by omega) ?_ | refine le_f (by omega) ?_)
      exact hk
    · rw [decide_eq_false fun h => c2 h.2] at hk
      repeat (first | refine gd_tt ?_ | refine gd_ff ?_ | refine gd_tf ?_ | refine gd_ft ?_ | refine gd_u ?_ | refine pk_t ?_ | refine pk_f ?_ | refine iff_t ?_ | refine iff_f ?_ | refine not_t ?_ | refine not_f ?_ | refine beq_s ?_ | refine bne_s ?_ | refine ncP_p ?_ | refine nc_p ?_ | refine fld_at ?_ | refine xt_02 ?_ | refine xt_12 ?_ | refine xt_03 ?_ | refine xt_13 ?_ | refine xt_23 ?_ | refine eq_t (by omega) ?_ | refine eq_f (by omega) ?_ | refine ne_t (by omega) ?_ | refine ne_f (by omega) ?_ | refine lt_t (by omega) ?_ | refine lt_f (by omega) ?_ | refine gt_t (by omega) ?_ | refine gt_f (by omega) ?_ | refine ge_t (by omega) ?_ | refine ge_f (by omega) ?_ | refine le_t (by omega) ?_ | refine le_f (by omega) ?_)
      exact hk
  · rw [decide_eq_false fun h => c1 h.1] at hk
    repeat (first | refine gd_tt ?_ | refine gd_ff ?_ | refine gd_tf ?_ | refine gd_ft ?_ | refine gd_u ?_ | refine pk_t ?_ | refine pk_f ?_ | refine iff_t ?_ | refine iff_f ?_ | refine not_t ?_ | refine not_f ?_ | refine beq_s ?_ | refine bne_s ?_ | refine ncP_p ?_ | refine nc_p ?_ | refine fld_at ?_ | refine xt_02 ?_ | refine xt_12 ?_ | refine xt_03 ?_ | refine xt_13 ?_ | refine xt_23 ?_ | refine eq_t (by omega) ?_ | refine eq_f (by omega) ?_ | refine ne_t (by omega) ?_ | refine ne_f (by omega) ?_ | refine lt_t (by omega) ?_ | refine lt_f (by omega) ?_ | refine gt_t (by omega) ?_ | refine gt_f (by omega) ?_ | refine ge_t (by omega) ?_ | refine ge_f (by omega) ?_ | refine le_t (by omega) ?_ | refine le_f (by omega) ?_)
    exact hk
theorem ref07_fine_s {r : RuleX} (i : Nat) (hi : L[i]? = some S) (hS : Sat e w L) (hr : ∀ g, S g → rdS 3 Out.cs r.sv r.Sends g) (hl : r.Sends.length ≤ 1000000) (hk : ∀ w', Sat e w' L → ∀ b : Bool, (b = true ↔ okRule r.r) → K (.bool b) w') :
    Cl prog 191 #[.agg r.cs.toArray] w K := by
  refine pacelineref07_fine_calls ?_
  unfold pacelineref07_fine
  refine al_s (cs := r.cs) hS rfl fun tb w1 h1 => ?_
  have hi1 : (blk tb 89 r.cs :: L)[i + 1]? = some S := by simpa using hi
  have hno : ¬ okRule r.r → ∀ w', Sat e w' (blk tb 89 r.cs :: L) → K (.bool false) w' := fun h w' h' => hk _ h'.drop false ⟨(fun h => by cases h), fun h2 => absurd h2 h⟩
  refine fld_at (ld1_at h1 0 rfl (v := .int .i64 r.State) rfl ?_)
  refine ref07_in_s (not_d ?_)
  by_cases d1 : 0 ≤ r.State ∧ r.State < 8
  case neg =>
    rw [decide_eq_false d1, Bool.not_false]
    repeat (first | refine gd_tt ?_ | refine gd_ff ?_ | refine gd_tf ?_ | refine gd_ft ?_ | refine gd_u ?_ | refine pk_t ?_ | refine pk_f ?_ | refine iff_t ?_ | refine iff_f ?_ | refine not_t ?_ | refine not_f ?_ | refine beq_s ?_ | refine bne_s ?_ | refine ncP_p ?_ | refine nc_p ?_ | refine fld_at ?_ | refine xt_02 ?_ | refine xt_12 ?_ | refine xt_03 ?_ | refine xt_13 ?_ | refine xt_23 ?_ | refine eq_t (by omega) ?_ | refine eq_f (by omega) ?_ | refine ne_t (by omega) ?_ | refine ne_f (by omega) ?_ | refine lt_t (by omega) ?_ | refine lt_f (by omega) ?_ | refine gt_t (by omega) ?_ | refine gt_f (by omega) ?_ | refine ge_t (by omega) ?_ | refine ge_f (by omega) ?_ | refine le_t (by omega) ?_ | refine le_f (by omega) ?_)
    exact hno (fun h => d1 ⟨h.1, h.2.1⟩) _ h1
  rw [decide_eq_true d1, Bool.not_true]
  repeat (first | refine gd_tt ?_ | refine gd_ff ?_ | refine gd_tf ?_ | refine gd_ft ?_ | refine gd_u ?_ | refine pk_t ?_ | refine pk_f ?_ | refine iff_t ?_ | refine iff_f ?_ | refine not_t ?_ | refine not_f ?_ | refine beq_s ?_ | refine bne_s ?_ | refine ncP_p ?_ | refine nc_p ?_ | refine fld_at ?_ | refine xt_02 ?_ | refine xt_12 ?_ | refine xt_03 ?_ | refine xt_13 ?_ | refine xt_23 ?_ | refine eq_t (by omega) ?_ | refine eq_f (by omega) ?_ | refine ne_t (by omega) ?_ | refine ne_f (by omega) ?_ | refine lt_t (by omega) ?_ | refine lt_f (by omega) ?_ | refine gt_t (by omega) ?_ | refine gt_f (by omega) ?_ | refine ge_t (by omega) ?_ | refine ge_f (by omega) ?_ | refine le_t (by omega) ?_ | refine le_f (by omega) ?_)
  refine ld1_at h1 0 rfl (v := .int .i64 r.Next) rfl ?_
  refine gd_ff (ref07_in_s (gd_ff (not_d ?_)))
  by_cases d2 : 0 ≤ r.Next ∧ r.Next < 8
  case neg =>
    rw [decide_eq_false d2, Bool.not_false]
    repeat (first | refine gd_tt ?_ | refine gd_ff ?_ | refine gd_tf ?_ | refine gd_ft ?_ | refine gd_u ?_ | refine pk_t ?_ | refine pk_f ?_ | refine iff_t ?_ | refine iff_f ?_ | refine not_t ?_ | refine not_f ?_ | refine beq_s ?_ | refine bne_s ?_ | refine ncP_p ?_ | refine nc_p ?_ | refine fld_at ?_ | refine xt_02 ?_ | refine xt_12 ?_ | refine xt_03 ?_ | refine xt_13 ?_ | refine xt_23 ?_ | refine eq_t (by omega) ?_ | refine eq_f (by omega) ?_ | refine ne_t (by omega) ?_ | refine ne_f (by omega) ?_ | refine lt_t (by omega) ?_ | refine lt_f (by omega) ?_ | refine gt_t (by omega) ?_ | refine gt_f (by omega) ?_ | refine ge_t (by omega) ?_ | refine ge_f (by omega) ?_ | refine le_t (by omega) ?_ | refine le_f (by omega) ?_)
    exact hno (fun h => d2 ⟨h.2.2.1, h.2.2.2.1⟩) _ h1
  rw [decide_eq_true d2, Bool.not_true]
  repeat (first | refine gd_tt ?_ | refine gd_ff ?_ | refine gd_tf ?_ | refine gd_ft ?_ | refine gd_u ?_ | refine pk_t ?_ | refine pk_f ?_ | refine iff_t ?_ | refine iff_f ?_ | refine not_t ?_ | refine not_f ?_ | refine beq_s ?_ | refine bne_s ?_ | refine ncP_p ?_ | refine nc_p ?_ | refine fld_at ?_ | refine xt_02 ?_ | refine xt_12 ?_ | refine xt_03 ?_ | refine xt_13 ?_ | refine xt_23 ?_ | refine eq_t (by omega) ?_ | refine eq_f (by omega) ?_ | refine ne_t (by omega) ?_ | refine ne_f (by omega) ?_ | refine lt_t (by omega) ?_ | refine lt_f (by omega) ?_ | refine gt_t (by omega) ?_ | refine gt_f (by omega) ?_ | refine ge_t (by omega) ?_ | refine ge_f (by omega) ?_ | refine le_t (by omega) ?_ | refine le_f (by omega) ?_)
  refine ld1_at h1 0 rfl (v := .int .i64 r.Class) rfl ?_
  refine gd_ff (ref07_in_s (gd_ff (not_d ?_)))
  by_cases d3 : 0 ≤ r.Class ∧ r.Class < 16
  case neg =>
    rw [decide_eq_false d3, Bool.not_false]
    repeat (first | refine gd_tt ?_ | refine gd_ff ?_ | refine gd_tf ?_ | refine gd_ft ?_ | refine gd_u ?_ | refine pk_t ?_ | refine pk_f ?_ | refine iff_t ?_ | refine iff_f ?_ | refine not_t ?_ | refine not_f ?_ | refine beq_s ?_ | refine bne_s ?_ | refine ncP_p ?_ | refine nc_p ?_ | refine fld_at ?_ | refine xt_02 ?_ | refine xt_12 ?_ | refine xt_03 ?_ | refine xt_13 ?_ | refine xt_23 ?_ | refine eq_t (by omega) ?_ | refine eq_f (by omega) ?_ | refine ne_t (by omega) ?_ | refine ne_f (by omega) ?_ | refine lt_t (by omega) ?_ | refine lt_f (by omega) ?_ | refine gt_t (by omega) ?_ | refine gt_f (by omega) ?_ | refine ge_t (by omega) ?_ | refine ge_f (by omega) ?_ | refine le_t (by omega) ?_ | refine le_f (by omega) ?_)
    exact hno (fun h => d3 ⟨h.2.2.2.2.1, h.2.2.2.2.2.1⟩) _ h1
  rw [decide_eq_true d3, Bool.not_true]
  repeat (first | refine gd_tt ?_ | refine gd_ff ?_ | refine gd_tf ?_ | refine gd_ft ?_ | refine gd_u ?_ | refine pk_t ?_ | refine pk_f ?_ | refine iff_t ?_ | refine iff_f ?_ | refine not_t ?_ | refine not_f ?_ | refine beq_s ?_ | refine bne_s ?_ | refine ncP_p ?_ | refine nc_p ?_ | refine fld_at ?_ | refine xt_02 ?_ | refine xt_12 ?_ | refine xt_03 ?_ | refine xt_13 ?_ | refine xt_23 ?_ | refine eq_t (by omega) ?_ | refine eq_f (by omega) ?_ | refine ne_t (by omega) ?_ | refine ne_f (by omega) ?_ | refine lt_t (by omega) ?_ | refine lt_f (by omega) ?_ | refine gt_t (by omega) ?_ | refine gt_f (by omega) ?_ | refine ge_t (by omega) ?_ | refine ge_f (by omega) ?_ | refine le_t (by omega) ?_ | refine le_f (by omega) ?_)
  refine ld1_at h1 0 rfl (v := r.sv) rfl ?_
  refine gd_ff (lnS_rd h1 (i + 1) hi1 hr ?_)
  by_cases d4 : 3 < r.Sends.length
  · repeat (first | refine gd_tt ?_ | refine gd_ff ?_ | refine gd_tf ?_ | refine gd_ft ?_ | refine gd_u ?_ | refine pk_t ?_ | refine pk_f ?_ | refine iff_t ?_ | refine iff_f ?_ | refine not_t ?_ | refine not_f ?_ | refine beq_s ?_ | refine bne_s ?_ | refine ncP_p ?_ | refine nc_p ?_ | refine fld_at ?_ | refine xt_02 ?_ | refine xt_12 ?_ | refine xt_03 ?_ | refine xt_13 ?_ | refine xt_23 ?_ | refine eq_t (by omega) ?_ | refine eq_f (by omega) ?_ | refine ne_t (by omega) ?_ | refine ne_f (by omega) ?_ | refine lt_t (by omega) ?_ | refine lt_f (by omega) ?_ | refine gt_t (by omega) ?_ | refine gt_f (by omega) ?_ | refine ge_t (by omega) ?_ | refine ge_f (by omega) ?_ | refine le_t (by omega) ?_ | refine le_f (by omega) ?_)
    exact hno (fun h => by have := h.2.2.2.2.2.2.1; simp only [RuleX.r] at this; omega) _ h1
  repeat (first | refine gd_tt ?_ | refine gd_ff ?_ | refine gd_tf ?_ | refine gd_ft ?_ | refine gd_u ?_ | refine pk_t ?_ | refine pk_f ?_ | refine iff_t ?_ | refine iff_f ?_ | refine not_t ?_ | refine not_f ?_ | refine beq_s ?_ | refine bne_s ?_ | refine ncP_p ?_ | refine nc_p ?_ | refine fld_at ?_ | refine xt_02 ?_ | refine xt_12 ?_ | refine xt_03 ?_ | refine xt_13 ?_ | refine xt_23 ?_ | refine eq_t (by omega) ?_ | refine eq_f (by omega) ?_ | refine ne_t (by omega) ?_ | refine ne_f (by omega) ?_ | refine lt_t (by omega) ?_ | refine lt_f (by omega) ?_ | refine gt_t (by omega) ?_ | refine gt_f (by omega) ?_ | refine ge_t (by omega) ?_ | refine ge_f (by omega) ?_ | refine le_t (by omega) ?_ | refine le_f (by omega) ?_)
  refine lpi1 (fun q t w => ∃ j : Nat, j ≤ r.Sends.length ∧ t = .int .i64 j ∧ q = r.Sends.length - j ∧ (∀ o ∈ r.Sends.take j, okOut o) ∧ Sat e w (blk tb 89 r.cs :: L)) r.Sends.length ⟨0, Nat.zero_le _, rfl, rfl, by simp, h1⟩ ?_
  rintro q _ w g ⟨j, hj, rfl, rfl, hall, h2⟩ hg
  refine fld_at (ld1_at h2 0 rfl (v := r.sv) rfl ?_)
  refine lnS_rd h2 (i + 1) hi1 hr ?_
  refine lt_c (fun c => iff_t ?_) (fun c => iff_f ?_)
  · obtain ⟨o, ho⟩ := get_of_lt (l := r.Sends) (j := j) (by omega)
    have hom := List.mem_of_getElem? ho
    refine fld_at (ld1_at h2 0 rfl (v := r.sv) rfl ?_)
    refine ixS_rd h2 (i + 1) hi1 hr (fun _ => rfl) ho fun a ha => ?_
    refine ldN_of h2 (i + 1) hi1 ha rfl ?_
    rw [zero_87]
    refine al_s (cs := ints [0, 0, 0]) h2 rfl fun t2 w3 h3 => ?_
    refine stN_at h3 0 rfl (vs := o.cs) rfl rfl (by decide) (ints_flat _) (cs' := o.cs) (by rfl) fun w4 h4 => ?_
    have hno2 : ¬ okOut o → K (.bool false) w4 := fun h => hno (fun h2 => h (h2.2.2.2.2.2.2.2 o hom)) _ h4.drop
    refine fld_at (ld1_at h4 0 rfl (v := .int .i64 o.Class) rfl ?_)
    refine ref07_in_s (not_d ?_)
    by_cases d1 : 0 ≤ o.Class ∧ o.Class < 16
    case neg =>
      rw [decide_eq_false d1, Bool.not_false]
      repeat (first | refine gd_tt ?_ | refine gd_ff ?_ | refine gd_tf ?_ | refine gd_ft ?_ | refine gd_u ?_ | refine pk_t ?_ | refine pk_f ?_ | refine iff_t ?_ | refine iff_f ?_ | refine not_t ?_ | refine not_f ?_ | refine beq_s ?_ | refine bne_s ?_ | refine ncP_p ?_ | refine nc_p ?_ | refine fld_at ?_ | refine xt_02 ?_ | refine xt_12 ?_ | refine xt_03 ?_ | refine xt_13 ?_ | refine xt_23 ?_ | refine eq_t (by omega) ?_ | refine eq_f (by omega) ?_ | refine ne_t (by omega) ?_ | refine ne_f (by omega) ?_ | refine lt_t (by omega) ?_ | refine lt_f (by omega) ?_ | refine gt_t (by omega) ?_ | refine gt_f (by omega) ?_ | refine ge_t (by omega) ?_ | refine ge_f (by omega) ?_ | refine le_t (by omega) ?_ | refine le_f (by omega) ?_)
      exact hno2 fun h => d1 ⟨h.1, h.2.1⟩
    rw [decide_eq_true d1, Bool.not_true]
    repeat (first | refine gd_tt ?_ | refine gd_ff ?_ | refine gd_tf ?_ | refine gd_ft ?_ | refine gd_u ?_ | refine pk_t ?_ | refine pk_f ?_ | refine iff_t ?_ | refine iff_f ?_ | refine not_t ?_ | refine not_f ?_ | refine beq_s ?_ | refine bne_s ?_ | refine ncP_p ?_ | refine nc_p ?_ | refine fld_at ?_ | refine xt_02 ?_ | refine xt_12 ?_ | refine xt_03 ?_ | refine xt_13 ?_ | refine xt_23 ?_ | refine eq_t (by omega) ?_ | refine eq_f (by omega) ?_ | refine ne_t (by omega) ?_ | refine ne_f (by omega) ?_ | refine lt_t (by omega) ?_ | refine lt_f (by omega) ?_ | refine gt_t (by omega) ?_ | refine gt_f (by omega) ?_ | refine ge_t (by omega) ?_ | refine ge_f (by omega) ?_ | refine le_t (by omega) ?_ | refine le_f (by omega) ?_)
    refine ld1_at h4 0 rfl (v := .int .i64 o.Delay) rfl ?_
    refine gd_ff (ref07_in_s (gd_ff (not_d ?_)))
    by_cases d2 : 0 ≤ o.Delay ∧ o.Delay < 1048577
    case neg =>
      rw [decide_eq_false d2, Bool.not_false]
      repeat (first | refine gd_tt ?_ | refine gd_ff ?_ | refine gd_tf ?_ | refine gd_ft ?_ | refine gd_u ?_ | refine pk_t ?_ | refine pk_f ?_ | refine iff_t ?_ | refine iff_f ?_ | refine not_t ?_ | refine not_f ?_ | refine beq_s ?_ | refine bne_s ?_ | refine ncP_p ?_ | refine nc_p ?_ | refine fld_at ?_ | refine xt_02 ?_ | refine xt_12 ?_ | refine xt_03 ?_ | refine xt_13 ?_ | refine xt_23 ?_ | refine eq_t (by omega) ?_ | refine eq_f (by omega) ?_ | refine ne_t (by omega) ?_ | refine ne_f (by omega) ?_ | refine lt_t (by omega) ?_ | refine lt_f (by omega) ?_ | refine gt_t (by omega) ?_ | refine gt_f (by omega) ?_ | refine ge_t (by omega) ?_ | refine ge_f (by omega) ?_ | refine le_t (by omega) ?_ | refine le_f (by omega) ?_)
      exact hno2 fun h => d2 ⟨h.2.2.1, h.2.2.2.1⟩
    rw [decide_eq_true d2, Bool.not_true]
    repeat (first | refine gd_tt ?_ | refine gd_ff ?_ | refine gd_tf ?_ | refine gd_ft ?_ | refine gd_u ?_ | refine pk_t ?_ | refine pk_f ?_ | refine iff_t ?_ | refine iff_f ?_ | refine not_t ?_ | refine not_f ?_ | refine beq_s ?_ | refine bne_s ?_ | refine ncP_p ?_ | refine nc_p ?_ | refine fld_at ?_ | refine xt_02 ?_ | refine xt_12 ?_ | refine xt_03 ?_ | refine xt_13 ?_ | refine xt_23 ?_ | refine eq_t (by omega) ?_ | refine eq_f (by omega) ?_ | refine ne_t (by omega) ?_ | refine ne_f (by omega) ?_ | refine lt_t (by omega) ?_ | refine lt_f (by omega) ?_ | refine gt_t (by omega) ?_ | refine gt_f (by omega) ?_ | refine ge_t (by omega) ?_ | refine ge_f (by omega) ?_ | refine le_t (by omega) ?_ | refine le_f (by omega) ?_)
    refine ld1_at h4 0 rfl (v := .int .i64 o.Add) rfl ?_
    refine gd_ff (ref07_in_s (gd_ff (not_d ?_)))
    by_cases d3 : 0 ≤ o.Add ∧ o.Add < 1000
    case neg =>
      rw [decide_eq_false d3, Bool.not_false]
      repeat (first | refine gd_tt ?_ | refine gd_ff ?_ | refine gd_tf ?_ | refine gd_ft ?_ | refine gd_u ?_ | refine pk_t ?_ | refine pk_f ?_ | refine iff_t ?_ | refine iff_f ?_ | refine not_t ?_ | refine not_f ?_ | refine beq_s ?_ | refine bne_s ?_ | refine ncP_p ?_ | refine nc_p ?_ | refine fld_at ?_ | refine xt_02 ?_ | refine xt_12 ?_ | refine xt_03 ?_ | refine xt_13 ?_ | refine xt_23 ?_ | refine eq_t (by omega) ?_ | refine eq_f (by omega) ?_ | refine ne_t (by omega) ?_ | refine ne_f (by omega) ?_ | refine lt_t (by omega) ?_ | refine lt_f (by omega) ?_ | refine gt_t (by omega) ?_ | refine gt_f (by omega) ?_ | refine ge_t (by omega) ?_ | refine ge_f (by omega) ?_ | refine le_t (by omega) ?_ | refine le_f (by omega) ?_)
      exact hno2 fun h => d3 ⟨h.2.2.2.2.1, h.2.2.2.2.2⟩
    rw [decide_eq_true d3, Bool.not_true]
    repeat (first | refine gd_tt ?_ | refine gd_ff ?_ | refine gd_tf ?_ | refine gd_ft ?_ | refine gd_u ?_ | refine pk_t ?_ | refine pk_f ?_ | refine iff_t ?_ | refine iff_f ?_ | refine not_t ?_ | refine not_f ?_ | refine beq_s ?_ | refine bne_s ?_ | refine ncP_p ?_ | refine nc_p ?_ | refine fld_at ?_ | refine xt_02 ?_ | refine xt_12 ?_ | refine xt_03 ?_ | refine xt_13 ?_ | refine xt_23 ?_ | refine eq_t (by omega) ?_ | refine eq_f (by omega) ?_ | refine ne_t (by omega) ?_ | refine ne_f (by omega) ?_ | refine lt_t (by omega) ?_ | refine lt_f (by omega) ?_ | refine gt_t (by omega) ?_ | refine gt_f (by omega) ?_ | refine ge_t (by omega) ?_ | refine ge_f (by omega) ?_ | refine le_t (by omega) ?_ | refine le_f (by omega) ?_)
    refine inc_s (by omega) ?_
    refine hg _ _ _ (by omega) ⟨j + 1, by omega, rfl, rfl, fun x hx => ?_, h4.drop⟩
    rw [List.take_add_one, ho] at hx
    rcases List.mem_append.1 hx with h | h
    · exact hall x h
    · simp at h
      subst h
      exact ⟨d1.1, d1.2, d2.1, d2.2, d3.1, d3.2⟩
  · have ej : j = r.Sends.length := by omega
    rw [ej, List.take_length] at hall
    exact hk _ h2.drop true ⟨fun _ => ⟨d1.1, d1.2, d2.1, d2.2, d3.1, d3.2, by simp only [RuleX.r]; omega, hall⟩, fun _ => rfl⟩

def isOn (s c : Int) (r : RuleX) : Prop := r.State = s ∧ r.Class = c
theorem ref07_Find_s {v : Value} {l : List RuleX} {s c : Int} (i : Nat) (hi : L[i]? = some S) (hS : Sat e w L) (hr : ∀ g, S g → rdS 4 RuleX.cs v l g) (hl : l.length ≤ 1000000)
    (hno : (∀ r ∈ l, ¬ isOn s c r) → K (.int .i64 (-1)) w) (hyes : ∀ (j : Nat) r, l[j]? = some r → isOn s c r → (∀ y ∈ l.take j, ¬ isOn s c y) → K (.int .i64 j) w) : Cl prog 65 #[v, .int .i64 s, .int .i64 c] w K := by
  refine pacelineref07_Find_calls ?_
  unfold pacelineref07_Find
  refine lpi1 (fun q t w' => ∃ j : Nat, j ≤ l.length ∧ t = .int .i64 j ∧ q = l.length - j ∧ (∀ y ∈ l.take j, ¬ isOn s c y) ∧ w' = w) l.length ⟨0, Nat.zero_le _, rfl, rfl, by simp, rfl⟩ ?_
  rintro q _ w' g ⟨j, hj, rfl, rfl, hlo, rfl⟩ hg
  refine lnS_rd hS i hi hr ?_
  refine lt_c (fun c0 => iff_t ?_) (fun c0 => iff_f ?_)
  · obtain ⟨r, hrj⟩ := get_of_lt (l := l) (j := j) (by omega)
    have hnext : ¬ isOn s c r → bi .add .i64 (.int .i64 j) (.int .i64 1) w' fun t13 w => g [t13] w := by
      intro h
      refine inc_s (by omega) ?_
      refine hg _ _ _ (by omega) ⟨j + 1, by omega, rfl, rfl, fun y hy => ?_, rfl⟩
      rw [List.take_add_one, hrj] at hy
      rcases List.mem_append.1 hy with h' | h'
      · exact hlo y h'
      · simp at h'
        subst h'
        exact h
    refine ixS_rd hS i hi hr (fun _ => rfl) hrj fun a ha => ?_
    refine fld_of ha fun a1 ha1 => ?_
    refine ld1_of hS i hi ha1 (v := .int .i64 r.State) rfl ?_
    refine eq_c (fun c1 => ?_) (fun c1 => ?_)
    · refine gd_tt (gd_tt (gd_tt (ixS_rd hS i hi hr (fun _ => rfl) hrj fun a ha => ?_)))
      refine gd_tt (fld_of ha fun a1 ha1 => ?_)
      refine gd_tt (ld1_of hS i hi ha1 (v := .int .i64 r.Class) rfl ?_)
      refine gd_tt (gd_tt (eq_c (fun c2 => ?_) (fun c2 => ?_)))
      · exact pk_t (iff_t (hyes j r hrj ⟨c1, c2⟩ hlo))
      · exact pk_t (iff_f (hnext fun h => c2 h.2))
    · repeat (first | refine gd_tt ?_ | refine gd_ff ?_ | refine gd_tf ?_ | refine gd_ft ?_ | refine gd_u ?_ | refine pk_t ?_ | refine pk_f ?_ | refine iff_t ?_ | refine iff_f ?_ | refine not_t ?_ | refine not_f ?_ | refine beq_s ?_ | refine bne_s ?_ | refine ncP_p ?_ | refine nc_p ?_ | refine fld_at ?_ | refine xt_02 ?_ | refine xt_12 ?_ | refine xt_03 ?_ | refine xt_13 ?_ | refine xt_23 ?_ | refine eq_t (by omega) ?_ | refine eq_f (by omega) ?_ | refine ne_t (by omega) ?_ | refine ne_f (by omega) ?_ | refine lt_t (by omega) ?_ | refine lt_f (by omega) ?_ | refine gt_t (by omega) ?_ | refine gt_f (by omega) ?_ | refine ge_t (by omega) ?_ | refine ge_f (by omega) ?_ | refine le_t (by omega) ?_ | refine le_f (by omega) ?_)
      exact hnext fun h => c1 h.1
  · have ej : j = l.length := by omega
    rw [ej, List.take_length] at hlo
    exact hno hlo
theorem isOn_onK {r x : RuleX} : isOn r.State r.Class x ↔ onK x = onK r := by
  unfold isOn onK
  simp
open Classical in
theorem ref07_Check_s {v : Value} {l : List RuleX} (i : Nat) (hi : L[i]? = some S) (hS : Sat e w L) (hr : ∀ g, S g → RdRules v l g) (hl : ∀ r ∈ l, r.Sends.length ≤ 1000000) (hk : ∀ w', Sat e w' L → K (.int .i64 (if okRules (l.map RuleX.r) then 0 else 70)) w') :
    Cl prog 166 #[v] w K := by
  refine pacelineref07_Check_calls ?_
  unfold pacelineref07_Check
  have hbad : ¬ okRules (l.map RuleX.r) → ∀ w', Sat e w' L → K (.int .i64 70) w' := fun h w' h' => by have := hk w' h'; rw [if_neg h] at this; exact this
  refine lnS_rd hS i hi (fun g hg => (hr g hg).s) ?_
  by_cases c1 : 32 < l.length
  · repeat (first | refine gd_tt ?_ | refine gd_ff ?_ | refine gd_tf ?_ | refine gd_ft ?_ | refine gd_u ?_ | refine pk_t ?_ | refine pk_f ?_ | refine iff_t ?_ | refine iff_f ?_ | refine not_t ?_ | refine not_f ?_ | refine beq_s ?_ | refine bne_s ?_ | refine ncP_p ?_ | refine nc_p ?_ | refine fld_at ?_ | refine xt_02 ?_ | refine xt_12 ?_ | refine xt_03 ?_ | refine xt_13 ?_ | refine xt_23 ?_ | refine eq_t (by omega) ?_ | refine eq_f (by omega) ?_ | refine ne_t (by omega) ?_ | refine ne_f (by omega) ?_ | refine lt_t (by omega) ?_ | refine lt_f (by omega) ?_ | refine gt_t (by omega) ?_ | refine gt_f (by omega) ?_ | refine ge_t (by omega) ?_ | refine ge_f (by omega) ?_ | refine le_t (by omega) ?_ | refine le_f (by omega) ?_)
    exact hbad (fun h => by have := h.1; rw [List.length_map] at this; omega) _ hS
  refine gt_f (by omega) (iff_f ?_)
  refine lpi1 (fun q t14 w => ∃ j : Nat, j ≤ l.length ∧ t14 = .int .i64 j ∧ q = l.length - j ∧ (∀ r ∈ l.take j, okRule r.r) ∧ ((l.take j).map onK).Nodup ∧ Sat e w L) l.length
    ⟨0, Nat.zero_le _, rfl, rfl, by simp, by simp, hS⟩ ?_
  rintro q _ w g ⟨j, hj, rfl, rfl, hall, hnd, h2⟩ hg
  refine lnS_rd h2 i hi (fun g hg => (hr g hg).s) ?_
  refine lt_c (fun c => iff_t ?_) (fun c => iff_f ?_)
  · obtain ⟨r, hrj⟩ := get_of_lt (l := l) (j := j) (by omega)
    have hrm := List.mem_of_getElem? hrj
    refine dr_s h2 fun w3 h3 => ?_
    refine ixS_rd h3 i hi (fun g hg => (hr g hg).s) (fun _ => rfl) hrj fun a ha => ?_
    refine ldN_of h3 i hi ha rfl ?_
    refine ref07_fine_s i hi h3 (fun g hg => (hr g hg).e r hrm) (hl r hrm) fun w4 h4 b hb => ?_
    refine not_d ?_
    cases b with
    | false =>
      rw [Bool.not_false]
      repeat (first | refine gd_tt ?_ | refine gd_ff ?_ | refine gd_tf ?_ | refine gd_ft ?_ | refine gd_u ?_ | refine pk_t ?_ | refine pk_f ?_ | refine iff_t ?_ | refine iff_f ?_ | refine not_t ?_ | refine not_f ?_ | refine beq_s ?_ | refine bne_s ?_ | refine ncP_p ?_ | refine nc_p ?_ | refine fld_at ?_ | refine xt_02 ?_ | refine xt_12 ?_ | refine xt_03 ?_ | refine xt_13 ?_ | refine xt_23 ?_ | refine eq_t (by omega) ?_ | refine eq_f (by omega) ?_ | refine ne_t (by omega) ?_ | refine ne_f (by omega) ?_ | refine lt_t (by omega) ?_ | refine lt_f (by omega) ?_ | refine gt_t (by omega) ?_ | refine gt_f (by omega) ?_ | refine ge_t (by omega) ?_ | refine ge_f (by omega) ?_ | refine le_t (by omega) ?_ | refine le_f (by omega) ?_)
      exact hbad (fun h => by have := hb.2 ((okRules_x.1 h).2.1 r hrm); cases this) _ h4
    | true =>
      have hok := hb.1 rfl
      rw [Bool.not_true]
      refine gd_ff (gd_ff (gd_ff (gd_ff (ixS_rd h4 i hi (fun g hg => (hr g hg).s) (fun _ => rfl) hrj fun a ha => ?_))))
      refine gd_ff (fld_of ha fun a1 ha1 => ?_)
      refine gd_ff (ld1_of h4 i hi ha1 (v := .int .i64 r.State) rfl ?_)
      refine gd_ff (gd_ff (gd_ff (ixS_rd h4 i hi (fun g hg => (hr g hg).s) (fun _ => rfl) hrj fun a ha => ?_)))
      refine gd_ff (fld_of ha fun a1 ha1 => ?_)
      refine gd_ff (ld1_of h4 i hi ha1 (v := .int .i64 r.Class) rfl ?_)
      refine gd_ff (gd_ff ?_)
      refine ref07_Find_s i hi h4 (fun g hg => (hr g hg).s) (by omega) (fun h => absurd (⟨rfl, rfl⟩ : isOn r.State r.Class r) (h r hrm)) (fun n y hy hon hlo => ?_)
      refine gd_ff (ne_c (fun c2 => ?_) (fun c2 => ?_))
      · refine pk_f (iff_t (hbad (fun h => ?_) _ h4))
        have hnj : n < j := by
          rcases Nat.lt_or_ge n j with h | h
          · exact h
          · have hne : j < n := by omega
            refine absurd (⟨rfl, rfl⟩ : isOn r.State r.Class r) (hlo r ?_)
            refine List.mem_of_getElem? (i := j) ?_
            rw [List.getElem?_take_of_lt hne]
            exact hrj
        refine nodup_at (okRules_x.1 h).2.2 hrj ?_
        rw [← isOn_onK.1 hon]
        refine List.mem_map_of_mem (List.mem_of_getElem? (i := n) ?_)
        rw [List.getElem?_take_of_lt hnj]
        exact hy
      · refine pk_f (iff_f (inc_s (by omega) ?_))
        have e1 : n = j := by omega
        subst e1
        refine hg _ _ _ (by omega) ⟨n + 1, by omega, rfl, rfl, fun x hx => ?_, nodup_take hnd hrj fun hm => ?_, h4⟩
        · rw [List.take_add_one, hrj] at hx
          rcases List.mem_append.1 hx with h | h
          · exact hall x h
          · simp at h
            subst h
            exact hok
        · obtain ⟨x, hx, he⟩ := List.mem_map.1 hm
          exact hlo x hx (isOn_onK.2 he)
  · have ej : j = l.length := by omega
    rw [ej, List.take_length] at hall hnd
    have := hk _ h2
    rw [if_pos (okRules_x.2 ⟨by omega, hall, hnd⟩)] at this
    exact this
theorem rising_lo {most : Int} : ∀ {l : List Int} {lo : Int}, rising most lo l → ∀ c ∈ l, lo < c
  | [], _, _, c, hc => by cases hc
  | a :: l, lo, h, c, hc => by
    obtain ⟨h1, h2, h3⟩ := h
    rcases List.mem_cons.1 hc with rfl | hc
    · exact h1
    · have := rising_lo h3 c hc
      omega
open Classical in
theorem classes_s {v : Value} {l : List Int} {most : Int} (i : Nat) (hi : L[i]? = some S) (hS : Sat e w L) (hr : ∀ g, S g → rdS 1 (intsK .i64) v l g) (hl : l.length ≤ 1000) (hk : ∀ w', Sat e w' L → K (.bool (decide (rising most (-1) l))) w') :
    Cl prog 167 #[v, .int .i64 most] w K := by
  refine pacelineref08_classes_calls ?_
  unfold pacelineref08_classes
  have hbad : ¬ rising most (-1) l → ∀ w', Sat e w' L → K (.bool false) w' := fun h w' h' => by have := hk w' h'; rw [decide_eq_false h] at this; exact this
  refine lpi1 (fun q t w => ∃ j : Nat, j ≤ l.length ∧ t = .int .i64 j ∧ q = l.length - j ∧ (∀ (i : Nat) c, i < j → l[i]? = some c → (if i = 0 then -1 else l.getD (i - 1) 0) < c ∧ c < most) ∧ Sat e w L) l.length ⟨0, Nat.zero_le _, rfl, rfl, fun _ _ h => absurd h (by omega), hS⟩ ?_
  rintro q _ w g ⟨j, hj, rfl, rfl, hno, h1⟩ hg
  refine lnS_rd h1 i hi hr ?_
  refine lt_c (fun c => iff_t ?_) (fun c => iff_f ?_)
  · obtain ⟨y, hy⟩ := get_of_lt (l := l) (j := j) (by omega)
    have hym := List.mem_of_getElem? hy
    refine dr_s h1 fun w2 h2 => ?_
    refine ixS_rd h2 i hi hr (fun _ => rfl) hy fun a ha => ?_
    refine ld1_of h2 i hi ha (v := .int .i64 y) rfl ?_
    by_cases c1 : y < 0
    · repeat (first | refine gd_tt ?_ | refine gd_ff ?_ | refine gd_tf ?_ | refine gd_ft ?_ | refine gd_u ?_ | refine pk_t ?_ | refine pk_f ?_ | refine iff_t ?_ | refine iff_f ?_ | refine not_t ?_ | refine not_f ?_ | refine beq_s ?_ | refine bne_s ?_ | refine ncP_p ?_ | refine nc_p ?_ | refine fld_at ?_ | refine xt_02 ?_ | refine xt_12 ?_ | refine xt_03 ?_ | refine xt_13 ?_ | refine xt_23 ?_ | refine eq_t (by omega) ?_ | refine eq_f (by omega) ?_ | refine ne_t (by omega) ?_ | refine ne_f (by omega) ?_ | refine lt_t (by omega) ?_ | refine lt_f (by omega) ?_ | refine gt_t (by omega) ?_ | refine gt_f (by omega) ?_ | refine ge_t (by omega) ?_ | refine ge_f (by omega) ?_ | refine le_t (by omega) ?_ | refine le_f (by omega) ?_)
      refine hbad (fun h => ?_) _ h2
      have := rising_lo h y hym
      omega
    refine lt_f c1 ?_
    refine gd_ff (gd_ff (gd_ff (ixS_rd h2 i hi hr (fun _ => rfl) hy fun a ha => ?_)))
    refine gd_ff (ld1_of h2 i hi ha (v := .int .i64 y) rfl ?_)
    by_cases c2 : most ≤ y
    · repeat (first | refine gd_tt ?_ | refine gd_ff ?_ | refine gd_tf ?_ | refine gd_ft ?_ | refine gd_u ?_ | refine pk_t ?_ | refine pk_f ?_ | refine iff_t ?_ | refine iff_f ?_ | refine not_t ?_ | refine not_f ?_ | refine beq_s ?_ | refine bne_s ?_ | refine ncP_p ?_ | refine nc_p ?_ | refine fld_at ?_ | refine xt_02 ?_ | refine xt_12 ?_ | refine xt_03 ?_ | refine xt_13 ?_ | refine xt_23 ?_ | refine eq_t (by omega) ?_ | refine eq_f (by omega) ?_ | refine ne_t (by omega) ?_ | refine ne_f (by omega) ?_ | refine lt_t (by omega) ?_ | refine lt_f (by omega) ?_ | refine gt_t (by omega) ?_ | refine gt_f (by omega) ?_ | refine ge_t (by omega) ?_ | refine ge_f (by omega) ?_ | refine le_t (by omega) ?_ | refine le_f (by omega) ?_)
      refine hbad (fun h => ?_) _ h2
      have := (rising_drop.1 h j y hy).2
      omega
    refine gd_ff (gd_ff (ge_f (by omega) (pk_f ?_)))
    have hnext : (if j = 0 then (-1 : Int) else l.getD (j - 1) 0) < y → ∀ w', Sat e w' L → bi .add .i64 (.int .i64 j) (.int .i64 1) w' fun t11 w => g [t11] w := by
      intro hlt w' h'
      refine inc_s (by omega) ?_
      refine hg _ _ _ (by omega) ⟨j + 1, by omega, rfl, rfl, fun i c hi hc => ?_, h'⟩
      by_cases h : i = j
      · subst h
        rw [hy] at hc
        cases hc
        exact ⟨hlt, by omega⟩
      · exact hno i c (by omega) hc
    by_cases c3 : j = 0
    · subst c3
      repeat (first | refine gd_tt ?_ | refine gd_ff ?_ | refine gd_tf ?_ | refine gd_ft ?_ | refine gd_u ?_ | refine pk_t ?_ | refine pk_f ?_ | refine iff_t ?_ | refine iff_f ?_ | refine not_t ?_ | refine not_f ?_ | refine beq_s ?_ | refine bne_s ?_ | refine ncP_p ?_ | refine nc_p ?_ | refine fld_at ?_ | refine xt_02 ?_ | refine xt_12 ?_ | refine xt_03 ?_ | refine xt_13 ?_ | refine xt_23 ?_ | refine eq_t (by omega) ?_ | refine eq_f (by omega) ?_ | refine ne_t (by omega) ?_ | refine ne_f (by omega) ?_ | refine lt_t (by omega) ?_ | refine lt_f (by omega) ?_ | refine gt_t (by omega) ?_ | refine gt_f (by omega) ?_ | refine ge_t (by omega) ?_ | refine ge_f (by omega) ?_ | refine le_t (by omega) ?_ | refine le_f (by omega) ?_)
      exact hnext (by rw [if_pos rfl]; omega) _ h2
    · refine gd_ff (gd_ff (gt_t (by omega) (gd_ff ?_)))
      obtain ⟨z, hz⟩ := get_of_lt (l := l) (j := j - 1) (by omega)
      refine gd_tt (gd_tt (gd_tt (ixS_rd h2 i hi hr (fun _ => rfl) hy fun a ha => ?_)))
      refine gd_tt (ld1_of h2 i hi ha (v := .int .i64 y) rfl ?_)
      refine gd_tt (gd_tt (gd_tt (sub_s (by omega) (by omega) ?_)))
      rw [show (j : Int) - 1 = ((j - 1 : Nat) : Int) from by omega]
      refine gd_tt (ixS_rd h2 i hi hr (fun _ => rfl) hz fun a ha => ?_)
      refine gd_tt (ld1_of h2 i hi ha (v := .int .i64 z) rfl ?_)
      have hzz : l.getD (j - 1) 0 = z := by rw [List.getD_eq_getElem?_getD, hz]; rfl
      refine gd_tt (le_c (fun c4 => ?_) (fun c4 => ?_))
      · repeat (first | refine gd_tt ?_ | refine gd_ff ?_ | refine gd_tf ?_ | refine gd_ft ?_ | refine gd_u ?_ | refine pk_t ?_ | refine pk_f ?_ | refine iff_t ?_ | refine iff_f ?_ | refine not_t ?_ | refine not_f ?_ | refine beq_s ?_ | refine bne_s ?_ | refine ncP_p ?_ | refine nc_p ?_ | refine fld_at ?_ | refine xt_02 ?_ | refine xt_12 ?_ | refine xt_03 ?_ | refine xt_13 ?_ | refine xt_23 ?_ | refine eq_t (by omega) ?_ | refine eq_f (by omega) ?_ | refine ne_t (by omega) ?_ | refine ne_f (by omega) ?_ | refine lt_t (by omega) ?_ | refine lt_f (by omega) ?_ | refine gt_t (by omega) ?_ | refine gt_f (by omega) ?_ | refine ge_t (by omega) ?_ | refine ge_f (by omega) ?_ | refine le_t (by omega) ?_ | refine le_f (by omega) ?_)
        refine hbad (fun h => ?_) _ h2
        have := (rising_drop.1 h j y hy).1
        rw [if_neg c3, hzz] at this
        omega
      · repeat (first | refine gd_tt ?_ | refine gd_ff ?_ | refine gd_tf ?_ | refine gd_ft ?_ | refine gd_u ?_ | refine pk_t ?_ | refine pk_f ?_ | refine iff_t ?_ | refine iff_f ?_ | refine not_t ?_ | refine not_f ?_ | refine beq_s ?_ | refine bne_s ?_ | refine ncP_p ?_ | refine nc_p ?_ | refine fld_at ?_ | refine xt_02 ?_ | refine xt_12 ?_ | refine xt_03 ?_ | refine xt_13 ?_ | refine xt_23 ?_ | refine eq_t (by omega) ?_ | refine eq_f (by omega) ?_ | refine ne_t (by omega) ?_ | refine ne_f (by omega) ?_ | refine lt_t (by omega) ?_ | refine lt_f (by omega) ?_ | refine gt_t (by omega) ?_ | refine gt_f (by omega) ?_ | refine ge_t (by omega) ?_ | refine ge_f (by omega) ?_ | refine le_t (by omega) ?_ | refine le_f (by omega) ?_)
        exact hnext (by rw [if_neg c3, hzz]; omega) _ h2
  · have ej : j = l.length := by omega
    have := hk _ h1
    rw [decide_eq_true (rising_drop.2 fun i c hc => hno i c (by have := (List.getElem?_eq_some_iff.1 hc).1; omega) hc)] at this
    exact this
end Go.Proofs.YtbopajpmadlmhaaGreat
namespace Go.Proofs.YtbopajpmadlmhaaGreat
open Go Go.E
set_option maxRecDepth 100000
variable {e w : World} {L R : List HP} {K : KV} {S : HP}

open Classical in
theorem fedE_chain (f : Fed) (most : Int) : fedE f most = if ¬ (0 ≤ f.Kind ∧ f.Kind ≤ 1) then 1 else if ¬ (1 ≤ f.Look ∧ f.Look ≤ 1048576) then 80 else if ¬ (0 ≤ f.Start ∧ f.Start ≤ 7) then 70 else if ¬ okRules f.Rules then 70
    else if ¬ (rising most (-1) f.Pubs ∧ rising most (-1) f.Subs) then 81 else if rulesE f most f.Rules ≠ 0 then rulesE f most f.Rules else if ¬ okInit f then 82 else 0 := by
  unfold fedE fedEs
  simp only [firstE_cons, firstE_nil]
  by_cases p1 : 0 ≤ f.Kind ∧ f.Kind ≤ 1
  case neg => simp [p1]
  by_cases p2 : 1 ≤ f.Look ∧ f.Look ≤ 1048576
  case neg => simp [p1, p2]
  by_cases p3 : 0 ≤ f.Start ∧ f.Start ≤ 7
  case neg => simp [p1, p2, p3]
  by_cases p4 : okRules f.Rules
  case neg => simp [p1, p2, p3, p4]
  by_cases p5 : rising most (-1) f.Pubs ∧ rising most (-1) f.Subs
  case neg => simp [p1, p2, p3, p4, p5]
  by_cases p6 : rulesE f most f.Rules = 0
  case neg => simp [p1, p2, p3, p4, p5, p6]
  by_cases p7 : okInit f <;> simp [p1, p2, p3, p4, p5, p6, p7]
open Classical in
theorem ref08_Fed_s {f : FedX} {most : Int} (i : Nat) (hi : L[i]? = some S) (hS : Sat e w L) (hr : ∀ g, S g → RdFed f g) (hs : f.short)
    (hk : ∀ w', Sat e w' L → K (.int .i64 (fedE f.f most)) w') : Cl prog 129 #[.agg f.cs.toArray, .int .i64 most] w K := by
  refine pacelineref08_Fed_calls ?_
  unfold pacelineref08_Fed
  refine al_s (cs := f.cs) hS rfl fun b w1 h1 => ?_
  have hi1 : (blk b 66 f.cs :: L)[i + 1]? = some S := by simpa using hi
  rw [fedE_chain] at hk
  refine fld_at (ld1_at h1 0 rfl (v := .int .i64 f.Kind) rfl ?_)
  have hmid : ∀ K : KV, K (.bool (decide (¬ (0 ≤ f.Kind ∧ f.Kind ≤ 1)))) w1 → bi .neq .i64 (.int .i64 f.Kind) (.int .i64 0) w1 fun t12 w =>
      gd t12 true (fun k => fld 0 (.pointer (some ⟨b, 0, none⟩)) w k) w fun t14 w =>
      gd t12 true (fun k => ld1 t14 w k) w fun t15 w =>
      gd t12 true (fun k => bi .neq .i64 t15 (.int .i64 1) w k) w fun t16 w =>
      pk t12 t16 (.bool false) w K := by
    intro K hK
    by_cases q : f.Kind = 0
    · rw [decide_eq_false (by omega)] at hK
      repeat (first | refine gd_tt ?_ | refine gd_ff ?_ | refine gd_tf ?_ | refine gd_ft ?_ | refine gd_u ?_ | refine pk_t ?_ | refine pk_f ?_ | refine iff_t ?_ | refine iff_f ?_ | refine not_t ?_ | refine not_f ?_ | refine beq_s ?_ | refine bne_s ?_ | refine ncP_p ?_ | refine nc_p ?_ | refine fld_at ?_ | refine xt_02 ?_ | refine xt_12 ?_ | refine xt_03 ?_ | refine xt_13 ?_ | refine xt_23 ?_ | refine eq_t (by omega) ?_ | refine eq_f (by omega) ?_ | refine ne_t (by omega) ?_ | refine ne_f (by omega) ?_ | refine lt_t (by omega) ?_ | refine lt_f (by omega) ?_ | refine gt_t (by omega) ?_ | refine gt_f (by omega) ?_ | refine ge_t (by omega) ?_ | refine ge_f (by omega) ?_ | refine le_t (by omega) ?_ | refine le_f (by omega) ?_)
      exact hK
    · repeat (first | refine gd_tt ?_ | refine gd_ff ?_ | refine gd_tf ?_ | refine gd_ft ?_ | refine gd_u ?_ | refine pk_t ?_ | refine pk_f ?_ | refine iff_t ?_ | refine iff_f ?_ | refine not_t ?_ | refine not_f ?_ | refine beq_s ?_ | refine bne_s ?_ | refine ncP_p ?_ | refine nc_p ?_ | refine fld_at ?_ | refine xt_02 ?_ | refine xt_12 ?_ | refine xt_03 ?_ | refine xt_13 ?_ | refine xt_23 ?_ | refine eq_t (by omega) ?_ | refine eq_f (by omega) ?_ | refine ne_t (by omega) ?_ | refine ne_f (by omega) ?_ | refine lt_t (by omega) ?_ | refine lt_f (by omega) ?_ | refine gt_t (by omega) ?_ | refine gt_f (by omega) ?_ | refine ge_t (by omega) ?_ | refine ge_f (by omega) ?_ | refine le_t (by omega) ?_ | refine le_f (by omega) ?_)
      refine ld1_at h1 0 rfl (v := .int .i64 f.Kind) rfl ?_
      by_cases q2 : f.Kind = 1
      · rw [decide_eq_false (by omega)] at hK
        repeat (first | refine gd_tt ?_ | refine gd_ff ?_ | refine gd_tf ?_ | refine gd_ft ?_ | refine gd_u ?_ | refine pk_t ?_ | refine pk_f ?_ | refine iff_t ?_ | refine iff_f ?_ | refine not_t ?_ | refine not_f ?_ | refine beq_s ?_ | refine bne_s ?_ | refine ncP_p ?_ | refine nc_p ?_ | refine fld_at ?_ | refine xt_02 ?_ | refine xt_12 ?_ | refine xt_03 ?_ | refine xt_13 ?_ | refine xt_23 ?_ | refine eq_t (by omega) ?_ | refine eq_f (by omega) ?_ | refine ne_t (by omega) ?_ | refine ne_f (by omega) ?_ | refine lt_t (by omega) ?_ | refine lt_f (by omega) ?_ | refine gt_t (by omega) ?_ | refine gt_f (by omega) ?_ | refine ge_t (by omega) ?_ | refine ge_f (by omega) ?_ | refine le_t (by omega) ?_ | refine le_f (by omega) ?_)
        exact hK
      · rw [decide_eq_true (by omega)] at hK
        repeat (first | refine gd_tt ?_ | refine gd_ff ?_ | refine gd_tf ?_ | refine gd_ft ?_ | refine gd_u ?_ | refine pk_t ?_ | refine pk_f ?_ | refine iff_t ?_ | refine iff_f ?_ | refine not_t ?_ | refine not_f ?_ | refine beq_s ?_ | refine bne_s ?_ | refine ncP_p ?_ | refine nc_p ?_ | refine fld_at ?_ | refine xt_02 ?_ | refine xt_12 ?_ | refine xt_03 ?_ | refine xt_13 ?_ | refine xt_23 ?_ | refine eq_t (by omega) ?_ | refine eq_f (by omega) ?_ | refine ne_t (by omega) ?_ | refine ne_f (by omega) ?_ | refine lt_t (by omega) ?_ | refine lt_f (by omega) ?_ | refine gt_t (by omega) ?_ | refine gt_f (by omega) ?_ | refine ge_t (by omega) ?_ | refine ge_f (by omega) ?_ | refine le_t (by omega) ?_ | refine le_f (by omega) ?_)
        exact hK
  refine hmid _ ?_
  clear hmid
  by_cases p1 : 0 ≤ f.Kind ∧ f.Kind ≤ 1
  case neg =>
    rw [if_pos (show ¬ (0 ≤ f.f.Kind ∧ f.f.Kind ≤ 1) from p1)] at hk
    rw [decide_eq_true p1]
    exact iff_t (hk _ h1.drop)
  rw [if_neg (show ¬ ¬ (0 ≤ f.f.Kind ∧ f.f.Kind ≤ 1) from fun h => h p1)] at hk
  rw [decide_eq_false fun h => h p1]
  refine iff_f (fld_at (ld1_at h1 0 rfl (v := .int .i64 f.Look) rfl ?_))
  by_cases p2 : 1 ≤ f.Look ∧ f.Look ≤ 1048576
  case neg =>
    rw [if_pos (show ¬ (1 ≤ f.f.Look ∧ f.f.Look ≤ 1048576) from p2)] at hk
    by_cases q : f.Look < 1
    · repeat (first | refine gd_tt ?_ | refine gd_ff ?_ | refine gd_tf ?_ | refine gd_ft ?_ | refine gd_u ?_ | refine pk_t ?_ | refine pk_f ?_ | refine iff_t ?_ | refine iff_f ?_ | refine not_t ?_ | refine not_f ?_ | refine beq_s ?_ | refine bne_s ?_ | refine ncP_p ?_ | refine nc_p ?_ | refine fld_at ?_ | refine xt_02 ?_ | refine xt_12 ?_ | refine xt_03 ?_ | refine xt_13 ?_ | refine xt_23 ?_ | refine eq_t (by omega) ?_ | refine eq_f (by omega) ?_ | refine ne_t (by omega) ?_ | refine ne_f (by omega) ?_ | refine lt_t (by omega) ?_ | refine lt_f (by omega) ?_ | refine gt_t (by omega) ?_ | refine gt_f (by omega) ?_ | refine ge_t (by omega) ?_ | refine ge_f (by omega) ?_ | refine le_t (by omega) ?_ | refine le_f (by omega) ?_)
      exact hk _ h1.drop
    · repeat (first | refine gd_tt ?_ | refine gd_ff ?_ | refine gd_tf ?_ | refine gd_ft ?_ | refine gd_u ?_ | refine pk_t ?_ | refine pk_f ?_ | refine iff_t ?_ | refine iff_f ?_ | refine not_t ?_ | refine not_f ?_ | refine beq_s ?_ | refine bne_s ?_ | refine ncP_p ?_ | refine nc_p ?_ | refine fld_at ?_ | refine xt_02 ?_ | refine xt_12 ?_ | refine xt_03 ?_ | refine xt_13 ?_ | refine xt_23 ?_ | refine eq_t (by omega) ?_ | refine eq_f (by omega) ?_ | refine ne_t (by omega) ?_ | refine ne_f (by omega) ?_ | refine lt_t (by omega) ?_ | refine lt_f (by omega) ?_ | refine gt_t (by omega) ?_ | refine gt_f (by omega) ?_ | refine ge_t (by omega) ?_ | refine ge_f (by omega) ?_ | refine le_t (by omega) ?_ | refine le_f (by omega) ?_)
      refine ld1_at h1 0 rfl (v := .int .i64 f.Look) rfl ?_
      repeat (first | refine gd_tt ?_ | refine gd_ff ?_ | refine gd_tf ?_ | refine gd_ft ?_ | refine gd_u ?_ | refine pk_t ?_ | refine pk_f ?_ | refine iff_t ?_ | refine iff_f ?_ | refine not_t ?_ | refine not_f ?_ | refine beq_s ?_ | refine bne_s ?_ | refine ncP_p ?_ | refine nc_p ?_ | refine fld_at ?_ | refine xt_02 ?_ | refine xt_12 ?_ | refine xt_03 ?_ | refine xt_13 ?_ | refine xt_23 ?_ | refine eq_t (by omega) ?_ | refine eq_f (by omega) ?_ | refine ne_t (by omega) ?_ | refine ne_f (by omega) ?_ | refine lt_t (by omega) ?_ | refine lt_f (by omega) ?_ | refine gt_t (by omega) ?_ | refine gt_f (by omega) ?_ | refine ge_t (by omega) ?_ | refine ge_f (by omega) ?_ | refine le_t (by omega) ?_ | refine le_f (by omega) ?_)
      exact hk _ h1.drop
  rw [if_neg (show ¬ ¬ (1 ≤ f.f.Look ∧ f.f.Look ≤ 1048576) from fun h => h p2)] at hk
  repeat (first | refine gd_tt ?_ | refine gd_ff ?_ | refine gd_tf ?_ | refine gd_ft ?_ | refine gd_u ?_ | refine pk_t ?_ | refine pk_f ?_ | refine iff_t ?_ | refine iff_f ?_ | refine not_t ?_ | refine not_f ?_ | refine beq_s ?_ | refine bne_s ?_ | refine ncP_p ?_ | refine nc_p ?_ | refine fld_at ?_ | refine xt_02 ?_ | refine xt_12 ?_ | refine xt_03 ?_ | refine xt_13 ?_ | refine xt_23 ?_ | refine eq_t (by omega) ?_ | refine eq_f (by omega) ?_ | refine ne_t (by omega) ?_ | refine ne_f (by omega) ?_ | refine lt_t (by omega) ?_ | refine lt_f (by omega) ?_ | refine gt_t (by omega) ?_ | refine gt_f (by omega) ?_ | refine ge_t (by omega) ?_ | refine ge_f (by omega) ?_ | refine le_t (by omega) ?_ | refine le_f (by omega) ?_)
  refine ld1_at h1 0 rfl (v := .int .i64 f.Look) rfl ?_
  repeat (first | refine gd_tt ?_ | refine gd_ff ?_ | refine gd_tf ?_ | refine gd_ft ?_ | refine gd_u ?_ | refine pk_t ?_ | refine pk_f ?_ | refine iff_t ?_ | refine iff_f ?_ | refine not_t ?_ | refine not_f ?_ | refine beq_s ?_ | refine bne_s ?_ | refine ncP_p ?_ | refine nc_p ?_ | refine fld_at ?_ | refine xt_02 ?_ | refine xt_12 ?_ | refine xt_03 ?_ | refine xt_13 ?_ | refine xt_23 ?_ | refine eq_t (by omega) ?_ | refine eq_f (by omega) ?_ | refine ne_t (by omega) ?_ | refine ne_f (by omega) ?_ | refine lt_t (by omega) ?_ | refine lt_f (by omega) ?_ | refine gt_t (by omega) ?_ | refine gt_f (by omega) ?_ | refine ge_t (by omega) ?_ | refine ge_f (by omega) ?_ | refine le_t (by omega) ?_ | refine le_f (by omega) ?_)
  refine ld1_at h1 0 rfl (v := .int .i64 f.Start) rfl ?_
  by_cases p3 : 0 ≤ f.Start ∧ f.Start ≤ 7
  case neg =>
    rw [if_pos (show ¬ (0 ≤ f.f.Start ∧ f.f.Start ≤ 7) from p3)] at hk
    by_cases q : f.Start < 0
    · repeat (first | refine gd_tt ?_ | refine gd_ff ?_ | refine gd_tf ?_ | refine gd_ft ?_ | refine gd_u ?_ | refine pk_t ?_ | refine pk_f ?_ | refine iff_t ?_ | refine iff_f ?_ | refine not_t ?_ | refine not_f ?_ | refine beq_s ?_ | refine bne_s ?_ | refine ncP_p ?_ | refine nc_p ?_ | refine fld_at ?_ | refine xt_02 ?_ | refine xt_12 ?_ | refine xt_03 ?_ | refine xt_13 ?_ | refine xt_23 ?_ | refine eq_t (by omega) ?_ | refine eq_f (by omega) ?_ | refine ne_t (by omega) ?_ | refine ne_f (by omega) ?_ | refine lt_t (by omega) ?_ | refine lt_f (by omega) ?_ | refine gt_t (by omega) ?_ | refine gt_f (by omega) ?_ | refine ge_t (by omega) ?_ | refine ge_f (by omega) ?_ | refine le_t (by omega) ?_ | refine le_f (by omega) ?_)
      exact hk _ h1.drop
    · repeat (first | refine gd_tt ?_ | refine gd_ff ?_ | refine gd_tf ?_ | refine gd_ft ?_ | refine gd_u ?_ | refine pk_t ?_ | refine pk_f ?_ | refine iff_t ?_ | refine iff_f ?_ | refine not_t ?_ | refine not_f ?_ | refine beq_s ?_ | refine bne_s ?_ | refine ncP_p ?_ | refine nc_p ?_ | refine fld_at ?_ | refine xt_02 ?_ | refine xt_12 ?_ | refine xt_03 ?_ | refine xt_13 ?_ | refine xt_23 ?_ | refine eq_t (by omega) ?_ | refine eq_f (by omega) ?_ | refine ne_t (by omega) ?_ | refine ne_f (by omega) ?_ | refine lt_t (by omega) ?_ | refine lt_f (by omega) ?_ | refine gt_t (by omega) ?_ | refine gt_f (by omega) ?_ | refine ge_t (by omega) ?_ | refine ge_f (by omega) ?_ | refine le_t (by omega) ?_ | refine le_f (by omega) ?_)
      refine ld1_at h1 0 rfl (v := .int .i64 f.Start) rfl ?_
      repeat (first | refine gd_tt ?_ | refine gd_ff ?_ | refine gd_tf ?_ | refine gd_ft ?_ | refine gd_u ?_ | refine pk_t ?_ | refine pk_f ?_ | refine iff_t ?_ | refine iff_f ?_ | refine not_t ?_ | refine not_f ?_ | refine beq_s ?_ | refine bne_s ?_ | refine ncP_p ?_ | refine nc_p ?_ | refine fld_at ?_ | refine xt_02 ?_ | refine xt_12 ?_ | refine xt_03 ?_ | refine xt_13 ?_ | refine xt_23 ?_ | refine eq_t (by omega) ?_ | refine eq_f (by omega) ?_ | refine ne_t (by omega) ?_ | refine ne_f (by omega) ?_ | refine lt_t (by omega) ?_ | refine lt_f (by omega) ?_ | refine gt_t (by omega) ?_ | refine gt_f (by omega) ?_ | refine ge_t (by omega) ?_ | refine ge_f (by omega) ?_ | refine le_t (by omega) ?_ | refine le_f (by omega) ?_)
      exact hk _ h1.drop
  rw [if_neg (show ¬ ¬ (0 ≤ f.f.Start ∧ f.f.Start ≤ 7) from fun h => h p3)] at hk
  repeat (first | refine gd_tt ?_ | refine gd_ff ?_ | refine gd_tf ?_ | refine gd_ft ?_ | refine gd_u ?_ | refine pk_t ?_ | refine pk_f ?_ | refine iff_t ?_ | refine iff_f ?_ | refine not_t ?_ | refine not_f ?_ | refine beq_s ?_ | refine bne_s ?_ | refine ncP_p ?_ | refine nc_p ?_ | refine fld_at ?_ | refine xt_02 ?_ | refine xt_12 ?_ | refine xt_03 ?_ | refine xt_13 ?_ | refine xt_23 ?_ | refine eq_t (by omega) ?_ | refine eq_f (by omega) ?_ | refine ne_t (by omega) ?_ | refine ne_f (by omega) ?_ | refine lt_t (by omega) ?_ | refine lt_f (by omega) ?_ | refine gt_t (by omega) ?_ | refine gt_f (by omega) ?_ | refine ge_t (by omega) ?_ | refine ge_f (by omega) ?_ | refine le_t (by omega) ?_ | refine le_f (by omega) ?_)
  refine ld1_at h1 0 rfl (v := .int .i64 f.Start) rfl ?_
  repeat (first | refine gd_tt ?_ | refine gd_ff ?_ | refine gd_tf ?_ | refine gd_ft ?_ | refine gd_u ?_ | refine pk_t ?_ | refine pk_f ?_ | refine iff_t ?_ | refine iff_f ?_ | refine not_t ?_ | refine not_f ?_ | refine beq_s ?_ | refine bne_s ?_ | refine ncP_p ?_ | refine nc_p ?_ | refine fld_at ?_ | refine xt_02 ?_ | refine xt_12 ?_ | refine xt_03 ?_ | refine xt_13 ?_ | refine xt_23 ?_ | refine eq_t (by omega) ?_ | refine eq_f (by omega) ?_ | refine ne_t (by omega) ?_ | refine ne_f (by omega) ?_ | refine lt_t (by omega) ?_ | refine lt_f (by omega) ?_ | refine gt_t (by omega) ?_ | refine gt_f (by omega) ?_ | refine ge_t (by omega) ?_ | refine ge_f (by omega) ?_ | refine le_t (by omega) ?_ | refine le_f (by omega) ?_)
  refine ld1_at h1 0 rfl (v := f.rv) rfl ?_
  refine gd_ff (ref07_Check_s (i + 1) hi1 h1 (fun g hg => (hr g hg).rules) (fun r hr => by have := hs.sends r hr; omega) fun w2 h2 => ?_)
  by_cases p4 : okRules (f.Rules.map RuleX.r)
  case neg =>
    rw [if_pos (show ¬ okRules f.f.Rules from p4)] at hk
    rw [if_neg p4]
    repeat (first | refine gd_tt ?_ | refine gd_ff ?_ | refine gd_tf ?_ | refine gd_ft ?_ | refine gd_u ?_ | refine pk_t ?_ | refine pk_f ?_ | refine iff_t ?_ | refine iff_f ?_ | refine not_t ?_ | refine not_f ?_ | refine beq_s ?_ | refine bne_s ?_ | refine ncP_p ?_ | refine nc_p ?_ | refine fld_at ?_ | refine xt_02 ?_ | refine xt_12 ?_ | refine xt_03 ?_ | refine xt_13 ?_ | refine xt_23 ?_ | refine eq_t (by omega) ?_ | refine eq_f (by omega) ?_ | refine ne_t (by omega) ?_ | refine ne_f (by omega) ?_ | refine lt_t (by omega) ?_ | refine lt_f (by omega) ?_ | refine gt_t (by omega) ?_ | refine gt_f (by omega) ?_ | refine ge_t (by omega) ?_ | refine ge_f (by omega) ?_ | refine le_t (by omega) ?_ | refine le_f (by omega) ?_)
    exact hk _ h2.drop
  rw [if_neg (show ¬ ¬ okRules f.f.Rules from fun h => h p4)] at hk
  rw [if_pos p4]
  repeat (first | refine gd_tt ?_ | refine gd_ff ?_ | refine gd_tf ?_ | refine gd_ft ?_ | refine gd_u ?_ | refine pk_t ?_ | refine pk_f ?_ | refine iff_t ?_ | refine iff_f ?_ | refine not_t ?_ | refine not_f ?_ | refine beq_s ?_ | refine bne_s ?_ | refine ncP_p ?_ | refine nc_p ?_ | refine fld_at ?_ | refine xt_02 ?_ | refine xt_12 ?_ | refine xt_03 ?_ | refine xt_13 ?_ | refine xt_23 ?_ | refine eq_t (by omega) ?_ | refine eq_f (by omega) ?_ | refine ne_t (by omega) ?_ | refine ne_f (by omega) ?_ | refine lt_t (by omega) ?_ | refine lt_f (by omega) ?_ | refine gt_t (by omega) ?_ | refine gt_f (by omega) ?_ | refine ge_t (by omega) ?_ | refine ge_f (by omega) ?_ | refine le_t (by omega) ?_ | refine le_f (by omega) ?_)
  refine ld1_at h2 0 rfl (v := f.pv) rfl ?_
  refine classes_s (i + 1) hi1 h2 (fun g hg => (hr g hg).pubs) hs.pubs fun w3 h3 => ?_
  refine not_d ?_
  by_cases p5 : rising most (-1) f.Pubs ∧ rising most (-1) f.Subs
  case neg =>
    rw [if_pos (show ¬ (rising most (-1) f.f.Pubs ∧ rising most (-1) f.f.Subs) from p5)] at hk
    by_cases q : rising most (-1) f.Pubs
    · rw [decide_eq_true q, Bool.not_true]
      repeat (first | refine gd_tt ?_ | refine gd_ff ?_ | refine gd_tf ?_ | refine gd_ft ?_ | refine gd_u ?_ | refine pk_t ?_ | refine pk_f ?_ | refine iff_t ?_ | refine iff_f ?_ | refine not_t ?_ | refine not_f ?_ | refine beq_s ?_ | refine bne_s ?_ | refine ncP_p ?_ | refine nc_p ?_ | refine fld_at ?_ | refine xt_02 ?_ | refine xt_12 ?_ | refine xt_03 ?_ | refine xt_13 ?_ | refine xt_23 ?_ | refine eq_t (by omega) ?_ | refine eq_f (by omega) ?_ | refine ne_t (by omega) ?_ | refine ne_f (by omega) ?_ | refine lt_t (by omega) ?_ | refine lt_f (by omega) ?_ | refine gt_t (by omega) ?_ | refine gt_f (by omega) ?_ | refine ge_t (by omega) ?_ | refine ge_f (by omega) ?_ | refine le_t (by omega) ?_ | refine le_f (by omega) ?_)
      refine ld1_at h3 0 rfl (v := f.sv) rfl ?_
      refine gd_ff (gd_ff (classes_s (i + 1) hi1 h3 (fun g hg => (hr g hg).subs) hs.subs fun w4 h4 => ?_))
      rw [decide_eq_false fun h => p5 ⟨q, h⟩]
      repeat (first | refine gd_tt ?_ | refine gd_ff ?_ | refine gd_tf ?_ | refine gd_ft ?_ | refine gd_u ?_ | refine pk_t ?_ | refine pk_f ?_ | refine iff_t ?_ | refine iff_f ?_ | refine not_t ?_ | refine not_f ?_ | refine beq_s ?_ | refine bne_s ?_ | refine ncP_p ?_ | refine nc_p ?_ | refine fld_at ?_ | refine xt_02 ?_ | refine xt_12 ?_ | refine xt_03 ?_ | refine xt_13 ?_ | refine xt_23 ?_ | refine eq_t (by omega) ?_ | refine eq_f (by omega) ?_ | refine ne_t (by omega) ?_ | refine ne_f (by omega) ?_ | refine lt_t (by omega) ?_ | refine lt_f (by omega) ?_ | refine gt_t (by omega) ?_ | refine gt_f (by omega) ?_ | refine ge_t (by omega) ?_ | refine ge_f (by omega) ?_ | refine le_t (by omega) ?_ | refine le_f (by omega) ?_)
      exact hk _ h4.drop
    · rw [decide_eq_false q, Bool.not_false]
      repeat (first | refine gd_tt ?_ | refine gd_ff ?_ | refine gd_tf ?_ | refine gd_ft ?_ | refine gd_u ?_ | refine pk_t ?_ | refine pk_f ?_ | refine iff_t ?_ | refine iff_f ?_ | refine not_t ?_ | refine not_f ?_ | refine beq_s ?_ | refine bne_s ?_ | refine ncP_p ?_ | refine nc_p ?_ | refine fld_at ?_ | refine xt_02 ?_ | refine xt_12 ?_ | refine xt_03 ?_ | refine xt_13 ?_ | refine xt_23 ?_ | refine eq_t (by omega) ?_ | refine eq_f (by omega) ?_ | refine ne_t (by omega) ?_ | refine ne_f (by omega) ?_ | refine lt_t (by omega) ?_ | refine lt_f (by omega) ?_ | refine gt_t (by omega) ?_ | refine gt_f (by omega) ?_ | refine ge_t (by omega) ?_ | refine ge_f (by omega) ?_ | refine le_t (by omega) ?_ | refine le_f (by omega) ?_)
      exact hk _ h3.drop
  rw [if_neg (show ¬ ¬ (rising most (-1) f.f.Pubs ∧ rising most (-1) f.f.Subs) from fun h => h p5)] at hk
  rw [decide_eq_true p5.1, Bool.not_true]
  repeat (first | refine gd_tt ?_ | refine gd_ff ?_ | refine gd_tf ?_ | refine gd_ft ?_ | refine gd_u ?_ | refine pk_t ?_ | refine pk_f ?_ | refine iff_t ?_ | refine iff_f ?_ | refine not_t ?_ | refine not_f ?_ | refine beq_s ?_ | refine bne_s ?_ | refine ncP_p ?_ | refine nc_p ?_ | refine fld_at ?_ | refine xt_02 ?_ | refine xt_12 ?_ | refine xt_03 ?_ | refine xt_13 ?_ | refine xt_23 ?_ | refine eq_t (by omega) ?_ | refine eq_f (by omega) ?_ | refine ne_t (by omega) ?_ | refine ne_f (by omega) ?_ | refine lt_t (by omega) ?_ | refine lt_f (by omega) ?_ | refine gt_t (by omega) ?_ | refine gt_f (by omega) ?_ | refine ge_t (by omega) ?_ | refine ge_f (by omega) ?_ | refine le_t (by omega) ?_ | refine le_f (by omega) ?_)
  refine ld1_at h3 0 rfl (v := f.sv) rfl ?_
  refine gd_ff (gd_ff (classes_s (i + 1) hi1 h3 (fun g hg => (hr g hg).subs) hs.subs fun w4 h4 => ?_))
  rw [decide_eq_true p5.2]
  repeat (first | refine gd_tt ?_ | refine gd_ff ?_ | refine gd_tf ?_ | refine gd_ft ?_ | refine gd_u ?_ | refine pk_t ?_ | refine pk_f ?_ | refine iff_t ?_ | refine iff_f ?_ | refine not_t ?_ | refine not_f ?_ | refine beq_s ?_ | refine bne_s ?_ | refine ncP_p ?_ | refine nc_p ?_ | refine fld_at ?_ | refine xt_02 ?_ | refine xt_12 ?_ | refine xt_03 ?_ | refine xt_13 ?_ | refine xt_23 ?_ | refine eq_t (by omega) ?_ | refine eq_f (by omega) ?_ | refine ne_t (by omega) ?_ | refine ne_f (by omega) ?_ | refine lt_t (by omega) ?_ | refine lt_f (by omega) ?_ | refine gt_t (by omega) ?_ | refine gt_f (by omega) ?_ | refine ge_t (by omega) ?_ | refine ge_f (by omega) ?_ | refine le_t (by omega) ?_ | refine le_f (by omega) ?_)
  clear h1 h2 h3
  have hrl := hs.rules
  refine lpi1 (fun q t11 w => ∃ j : Nat, j ≤ f.Rules.length ∧ t11 = .int .i64 j ∧ q = f.Rules.length - j ∧ rulesE f.f most ((f.Rules.take j).map RuleX.r) = 0 ∧ Sat e w (blk b 66 f.cs :: L)) f.Rules.length ⟨0, Nat.zero_le _, rfl, rfl, rfl, h4⟩ ?_
  clear h4
  rintro q _ w g ⟨j, hj, rfl, rfl, hno, h1⟩ hg
  refine fld_at (ld1_at h1 0 rfl (v := f.rv) rfl ?_)
  refine lnS_rd h1 (i + 1) hi1 (fun g hg => (hr g hg).rules.s) ?_
  refine lt_c (fun c => iff_t ?_) (fun c => iff_f ?_)
  · obtain ⟨r, hrj⟩ := get_of_lt (l := f.Rules) (j := j) (by omega)
    have hrm := List.mem_of_getElem? hrj
    have hsl := hs.sends r hrm
    have hsp : f.f.Rules = (f.Rules.take j).map RuleX.r ++ r.r :: (f.Rules.drop (j + 1)).map RuleX.r := by
      show f.Rules.map RuleX.r = _
      conv => lhs; rw [take_split hrj]
      simp
    have hkE : ∀ E w', E ≠ 0 → rulesE f.f most (r.r :: (f.Rules.drop (j + 1)).map RuleX.r) = E → Sat e w' L → K (.int .i64 E) w' := by
      intro E w' hE0 hE h'
      have := hk w' h'
      rw [hsp, rulesE_app _ _ _ _ hno, hE, if_pos hE0] at this
      exact this
    refine fld_at (ld1_at h1 0 rfl (v := f.rv) rfl ?_)
    refine ixS_rd h1 (i + 1) hi1 (fun g hg => (hr g hg).rules.s) (fun _ => rfl) hrj fun a ha => ?_
    refine fld_of ha fun a1 ha1 => ?_
    refine ld1_of h1 (i + 1) hi1 ha1 (v := .int .i64 r.Class) rfl ?_
    refine ge_c (fun c2 => iff_t ?_) (fun c2 => iff_f ?_)
    · refine hkE 81 _ (by decide) ?_ h1.drop
      rw [rulesE_cons, if_pos (show most ≤ r.r.Class from c2)]
    refine lpi1 (fun q t22 w => ∃ n : Nat, n ≤ r.Sends.length ∧ t22 = .int .i64 n ∧ q = r.Sends.length - n ∧ sendsE f.f (r.Sends.take n) = 0 ∧ Sat e w (blk b 66 f.cs :: L)) r.Sends.length ⟨0, Nat.zero_le _, rfl, rfl, rfl, h1⟩ ?_
    rintro q _ w g2 ⟨n, hn, rfl, rfl, hso, h5⟩ hg2
    refine fld_at (ld1_at h5 0 rfl (v := f.rv) rfl ?_)
    refine ixS_rd h5 (i + 1) hi1 (fun g hg => (hr g hg).rules.s) (fun _ => rfl) hrj fun a ha => ?_
    refine fld_of ha fun a1 ha1 => ?_
    refine ld1_of h5 (i + 1) hi1 ha1 (v := r.sv) rfl ?_
    refine lnS_rd h5 (i + 1) hi1 (fun g hg => (hr g hg).rules.e r hrm) ?_
    refine lt_c (fun c3 => iff_t ?_) (fun c3 => iff_f ?_)
    · obtain ⟨o, ho⟩ := get_of_lt (l := r.Sends) (j := n) (by omega)
      have hsp2 := take_split ho
      have hkS : ∀ E w', E ≠ 0 → sendsE f.f (o :: r.Sends.drop (n + 1)) = E → Sat e w' L → K (.int .i64 E) w' := by
        intro E w' hE0 hE h'
        refine hkE E w' hE0 ?_ h'
        have e1 : sendsE f.f r.r.Sends = E := by
          show sendsE f.f r.Sends = E
          rw [hsp2, sendsE_app _ _ _ hso]
          exact hE
        rw [rulesE_cons, if_neg (show ¬ most ≤ r.r.Class by simp only [RuleX.r]; omega), e1, if_pos hE0]
      refine fld_at (ld1_at h5 0 rfl (v := f.rv) rfl ?_)
      refine ixS_rd h5 (i + 1) hi1 (fun g hg => (hr g hg).rules.s) (fun _ => rfl) hrj fun a ha => ?_
      refine fld_of ha fun a1 ha1 => ?_
      refine ld1_of h5 (i + 1) hi1 ha1 (v := r.sv) rfl ?_
      refine ixS_rd h5 (i + 1) hi1 (fun g hg => (hr g hg).rules.e r hrm) (fun _ => rfl) ho fun a ha => ?_
      refine ldN_of h5 (i + 1) hi1 ha rfl ?_
      rw [zero_87]
      refine al_s (cs := ints [0, 0, 0]) h5 rfl fun t2 w6 h6 => ?_
      refine stN_at h6 0 rfl (vs := o.cs) rfl rfl (by decide) (ints_flat _) (cs' := o.cs) (by rfl) fun w7 h7 => ?_
      have hi2 : (blk t2 87 o.cs :: blk b 66 f.cs :: L)[i + 2]? = some S := by simpa using hi
      refine fld_at (ld1_at h7 1 rfl (v := f.pv) rfl ?_)
      refine fld_at (ld1_at h7 0 rfl (v := .int .i64 o.Class) rfl ?_)
      refine ref05_Has_s (i + 2) hi2 h7 (fun g hg => (hr g hg).pubs) (by have := hs.pubs; omega) (not_d ?_)
      by_cases d1 : o.Class ∈ f.Pubs
      case neg =>
        rw [decide_eq_false d1, Bool.not_false]
        refine iff_t (hkS 81 _ (by decide) ?_ h7.drop.drop)
        rw [sendsE_cons, if_pos (show o.Class ∉ f.f.Pubs from d1)]
      rw [decide_eq_true d1, Bool.not_true]
      refine iff_f (fld_at (ld1_at h7 0 rfl (v := .int .i64 o.Delay) rfl ?_))
      refine fld_at (ld1_at h7 1 rfl (v := .int .i64 f.Look) rfl ?_)
      refine lt_c (fun d2 => iff_t ?_) (fun d2 => iff_f (inc_s (by omega) ?_))
      · refine hkS 80 _ (by decide) ?_ h7.drop.drop
        rw [sendsE_cons, if_neg (show ¬ o.Class ∉ f.f.Pubs from fun h => h d1), if_pos (show o.Delay < f.f.Look from d2)]
      · refine hg2 _ _ _ (by omega) ⟨n + 1, by omega, rfl, rfl, ?_, h7.drop⟩
        rw [List.take_add_one, ho, sendsE_app _ _ _ hso]
        show sendsE f.f [o] = 0
        rw [sendsE_cons, if_neg (show ¬ o.Class ∉ f.f.Pubs from fun h => h d1), if_neg (show ¬ o.Delay < f.f.Look from d2)]
        rfl
    · have en : n = r.Sends.length := by omega
      rw [en, List.take_length] at hso
      refine inc_s (by omega) ?_
      refine hg _ _ _ (by omega) ⟨j + 1, by omega, rfl, rfl, ?_, h5⟩
      rw [List.take_add_one, hrj, List.map_append, rulesE_app _ _ _ _ hno]
      show rulesE f.f most [r.r] = 0
      rw [rulesE_cons, if_neg (show ¬ most ≤ r.r.Class by simp only [RuleX.r]; omega), if_neg (show ¬ sendsE f.f r.r.Sends ≠ 0 from fun h => h hso)]
      rfl
  · have ej : j = f.Rules.length := by omega
    rw [ej, List.take_length] at hno
    rw [show f.f.Rules = f.Rules.map RuleX.r from rfl, hno, if_neg (fun h => h rfl)] at hk
    have hbad : ¬ okInit f.f → ∀ w', Sat e w' L → K (.int .i64 82) w' := fun h w' h' => by have := hk w' h'; rw [if_pos h] at this; exact this
    clear hg
    refine fld_at (ld1_at h1 0 rfl (v := f.iv) rfl ?_)
    refine lnS_rd h1 (i + 1) hi1 (fun g hg => (hr g hg).init) ?_
    refine gt_c (fun c2 => iff_t ?_) (fun c2 => iff_f ?_)
    · exact hbad (fun h => by have h1 : f.Init.length ≤ 4 := h.1; omega) _ h1.drop
    refine lpi1 (fun q t w => ∃ j : Nat, j ≤ f.Init.length ∧ t = .int .i64 j ∧ q = f.Init.length - j ∧ (∀ o ∈ f.Init.take j, okIni f.f o) ∧ Sat e w (blk b 66 f.cs :: L)) f.Init.length ⟨0, Nat.zero_le _, rfl, rfl, by simp, h1⟩ ?_
    clear h1
    rintro q _ w g ⟨j, hj, rfl, rfl, hall, h2⟩ hg
    refine fld_at (ld1_at h2 0 rfl (v := f.iv) rfl ?_)
    refine lnS_rd h2 (i + 1) hi1 (fun g hg => (hr g hg).init) ?_
    refine lt_c (fun c => iff_t ?_) (fun c => iff_f ?_)
    · obtain ⟨o, ho⟩ := get_of_lt (l := f.Init) (j := j) (by omega)
      have hom := List.mem_of_getElem? ho
      refine fld_at (ld1_at h2 0 rfl (v := f.iv) rfl ?_)
      refine ixS_rd h2 (i + 1) hi1 (fun g hg => (hr g hg).init) (fun _ => rfl) ho fun a ha => ?_
      refine ldN_of h2 (i + 1) hi1 ha rfl ?_
      rw [zero_87]
      refine al_s (cs := ints [0, 0, 0]) h2 rfl fun t2 w3 h3 => ?_
      refine stN_at h3 0 rfl (vs := o.cs) rfl rfl (by decide) (ints_flat _) (cs' := o.cs) (by rfl) fun w4 h4 => ?_
      have hno2 : ¬ okIni f.f o → K (.int .i64 82) w4 := fun h => hbad (fun h2 => h (h2.2 o hom)) _ h4.drop.drop
      have hi2 : (blk t2 87 o.cs :: blk b 66 f.cs :: L)[i + 2]? = some S := by simpa using hi
      refine fld_at (ld1_at h4 1 rfl (v := f.pv) rfl ?_)
      refine fld_at (ld1_at h4 0 rfl (v := .int .i64 o.Class) rfl ?_)
      refine ref05_Has_s (i + 2) hi2 h4 (fun g hg => (hr g hg).pubs) (by have := hs.pubs; omega) (not_d ?_)
      by_cases d1 : o.Class ∈ f.Pubs
      case neg =>
        rw [decide_eq_false d1, Bool.not_false]
        repeat (first | refine gd_tt ?_ | refine gd_ff ?_ | refine gd_tf ?_ | refine gd_ft ?_ | refine gd_u ?_ | refine pk_t ?_ | refine pk_f ?_ | refine iff_t ?_ | refine iff_f ?_ | refine not_t ?_ | refine not_f ?_ | refine beq_s ?_ | refine bne_s ?_ | refine ncP_p ?_ | refine nc_p ?_ | refine fld_at ?_ | refine xt_02 ?_ | refine xt_12 ?_ | refine xt_03 ?_ | refine xt_13 ?_ | refine xt_23 ?_ | refine eq_t (by omega) ?_ | refine eq_f (by omega) ?_ | refine ne_t (by omega) ?_ | refine ne_f (by omega) ?_ | refine lt_t (by omega) ?_ | refine lt_f (by omega) ?_ | refine gt_t (by omega) ?_ | refine gt_f (by omega) ?_ | refine ge_t (by omega) ?_ | refine ge_f (by omega) ?_ | refine le_t (by omega) ?_ | refine le_f (by omega) ?_)
        exact hno2 fun h => d1 h.1
      rw [decide_eq_true d1, Bool.not_true]
      repeat (first | refine gd_tt ?_ | refine gd_ff ?_ | refine gd_tf ?_ | refine gd_ft ?_ | refine gd_u ?_ | refine pk_t ?_ | refine pk_f ?_ | refine iff_t ?_ | refine iff_f ?_ | refine not_t ?_ | refine not_f ?_ | refine beq_s ?_ | refine bne_s ?_ | refine ncP_p ?_ | refine nc_p ?_ | refine fld_at ?_ | refine xt_02 ?_ | refine xt_12 ?_ | refine xt_03 ?_ | refine xt_13 ?_ | refine xt_23 ?_ | refine eq_t (by omega) ?_ | refine eq_f (by omega) ?_ | refine ne_t (by omega) ?_ | refine ne_f (by omega) ?_ | refine lt_t (by omega) ?_ | refine lt_f (by omega) ?_ | refine gt_t (by omega) ?_ | refine gt_f (by omega) ?_ | refine ge_t (by omega) ?_ | refine ge_f (by omega) ?_ | refine le_t (by omega) ?_ | refine le_f (by omega) ?_)
      refine ld1_at h4 0 rfl (v := .int .i64 o.Delay) rfl ?_
      by_cases d2 : o.Delay < 0
      · repeat (first | refine gd_tt ?_ | refine gd_ff ?_ | refine gd_tf ?_ | refine gd_ft ?_ | refine gd_u ?_ | refine pk_t ?_ | refine pk_f ?_ | refine iff_t ?_ | refine iff_f ?_ | refine not_t ?_ | refine not_f ?_ | refine beq_s ?_ | refine bne_s ?_ | refine ncP_p ?_ | refine nc_p ?_ | refine fld_at ?_ | refine xt_02 ?_ | refine xt_12 ?_ | refine xt_03 ?_ | refine xt_13 ?_ | refine xt_23 ?_ | refine eq_t (by omega) ?_ | refine eq_f (by omega) ?_ | refine ne_t (by omega) ?_ | refine ne_f (by omega) ?_ | refine lt_t (by omega) ?_ | refine lt_f (by omega) ?_ | refine gt_t (by omega) ?_ | refine gt_f (by omega) ?_ | refine ge_t (by omega) ?_ | refine ge_f (by omega) ?_ | refine le_t (by omega) ?_ | refine le_f (by omega) ?_)
        exact hno2 fun h => by have := h.2.1; omega
      refine gd_ff (lt_f d2 ?_)
      repeat (first | refine gd_tt ?_ | refine gd_ff ?_ | refine gd_tf ?_ | refine gd_ft ?_ | refine gd_u ?_ | refine pk_t ?_ | refine pk_f ?_ | refine iff_t ?_ | refine iff_f ?_ | refine not_t ?_ | refine not_f ?_ | refine beq_s ?_ | refine bne_s ?_ | refine ncP_p ?_ | refine nc_p ?_ | refine fld_at ?_ | refine xt_02 ?_ | refine xt_12 ?_ | refine xt_03 ?_ | refine xt_13 ?_ | refine xt_23 ?_ | refine eq_t (by omega) ?_ | refine eq_f (by omega) ?_ | refine ne_t (by omega) ?_ | refine ne_f (by omega) ?_ | refine lt_t (by omega) ?_ | refine lt_f (by omega) ?_ | refine gt_t (by omega) ?_ | refine gt_f (by omega) ?_ | refine ge_t (by omega) ?_ | refine ge_f (by omega) ?_ | refine le_t (by omega) ?_ | refine le_f (by omega) ?_)
      refine ld1_at h4 0 rfl (v := .int .i64 o.Delay) rfl ?_
      by_cases d3 : 1099511627776 < o.Delay
      · repeat (first | refine gd_tt ?_ | refine gd_ff ?_ | refine gd_tf ?_ | refine gd_ft ?_ | refine gd_u ?_ | refine pk_t ?_ | refine pk_f ?_ | refine iff_t ?_ | refine iff_f ?_ | refine not_t ?_ | refine not_f ?_ | refine beq_s ?_ | refine bne_s ?_ | refine ncP_p ?_ | refine nc_p ?_ | refine fld_at ?_ | refine xt_02 ?_ | refine xt_12 ?_ | refine xt_03 ?_ | refine xt_13 ?_ | refine xt_23 ?_ | refine eq_t (by omega) ?_ | refine eq_f (by omega) ?_ | refine ne_t (by omega) ?_ | refine ne_f (by omega) ?_ | refine lt_t (by omega) ?_ | refine lt_f (by omega) ?_ | refine gt_t (by omega) ?_ | refine gt_f (by omega) ?_ | refine ge_t (by omega) ?_ | refine ge_f (by omega) ?_ | refine le_t (by omega) ?_ | refine le_f (by omega) ?_)
        exact hno2 fun h => by have := h.2.2.1; omega
      refine gd_ff (gt_f d3 ?_)
      repeat (first | refine gd_tt ?_ | refine gd_ff ?_ | refine gd_tf ?_ | refine gd_ft ?_ | refine gd_u ?_ | refine pk_t ?_ | refine pk_f ?_ | refine iff_t ?_ | refine iff_f ?_ | refine not_t ?_ | refine not_f ?_ | refine beq_s ?_ | refine bne_s ?_ | refine ncP_p ?_ | refine nc_p ?_ | refine fld_at ?_ | refine xt_02 ?_ | refine xt_12 ?_ | refine xt_03 ?_ | refine xt_13 ?_ | refine xt_23 ?_ | refine eq_t (by omega) ?_ | refine eq_f (by omega) ?_ | refine ne_t (by omega) ?_ | refine ne_f (by omega) ?_ | refine lt_t (by omega) ?_ | refine lt_f (by omega) ?_ | refine gt_t (by omega) ?_ | refine gt_f (by omega) ?_ | refine ge_t (by omega) ?_ | refine ge_f (by omega) ?_ | refine le_t (by omega) ?_ | refine le_f (by omega) ?_)
      refine ld1_at h4 0 rfl (v := .int .i64 o.Add) rfl ?_
      by_cases d4 : o.Add < 0
      · repeat (first | refine gd_tt ?_ | refine gd_ff ?_ | refine gd_tf ?_ | refine gd_ft ?_ | refine gd_u ?_ | refine pk_t ?_ | refine pk_f ?_ | refine iff_t ?_ | refine iff_f ?_ | refine not_t ?_ | refine not_f ?_ | refine beq_s ?_ | refine bne_s ?_ | refine ncP_p ?_ | refine nc_p ?_ | refine fld_at ?_ | refine xt_02 ?_ | refine xt_12 ?_ | refine xt_03 ?_ | refine xt_13 ?_ | refine xt_23 ?_ | refine eq_t (by omega) ?_ | refine eq_f (by omega) ?_ | refine ne_t (by omega) ?_ | refine ne_f (by omega) ?_ | refine lt_t (by omega) ?_ | refine lt_f (by omega) ?_ | refine gt_t (by omega) ?_ | refine gt_f (by omega) ?_ | refine ge_t (by omega) ?_ | refine ge_f (by omega) ?_ | refine le_t (by omega) ?_ | refine le_f (by omega) ?_)
        exact hno2 fun h => by have := h.2.2.2.1; omega
      refine gd_ff (lt_f d4 ?_)
      repeat (first | refine gd_tt ?_ | refine gd_ff ?_ | refine gd_tf ?_ | refine gd_ft ?_ | refine gd_u ?_ | refine pk_t ?_ | refine pk_f ?_ | refine iff_t ?_ | refine iff_f ?_ | refine not_t ?_ | refine not_f ?_ | refine beq_s ?_ | refine bne_s ?_ | refine ncP_p ?_ | refine nc_p ?_ | refine fld_at ?_ | refine xt_02 ?_ | refine xt_12 ?_ | refine xt_03 ?_ | refine xt_13 ?_ | refine xt_23 ?_ | refine eq_t (by omega) ?_ | refine eq_f (by omega) ?_ | refine ne_t (by omega) ?_ | refine ne_f (by omega) ?_ | refine lt_t (by omega) ?_ | refine lt_f (by omega) ?_ | refine gt_t (by omega) ?_ | refine gt_f (by omega) ?_ | refine ge_t (by omega) ?_ | refine ge_f (by omega) ?_ | refine le_t (by omega) ?_ | refine le_f (by omega) ?_)
      refine ld1_at h4 0 rfl (v := .int .i64 o.Add) rfl ?_
      by_cases d5 : 1000 ≤ o.Add
      · repeat (first | refine gd_tt ?_ | refine gd_ff ?_ | refine gd_tf ?_ | refine gd_ft ?_ | refine gd_u ?_ | refine pk_t ?_ | refine pk_f ?_ | refine iff_t ?_ | refine iff_f ?_ | refine not_t ?_ | refine not_f ?_ | refine beq_s ?_ | refine bne_s ?_ | refine ncP_p ?_ | refine nc_p ?_ | refine fld_at ?_ | refine xt_02 ?_ | refine xt_12 ?_ | refine xt_03 ?_ | refine xt_13 ?_ | refine xt_23 ?_ | refine eq_t (by omega) ?_ | refine eq_f (by omega) ?_ | refine ne_t (by omega) ?_ | refine ne_f (by omega) ?_ | refine lt_t (by omega) ?_ | refine lt_f (by omega) ?_ | refine gt_t (by omega) ?_ | refine gt_f (by omega) ?_ | refine ge_t (by omega) ?_ | refine ge_f (by omega) ?_ | refine le_t (by omega) ?_ | refine le_f (by omega) ?_)
        exact hno2 fun h => by have := h.2.2.2.2; omega
      refine gd_ff (ge_f (by omega) ?_)
      repeat (first | refine gd_tt ?_ | refine gd_ff ?_ | refine gd_tf ?_ | refine gd_ft ?_ | refine gd_u ?_ | refine pk_t ?_ | refine pk_f ?_ | refine iff_t ?_ | refine iff_f ?_ | refine not_t ?_ | refine not_f ?_ | refine beq_s ?_ | refine bne_s ?_ | refine ncP_p ?_ | refine nc_p ?_ | refine fld_at ?_ | refine xt_02 ?_ | refine xt_12 ?_ | refine xt_03 ?_ | refine xt_13 ?_ | refine xt_23 ?_ | refine eq_t (by omega) ?_ | refine eq_f (by omega) ?_ | refine ne_t (by omega) ?_ | refine ne_f (by omega) ?_ | refine lt_t (by omega) ?_ | refine lt_f (by omega) ?_ | refine gt_t (by omega) ?_ | refine gt_f (by omega) ?_ | refine ge_t (by omega) ?_ | refine ge_f (by omega) ?_ | refine le_t (by omega) ?_ | refine le_f (by omega) ?_)
      refine inc_s (by omega) ?_
      refine hg _ _ _ (by omega) ⟨j + 1, by omega, rfl, rfl, fun x hx => ?_, h4.drop⟩
      rw [List.take_add_one, ho] at hx
      rcases List.mem_append.1 hx with h | h
      · exact hall x h
      · simp at h
        subst h
        exact ⟨d1, by omega, by omega, by omega, by omega⟩
    · have ej : j = f.Init.length := by omega
      rw [ej, List.take_length] at hall
      have := hk _ h2.drop
      rw [if_neg (show ¬ ¬ okInit f.f from fun h => h ⟨by show f.Init.length ≤ 4; omega, hall⟩)] at this
      exact this
theorem ref08_Check_s {x : WdX} (i : Nat) (hi : L[i]? = some S) (hS : Sat e w L) (hr : ∀ g, S g → RdWd x g) (hs : x.short)
    (hk : ∀ w', Sat e w' L → K (.tuple #[.int .i64 (checkW x.w).1, .int .i64 (checkW x.w).2]) w') : Cl prog 70 #[.agg x.cs.toArray] w K := by
  refine pacelineref08_Check_calls ?_
  unfold pacelineref08_Check
  refine al_s (cs := x.cs) hS rfl fun b w1 h1 => ?_
  have hi1 : (blk b 27 x.cs :: L)[i + 1]? = some S := by simpa using hi
  have hfl := hs.feds
  refine fld_at (ld1_at h1 0 rfl (v := x.pv) rfl ?_)
  refine ref05_Check_s (i + 1) hi1 h1 (fun g hg => (hr g hg).par) ?_
  by_cases p1 : treeE x.Parents = 0
  case neg =>
    have := hk _ h1.drop
    unfold checkW at this
    rw [if_pos (show treeE x.w.Parents ≠ 0 from p1)] at this
    exact ne_t p1 (iff_t this)
  refine ne_f p1 (iff_f ?_)
  refine fld_at (ld1_at h1 0 rfl (v := .int .i64 x.End) rfl ?_)
  by_cases p2 : (0 ≤ x.End ∧ x.End ≤ 1099511627776) ∧ (1 ≤ (x.Feds.length : Int) ∧ (x.Feds.length : Int) ≤ 8)
  case neg =>
    have hk := hk _ h1.drop
    unfold checkW at hk
    rw [if_neg (show ¬ treeE x.w.Parents ≠ 0 from fun h => h p1), if_pos (by simp only [WdX.w, List.length_map]; exact p2)] at hk
    by_cases q1 : x.End < 0
    · repeat (first | refine gd_tt ?_ | refine gd_ff ?_ | refine gd_tf ?_ | refine gd_ft ?_ | refine gd_u ?_ | refine pk_t ?_ | refine pk_f ?_ | refine iff_t ?_ | refine iff_f ?_ | refine not_t ?_ | refine not_f ?_ | refine beq_s ?_ | refine bne_s ?_ | refine ncP_p ?_ | refine nc_p ?_ | refine fld_at ?_ | refine xt_02 ?_ | refine xt_12 ?_ | refine xt_03 ?_ | refine xt_13 ?_ | refine xt_23 ?_ | refine eq_t (by omega) ?_ | refine eq_f (by omega) ?_ | refine ne_t (by omega) ?_ | refine ne_f (by omega) ?_ | refine lt_t (by omega) ?_ | refine lt_f (by omega) ?_ | refine gt_t (by omega) ?_ | refine gt_f (by omega) ?_ | refine ge_t (by omega) ?_ | refine ge_f (by omega) ?_ | refine le_t (by omega) ?_ | refine le_f (by omega) ?_)
      exact hk
    refine lt_f q1 ?_
    repeat (first | refine gd_tt ?_ | refine gd_ff ?_ | refine gd_tf ?_ | refine gd_ft ?_ | refine gd_u ?_ | refine pk_t ?_ | refine pk_f ?_ | refine iff_t ?_ | refine iff_f ?_ | refine not_t ?_ | refine not_f ?_ | refine beq_s ?_ | refine bne_s ?_ | refine ncP_p ?_ | refine nc_p ?_ | refine fld_at ?_ | refine xt_02 ?_ | refine xt_12 ?_ | refine xt_03 ?_ | refine xt_13 ?_ | refine xt_23 ?_ | refine eq_t (by omega) ?_ | refine eq_f (by omega) ?_ | refine ne_t (by omega) ?_ | refine ne_f (by omega) ?_ | refine lt_t (by omega) ?_ | refine lt_f (by omega) ?_ | refine gt_t (by omega) ?_ | refine gt_f (by omega) ?_ | refine ge_t (by omega) ?_ | refine ge_f (by omega) ?_ | refine le_t (by omega) ?_ | refine le_f (by omega) ?_)
    refine ld1_at h1 0 rfl (v := .int .i64 x.End) rfl ?_
    by_cases q2 : 1099511627776 < x.End
    · repeat (first | refine gd_tt ?_ | refine gd_ff ?_ | refine gd_tf ?_ | refine gd_ft ?_ | refine gd_u ?_ | refine pk_t ?_ | refine pk_f ?_ | refine iff_t ?_ | refine iff_f ?_ | refine not_t ?_ | refine not_f ?_ | refine beq_s ?_ | refine bne_s ?_ | refine ncP_p ?_ | refine nc_p ?_ | refine fld_at ?_ | refine xt_02 ?_ | refine xt_12 ?_ | refine xt_03 ?_ | refine xt_13 ?_ | refine xt_23 ?_ | refine eq_t (by omega) ?_ | refine eq_f (by omega) ?_ | refine ne_t (by omega) ?_ | refine ne_f (by omega) ?_ | refine lt_t (by omega) ?_ | refine lt_f (by omega) ?_ | refine gt_t (by omega) ?_ | refine gt_f (by omega) ?_ | refine ge_t (by omega) ?_ | refine ge_f (by omega) ?_ | refine le_t (by omega) ?_ | refine le_f (by omega) ?_)
      exact hk
    refine gd_ff (gt_f q2 ?_)
    repeat (first | refine gd_tt ?_ | refine gd_ff ?_ | refine gd_tf ?_ | refine gd_ft ?_ | refine gd_u ?_ | refine pk_t ?_ | refine pk_f ?_ | refine iff_t ?_ | refine iff_f ?_ | refine not_t ?_ | refine not_f ?_ | refine beq_s ?_ | refine bne_s ?_ | refine ncP_p ?_ | refine nc_p ?_ | refine fld_at ?_ | refine xt_02 ?_ | refine xt_12 ?_ | refine xt_03 ?_ | refine xt_13 ?_ | refine xt_23 ?_ | refine eq_t (by omega) ?_ | refine eq_f (by omega) ?_ | refine ne_t (by omega) ?_ | refine ne_f (by omega) ?_ | refine lt_t (by omega) ?_ | refine lt_f (by omega) ?_ | refine gt_t (by omega) ?_ | refine gt_f (by omega) ?_ | refine ge_t (by omega) ?_ | refine ge_f (by omega) ?_ | refine le_t (by omega) ?_ | refine le_f (by omega) ?_)
    refine ld1_at h1 0 rfl (v := x.fv) rfl ?_
    refine gd_ff (lnS_rd h1 (i + 1) hi1 (fun g hg => (hr g hg).feds) ?_)
    by_cases q3 : (x.Feds.length : Int) < 1
    · repeat (first | refine gd_tt ?_ | refine gd_ff ?_ | refine gd_tf ?_ | refine gd_ft ?_ | refine gd_u ?_ | refine pk_t ?_ | refine pk_f ?_ | refine iff_t ?_ | refine iff_f ?_ | refine not_t ?_ | refine not_f ?_ | refine beq_s ?_ | refine bne_s ?_ | refine ncP_p ?_ | refine nc_p ?_ | refine fld_at ?_ | refine xt_02 ?_ | refine xt_12 ?_ | refine xt_03 ?_ | refine xt_13 ?_ | refine xt_23 ?_ | refine eq_t (by omega) ?_ | refine eq_f (by omega) ?_ | refine ne_t (by omega) ?_ | refine ne_f (by omega) ?_ | refine lt_t (by omega) ?_ | refine lt_f (by omega) ?_ | refine gt_t (by omega) ?_ | refine gt_f (by omega) ?_ | refine ge_t (by omega) ?_ | refine ge_f (by omega) ?_ | refine le_t (by omega) ?_ | refine le_f (by omega) ?_)
      exact hk
    refine gd_ff (lt_f q3 ?_)
    repeat (first | refine gd_tt ?_ | refine gd_ff ?_ | refine gd_tf ?_ | refine gd_ft ?_ | refine gd_u ?_ | refine pk_t ?_ | refine pk_f ?_ | refine iff_t ?_ | refine iff_f ?_ | refine not_t ?_ | refine not_f ?_ | refine beq_s ?_ | refine bne_s ?_ | refine ncP_p ?_ | refine nc_p ?_ | refine fld_at ?_ | refine xt_02 ?_ | refine xt_12 ?_ | refine xt_03 ?_ | refine xt_13 ?_ | refine xt_23 ?_ | refine eq_t (by omega) ?_ | refine eq_f (by omega) ?_ | refine ne_t (by omega) ?_ | refine ne_f (by omega) ?_ | refine lt_t (by omega) ?_ | refine lt_f (by omega) ?_ | refine gt_t (by omega) ?_ | refine gt_f (by omega) ?_ | refine ge_t (by omega) ?_ | refine ge_f (by omega) ?_ | refine le_t (by omega) ?_ | refine le_f (by omega) ?_)
    refine ld1_at h1 0 rfl (v := x.fv) rfl ?_
    refine gd_ff (lnS_rd h1 (i + 1) hi1 (fun g hg => (hr g hg).feds) ?_)
    repeat (first | refine gd_tt ?_ | refine gd_ff ?_ | refine gd_tf ?_ | refine gd_ft ?_ | refine gd_u ?_ | refine pk_t ?_ | refine pk_f ?_ | refine iff_t ?_ | refine iff_f ?_ | refine not_t ?_ | refine not_f ?_ | refine beq_s ?_ | refine bne_s ?_ | refine ncP_p ?_ | refine nc_p ?_ | refine fld_at ?_ | refine xt_02 ?_ | refine xt_12 ?_ | refine xt_03 ?_ | refine xt_13 ?_ | refine xt_23 ?_ | refine eq_t (by omega) ?_ | refine eq_f (by omega) ?_ | refine ne_t (by omega) ?_ | refine ne_f (by omega) ?_ | refine lt_t (by omega) ?_ | refine lt_f (by omega) ?_ | refine gt_t (by omega) ?_ | refine gt_f (by omega) ?_ | refine ge_t (by omega) ?_ | refine ge_f (by omega) ?_ | refine le_t (by omega) ?_ | refine le_f (by omega) ?_)
    exact hk
  have hk : ∀ w', Sat e w' L → K (.tuple #[.int .i64 (fedsE x.Parents.length 0 (x.Feds.map FedX.f)).1, .int .i64 (fedsE x.Parents.length 0 (x.Feds.map FedX.f)).2]) w' := by
    intro w' h'
    have := hk w' h'
    unfold checkW at this
    rw [if_neg (show ¬ treeE x.w.Parents ≠ 0 from fun h => h p1), if_neg (by simp only [WdX.w, List.length_map]; exact fun h => h p2)] at this
    exact this
  repeat (first | refine gd_tt ?_ | refine gd_ff ?_ | refine gd_tf ?_ | refine gd_ft ?_ | refine gd_u ?_ | refine pk_t ?_ | refine pk_f ?_ | refine iff_t ?_ | refine iff_f ?_ | refine not_t ?_ | refine not_f ?_ | refine beq_s ?_ | refine bne_s ?_ | refine ncP_p ?_ | refine nc_p ?_ | refine fld_at ?_ | refine xt_02 ?_ | refine xt_12 ?_ | refine xt_03 ?_ | refine xt_13 ?_ | refine xt_23 ?_ | refine eq_t (by omega) ?_ | refine eq_f (by omega) ?_ | refine ne_t (by omega) ?_ | refine ne_f (by omega) ?_ | refine lt_t (by omega) ?_ | refine lt_f (by omega) ?_ | refine gt_t (by omega) ?_ | refine gt_f (by omega) ?_ | refine ge_t (by omega) ?_ | refine ge_f (by omega) ?_ | refine le_t (by omega) ?_ | refine le_f (by omega) ?_)
  refine ld1_at h1 0 rfl (v := .int .i64 x.End) rfl ?_
  repeat (first | refine gd_tt ?_ | refine gd_ff ?_ | refine gd_tf ?_ | refine gd_ft ?_ | refine gd_u ?_ | refine pk_t ?_ | refine pk_f ?_ | refine iff_t ?_ | refine iff_f ?_ | refine not_t ?_ | refine not_f ?_ | refine beq_s ?_ | refine bne_s ?_ | refine ncP_p ?_ | refine nc_p ?_ | refine fld_at ?_ | refine xt_02 ?_ | refine xt_12 ?_ | refine xt_03 ?_ | refine xt_13 ?_ | refine xt_23 ?_ | refine eq_t (by omega) ?_ | refine eq_f (by omega) ?_ | refine ne_t (by omega) ?_ | refine ne_f (by omega) ?_ | refine lt_t (by omega) ?_ | refine lt_f (by omega) ?_ | refine gt_t (by omega) ?_ | refine gt_f (by omega) ?_ | refine ge_t (by omega) ?_ | refine ge_f (by omega) ?_ | refine le_t (by omega) ?_ | refine le_f (by omega) ?_)
  refine ld1_at h1 0 rfl (v := x.fv) rfl ?_
  refine gd_ff (lnS_rd h1 (i + 1) hi1 (fun g hg => (hr g hg).feds) ?_)
  repeat (first | refine gd_tt ?_ | refine gd_ff ?_ | refine gd_tf ?_ | refine gd_ft ?_ | refine gd_u ?_ | refine pk_t ?_ | refine pk_f ?_ | refine iff_t ?_ | refine iff_f ?_ | refine not_t ?_ | refine not_f ?_ | refine beq_s ?_ | refine bne_s ?_ | refine ncP_p ?_ | refine nc_p ?_ | refine fld_at ?_ | refine xt_02 ?_ | refine xt_12 ?_ | refine xt_03 ?_ | refine xt_13 ?_ | refine xt_23 ?_ | refine eq_t (by omega) ?_ | refine eq_f (by omega) ?_ | refine ne_t (by omega) ?_ | refine ne_f (by omega) ?_ | refine lt_t (by omega) ?_ | refine lt_f (by omega) ?_ | refine gt_t (by omega) ?_ | refine gt_f (by omega) ?_ | refine ge_t (by omega) ?_ | refine ge_f (by omega) ?_ | refine le_t (by omega) ?_ | refine le_f (by omega) ?_)
  refine ld1_at h1 0 rfl (v := x.fv) rfl ?_
  refine gd_ff (lnS_rd h1 (i + 1) hi1 (fun g hg => (hr g hg).feds) ?_)
  repeat (first | refine gd_tt ?_ | refine gd_ff ?_ | refine gd_tf ?_ | refine gd_ft ?_ | refine gd_u ?_ | refine pk_t ?_ | refine pk_f ?_ | refine iff_t ?_ | refine iff_f ?_ | refine not_t ?_ | refine not_f ?_ | refine beq_s ?_ | refine bne_s ?_ | refine ncP_p ?_ | refine nc_p ?_ | refine fld_at ?_ | refine xt_02 ?_ | refine xt_12 ?_ | refine xt_03 ?_ | refine xt_13 ?_ | refine xt_23 ?_ | refine eq_t (by omega) ?_ | refine eq_f (by omega) ?_ | refine ne_t (by omega) ?_ | refine ne_f (by omega) ?_ | refine lt_t (by omega) ?_ | refine lt_f (by omega) ?_ | refine gt_t (by omega) ?_ | refine gt_f (by omega) ?_ | refine ge_t (by omega) ?_ | refine ge_f (by omega) ?_ | refine le_t (by omega) ?_ | refine le_f (by omega) ?_)
  refine lpi1 (fun q t w => ∃ j : Nat, j ≤ x.Feds.length ∧ t = .int .i64 j ∧ q = x.Feds.length - j ∧ (∀ f ∈ (x.Feds.take j).map FedX.f, fedE f x.Parents.length = 0) ∧ Sat e w (blk b 27 x.cs :: L)) x.Feds.length ⟨0, Nat.zero_le _, rfl, rfl, by simp, h1⟩ ?_
  rintro q _ w g ⟨j, hj, rfl, rfl, hno, h6⟩ hg
  refine fld_at (ld1_at h6 0 rfl (v := x.fv) rfl ?_)
  refine lnS_rd h6 (i + 1) hi1 (fun g hg => (hr g hg).feds) ?_
  refine lt_c (fun c0 => iff_t ?_) (fun c0 => iff_f ?_)
  · obtain ⟨f, hf⟩ := get_of_lt (l := x.Feds) (j := j) (by omega)
    have hfm := List.mem_of_getElem? hf
    refine dr_s h6 fun w7 h7 => ?_
    refine fld_at (ld1_at h7 0 rfl (v := x.fv) rfl ?_)
    refine ixS_rd h7 (i + 1) hi1 (fun g hg => (hr g hg).feds) (fun _ => rfl) hf fun a ha => ?_
    refine ldN_of h7 (i + 1) hi1 ha rfl ?_
    refine fld_at (ld1_at h7 0 rfl (v := x.pv) rfl ?_)
    refine lnS_rd h7 (i + 1) hi1 (fun g hg => (hr g hg).par) ?_
    refine ref08_Fed_s (i + 1) hi1 h7 (fun g hg => (hr g hg).fed f hfm) (hs.fed f hfm) fun w9 h9 => ?_
    have hsp : x.Feds.map FedX.f = (x.Feds.take j).map FedX.f ++ f.f :: (x.Feds.drop (j + 1)).map FedX.f := by
      conv => lhs; rw [take_split hf]
      simp
    have hlen : 0 + ((x.Feds.take j).map FedX.f).length = j := by rw [List.length_map, List.length_take]; omega
    refine ne_c (fun c2 => iff_t ?_) (fun c2 => iff_f (inc_s (by omega) ?_))
    · have := hk _ h9.drop
      rw [hsp, fedsE_app _ _ _ _ hno, fedsE_cons, if_pos c2, hlen] at this
      exact this
    · refine hg _ _ _ (by omega) ⟨j + 1, by omega, rfl, rfl, fun y hy => ?_, h9⟩
      rw [List.take_add_one, hf, List.map_append] at hy
      rcases List.mem_append.1 hy with h | h
      · exact hno y h
      · simp at h
        rw [h]; exact c2
  · have ej : j = x.Feds.length := by omega
    rw [ej, List.take_length] at hno
    have := hk _ h6.drop
    rw [← List.append_nil (x.Feds.map FedX.f), fedsE_app _ _ _ _ hno] at this
    exact this
end Go.Proofs.YtbopajpmadlmhaaGreat
end
section
namespace Go.E
open Go.RowKit
section
variable {α : Type} {e w : World} {L : List HP} {K : KV} {size : Nat} {f : α → List Value} {v : Value} {l : List α} {t : TypeId}
theorem flatMap_get (hf : ∀ x, (f x).length = size) {j off : Nat} {x : α} (hx : l[j]? = some x) (ho : off < size) : (l.flatMap f)[j * size + off]? = (f x)[off]? := by
  have h := congrArg (fun y => y[off]?) (flatMap_at hf l j x hx)
  simp only [List.getElem?_take, List.getElem?_drop, if_pos ho] at h
  exact h
theorem add_zero0 {b : Nat} (n : Nat) : (⟨b, 0, none⟩ : Addr).add n = ⟨b, n, none⟩ := by
  unfold Addr.add
  split
  · rename_i h; rw [h]
  · simp
theorem ixS_own {j : Nat} {k : IntKind} {x : α} (hS : Sat e w L) (i : Nat) (hi : L[i]? = some (ownS t size f v l)) (hx : l[j]? = some x)
    (hk : ∀ b c, v = .slice (some ⟨b, 0, none⟩) l.length c → K (.pointer (some ⟨b, j * size, none⟩)) w) : ixS size v (.int k (j : Int)) w K := by
  have hj := (List.getElem?_eq_some_iff.1 hx).1
  obtain ⟨g, hg, _⟩ := hS.get i hi
  rcases hg with ⟨_, rfl⟩ | ⟨b, c, cs, hv, _⟩
  · simp at hj
  · rw [hv]
    have h1 := hk b c hv
    refine ixS_sl hj ?_
    rw [Nat.zero_add]
    exact h1
theorem cell_own {j off : Nat} {x : α} {u : Value} {b c : Nat} (hS : Sat e w L) (i : Nat) (hi : L[i]? = some (ownS t size f v l)) (hf : ∀ x, (f x).length = size) (hv : v = .slice (some ⟨b, 0, none⟩) l.length c) (hx : l[j]? = some x) (hu : (f x)[off]? = some u) :
    w.cell? ⟨b, j * size + off, none⟩ = some u := by
  have hj := (List.getElem?_eq_some_iff.1 hx).1
  have ho : off < size := by rw [← hf x]; exact (List.getElem?_eq_some_iff.1 hu).1
  obtain ⟨g, hg, hs⟩ := hS.get i hi
  obtain ⟨A, c', h1, h2, h3⟩ := own_rd hg
  obtain ⟨a, h4, h5⟩ := h3 (by omega)
  rw [hv] at h1
  injection h1 with e1
  rw [h4] at e1
  injection e1 with e1
  subst e1
  have h6 := (h5.up hs) (j * size + off) u (by rw [flatMap_get hf hx ho]; exact hu)
  rw [add_zero0] at h6
  exact h6
theorem ldF_own {j off : Nat} {x : α} {u : Value} {b c : Nat} (hS : Sat e w L) (i : Nat) (hi : L[i]? = some (ownS t size f v l)) (hf : ∀ x, (f x).length = size) (hv : v = .slice (some ⟨b, 0, none⟩) l.length c) (hx : l[j]? = some x) (hu : (f x)[off]? = some u)
    (hk : K u w) : ld1 (.pointer (some ⟨b, j * size + off, none⟩)) w K := ⟨_, u, rfl, cell_own hS i hi hf hv hx hu, hk⟩
theorem wrL_fld {cs : List Value} (hf : ∀ x, (f x).length = size) {j off : Nat} {x x' : α} {us : List Value} (hx : l[j]? = some x) (ht : cs.take (l.length * size) = l.flatMap f) (ho : off + us.length ≤ size) (hx' : wrL (f x) off us = f x') :
    wrL cs (j * size + off) us = wrL cs (j * size) (f x') := by
  have hj := (List.getElem?_eq_some_iff.1 hx).1
  have hle : (j + 1) * size ≤ l.length * size := Nat.mul_le_mul_right _ (by omega)
  rw [Nat.add_mul, Nat.one_mul] at hle
  have hcl : l.length * size ≤ cs.length := by
    have := congrArg List.length ht
    rw [List.length_take, flatMap_length hf] at this
    omega
  apply List.ext_getElem?
  intro i
  rw [wrL_get _ _ _ (by omega), wrL_get _ _ _ (by rw [hf]; omega), hf]
  by_cases h1 : i < j * size
  · rw [if_pos (by omega), if_pos h1]
  · by_cases h2 : i < j * size + size
    · rw [if_neg h1, if_pos h2, ← hx', wrL_get _ _ _ (by rw [hf]; exact ho)]
      have hcx : cs[i]? = (f x)[i - j * size]? := by
        rw [← flatMap_get hf hx (by omega), ← ht, List.getElem?_take, if_pos (by omega)]
        congr 1
        omega
      by_cases h3 : i < j * size + off
      · rw [if_pos h3, if_pos (by omega), hcx]
      · by_cases h4 : i < j * size + off + us.length
        · rw [if_neg h3, if_pos h4, if_neg (by omega), if_pos (by omega)]
          congr 1
          omega
        · rw [if_neg h3, if_neg h4, if_neg (by omega), if_neg (by omega), hcx]
    · rw [if_neg (by omega), if_neg (by omega), if_neg h1, if_neg h2]
theorem stF_own {j off n : Nat} {x x' : α} {u : Value} {us : List Value} {b c : Nat} (hS : Sat e w L) (i : Nat) (hi : L[i]? = some (ownS t size f v l)) (hf : ∀ x, (f x).length = size) (hv : v = .slice (some ⟨b, 0, none⟩) l.length c) (hx : l[j]? = some x)
    (hu : u.cells.toList = us) (hn : us.length = n) (ho : off + n ≤ size) (hff : ∀ c ∈ us, flat c = true) (hx' : wrL (f x) off us = f x')
    (hk : ∀ w', Sat e w' (L.set i (ownS t size f v (l.set j x'))) → K undef w') : stN n (.pointer (some ⟨b, j * size + off, none⟩)) u w K := by
  have hj := (List.getElem?_eq_some_iff.1 hx).1
  obtain ⟨b', c', cs, hv', hc, hn', ht, h1⟩ := hS.own_open i hi (by omega)
  rw [hv] at hv'
  injection hv' with e1 e2 e3
  injection e1 with e1
  injection e1 with e1
  subst e1 e3
  have hle : (j + 1) * size ≤ l.length * size := Nat.mul_le_mul_right _ (by omega)
  have hle2 : l.length * size ≤ c * size := Nat.mul_le_mul_right _ hn'
  rw [Nat.add_mul, Nat.one_mul] at hle
  have hil := (List.getElem?_eq_some_iff.1 hi).1
  refine stN_at h1 i (by rw [List.getElem?_set_self hil]) hu hn (by omega) hff rfl fun w' h2 => hk _ ?_
  rw [List.set_set] at h2
  have h3 := h2.imp_at (Q := ownS t size f v (l.set j x')) i (by rw [List.getElem?_set_self hil]) fun g hg => by
    rw [hv]
    refine own_set hf hc hn' ht hj ?_ hg
    exact (wrL_fld hf hx ht (by omega) hx').symm
  rw [List.set_set] at h3
  exact h3
end
end Go.E
end
