/- What waits, in order, by the library's contract of its sort; the laws' same and Same. Conditions: at most a thousand steps. -/
import Derived.Test.YtfcnjbannejchaaGreatSoloX
import Derived.Test.YtfcnjbannejchaaGreatEngX
import Derived.Test.YtfcnjbannejchaaGreatSortLay
namespace Go.Proofs.YtfcnjbannejchaaGreat
open Go Go.E
set_option maxRecDepth 100000
variable {e w : World} {L Q R0 : List HP} {K : KV} {S S2 : HP}

instance : Inhabited Msg := ⟨Msg.zero⟩
theorem ltW {x y : Msg} : Go.Proofs.ltOf cmpM x y = true ↔ MLt x y := by
  unfold Go.Proofs.ltOf
  rw [decide_eq_true_eq]
  exact cmpM_lt
theorem ltW_no {x y : Msg} : Go.Proofs.ltOf cmpM x y = false ↔ ¬ MLt x y := by
  rw [← ltW]
  cases Go.Proofs.ltOf cmpM x y <;> simp
theorem MLt.no_trans {x y z : Msg} (h1 : ¬ MLt x y) (h2 : ¬ MLt y z) : ¬ MLt x z := by
  intro h
  rcases MLt.tri x y with k | k | k
  · exact h1 k
  · refine h2 ?_
    rcases h with h | ⟨h, h'⟩
    · exact .inl (by rw [← k.1]; exact h)
    · exact .inr ⟨by rw [← k.1]; exact h, by rw [← k.2]; exact h'⟩
  · exact h2 (k.trans h)
theorem swoW : Go.Sort.SWO (Go.Proofs.ltOf cmpM) where
  irrefl _ := ltW_no.2 (MLt.irrefl _)
  trans _ _ _ h1 h2 := ltW.2 ((ltW.1 h1).trans (ltW.1 h2))
  ntrans _ _ _ h1 h2 := ltW_no.2 (MLt.no_trans (ltW_no.1 h1) (ltW_no.1 h2))
theorem one_of_key {l : List Msg} (h : l.Pairwise MLt) {a b : Msg} (ha : a ∈ l) (hb : b ∈ l) (h1 : ¬ MLt a b) (h2 : ¬ MLt b a) : a = b := by
  obtain ⟨i, hi⟩ := List.getElem?_of_mem ha
  obtain ⟨j, hj⟩ := List.getElem?_of_mem hb
  obtain ⟨li, ei⟩ := List.getElem?_eq_some_iff.1 hi
  obtain ⟨lj, ej⟩ := List.getElem?_eq_some_iff.1 hj
  have h3 := List.pairwise_iff_getElem.1 h
  rcases Nat.lt_trichotomy i j with k | k | k
  · exact absurd (by have := h3 i j li lj k; rwa [ei, ej] at this) h1
  · subst k; rw [← ei, ← ej]
  · exact absurd (by have := h3 j i lj li k; rwa [ei, ej] at this) h2
theorem wait_unique {l l' : List Msg} (h : l.Pairwise MLt) (h' : l'.Pairwise fun a b => Go.Proofs.ltOf cmpM b a = false) (hp : l'.Perm l) : l' = l :=
  List.Perm.eq_of_pairwise (le := fun x y : Msg => ¬ MLt y x) (fun _ _ ha hb h1 h2 => one_of_key h (hp.mem_iff.1 ha) hb h2 h1) (h'.imp fun k => ltW_no.1 k) (h.imp fun k => k.asymm) hp
theorem oneCell_ints (ns : List Int) : ∀ v ∈ ints ns, v.oneCell' = true := by
  intro v hv
  simp only [ints, List.mem_map] at hv
  obtain ⟨n, _, rfl⟩ := hv
  rfl
theorem sortW_s {v : Value} {l : List Msg} (hl : l.length ≤ 1000000) (hS : Sat e w (ownS 38 6 Msg.cs v l :: R0))
    (hk : ∀ l' w', l'.Perm l → (l'.Pairwise fun a b => Go.Proofs.ltOf cmpM b a = false) → Sat e w' (ownS 38 6 Msg.cs v l' :: R0) → K (.tuple #[]) w') :
    Cl prog 35 #[v, .func (.func 36) #[] #[]] w K := by
  refine slices_SortFunc_solo_waiting_api_Msg_calls ?_
  unfold slices_SortFunc_solo_waiting_api_Msg
  refine lnS_rd hS 0 rfl (fun g hg => own_rd hg) ?_
  refine cv_s ?_
  rw [wrap_u64n (by omega)]
  refine bitsLen_s Tryz.sortMsg (by kernel_rfl) (by omega) ?_
  exact pdqF_s (P := prog) (size := 6) (f := Msg.cs) Tryz.sortMsg (fun w => Tryz.isAgg38 w) (fun w => Tryz.sizeOf38 w) (fun _ => rfl) (fun _ => oneCell_ints _) cmpM swoW (by kernel_rfl) (by kernel_rfl) (fun _ _ _ _ x y h hk => order_s h hk) (by omega) hS hk
theorem solo_Waiting_s {r k : Nat} {wd : Wd} {R : RS} (hk0 : k ≤ 1000) (hS : Sat e w (IsSolo r wd R k :: Q))
    (hk : ∀ v w', Sat e w' (ownS 38 6 Msg.cs v R.wait :: IsSolo r wd R k :: Q) → K v w') : Cl prog 14 #[.pointer (some ⟨r, 0, none⟩)] w K := by
  refine solo_Run_Waiting_calls ?_
  unfold solo_Run_Waiting
  obtain ⟨X, hX, hS1⟩ := solo_of hS
  obtain ⟨fv, fs, arr, ⟨hfs, hpa, hhp⟩, hS2⟩ := run_of hS1
  obtain ⟨wv, hpre, h3⟩ := isW_of hS2
  have hcnt := hX.run.cnt
  have hal := hpa.length_eq
  refine ncP_p (fld_at (ld1_at h3 0 rfl (pre_get hpre) ?_))
  refine clone_wait_s (l := arr) (by omega) (fun _ _ => ints_flat _) h3.swap (fun g hg => own_rd hg) fun v w4 h4 => ?_
  refine sortW_s (by omega) h4 fun l' w5 hp hs h5 => ?_
  have hl' : l' = R.wait := wait_unique hX.run.sorted hs (hp.trans hpa)
  subst hl'
  have h6 := h5.selR [_, _, _] [_, _, _] [2, 1, 0] (by decide) rfl
  have h7 := isW_mk hpre h6
  have h8 := solo_mk hX (run_mk (R := R) (fv := fv) (fs := fs) (arr := arr) ⟨hfs, hpa, hhp⟩ (h7.selR [_, _, _, _, _] [_, _, _, _, _] [0, 2, 3, 4, 1] (by decide) rfl))
  exact hk _ _ h8.swap

/-! ### same, Same: of two lists alike -/
theorem same_s {u v : Value} {l : List Msg} (i j : Nat) (hi : L[i]? = some S) (hj : L[j]? = some S2) (hS : Sat e w L) (hr : ∀ g, S g → rdS 6 Msg.cs u l g) (hr2 : ∀ g, S2 g → rdS 6 Msg.cs v l g) (hl : l.length ≤ 1000000)
    (hk : ∀ w', Sat e w' L → K (.bool true) w') : Cl prog 13 #[u, v] w K := by
  refine pacelinelaw09_same_calls ?_
  unfold pacelinelaw09_same
  refine lnS_rd hS i hi hr ?_
  refine lnS_rd hS j hj hr2 ?_
  refine ne_f rfl (iff_f ?_)
  refine lpi1 (fun q t w => ∃ n : Nat, n ≤ l.length ∧ t = .int .i64 n ∧ q = l.length - n ∧ Sat e w L) l.length ⟨0, Nat.zero_le _, rfl, rfl, hS⟩ ?_
  rintro q _ w g ⟨n, hn, rfl, rfl, h1⟩ hg
  refine lnS_rd h1 i hi hr ?_
  refine lt_c (fun c => iff_t ?_) (fun c => iff_f (hk _ h1))
  obtain ⟨y, hy⟩ := get_of_lt (l := l) (j := n) (by omega)
  refine dr_s h1 fun w2 h2 => ?_
  refine ixS_rd h2 i hi hr (fun _ => rfl) hy fun p hp => ldN_of h2 i hi hp rfl ?_
  refine ixS_rd h2 j hj hr2 (fun _ => rfl) hy fun p hp => ldN_of h2 j hj hp rfl ?_
  refine bO_ne (ns := y.ns) (ms := y.ns) eqT_38 agg_38 egt_38 (by decide) rfl ?_
  rw [beq_self_eq_true]
  refine iff_f (inc_s (by omega) ?_)
  exact hg _ _ _ (by omega) ⟨n + 1, by omega, rfl, rfl, h2⟩
theorem Same_s {u v : Value} {l : List Done} (i j : Nat) (hi : L[i]? = some S) (hj : L[j]? = some S2) (hS : Sat e w L) (hr : ∀ g, S g → rdS 7 Done.cs u l g) (hr2 : ∀ g, S2 g → rdS 7 Done.cs v l g) (hl : l.length ≤ 1000000)
    (hk : ∀ w', Sat e w' L → K (.bool true) w') : Cl prog 18 #[u, v] w K := by
  refine pacelineref09_Same_calls ?_
  unfold pacelineref09_Same
  refine lnS_rd hS i hi hr ?_
  refine lnS_rd hS j hj hr2 ?_
  refine ne_f rfl (iff_f ?_)
  refine lpi1 (fun q t w => ∃ n : Nat, n ≤ l.length ∧ t = .int .i64 n ∧ q = l.length - n ∧ Sat e w L) l.length ⟨0, Nat.zero_le _, rfl, rfl, hS⟩ ?_
  rintro q _ w g ⟨n, hn, rfl, rfl, h1⟩ hg
  refine lnS_rd h1 i hi hr ?_
  refine lt_c (fun c => iff_t ?_) (fun c => iff_f (hk _ h1))
  obtain ⟨y, hy⟩ := get_of_lt (l := l) (j := n) (by omega)
  refine dr_s h1 fun w2 h2 => ?_
  refine ixS_rd h2 i hi hr (fun _ => rfl) hy fun p hp => ldN_of h2 i hi hp rfl ?_
  refine ixS_rd h2 j hj hr2 (fun _ => rfl) hy fun p hp => ldN_of h2 j hj hp rfl ?_
  refine bO_ne (ns := y.ns) (ms := y.ns) eqT_40 agg_40 egt_40 (by decide) rfl ?_
  rw [beq_self_eq_true]
  refine iff_f (inc_s (by omega) ?_)
  exact hg _ _ _ (by omega) ⟨n + 1, by omega, rfl, rfl, h2⟩

/-! ### The document's Log and Waiting -/
theorem ref09_Waiting_s {r k : Nat} {x : WdX} {R : RS} (hk0 : k ≤ 1000) (hS : Sat e w (IsRef r x R k :: Q))
    (hk : ∀ v w', Sat e w' (ownS 38 6 Msg.cs v R.wait :: IsRef r x R k :: Q) → K v w') : Cl prog 15 #[.pointer (some ⟨r, 0, none⟩)] w K := by
  refine pacelineref09_Run_Waiting_calls ?_
  unfold pacelineref09_Run_Waiting
  obtain ⟨sv, qv, wv, dv, ds, hR, h1⟩ := ref_of hS
  have hcnt := hR.run.cnt
  refine bsl0 h1 Msg.cs fun v0 w2 h2 => ?_
  refine ncP_p (fld_at (ld1_at h2 1 rfl (v := wv) rfl ?_))
  refine apS_own te_45 und_45 (f := Msg.cs) (m := R.wait) (fun _ => rfl) (fun _ => ints_flat _) (h2.selR [_, _, _, _, _] [_, _, _, _, _] [0, 4, 1, 2, 3] (by decide) rfl) (fun g hg => own_rd hg) (by simp; omega) fun v' w3 h3 => ?_
  rw [List.nil_append] at h3
  have h4 := ref_mk hR (h3.selR [_, _, _, _, _, _] [_, _, _, _, _, _] [2, 3, 4, 1, 5, 0] (by decide) rfl)
  exact hk _ _ h4.swap
theorem ref09_Log_s {r k : Nat} {x : WdX} {R : RS} {f : Int} (hk0 : k ≤ 1000) (hS : Sat e w (IsRef r x R k :: Q))
    (hk : ∀ v w', Sat e w' (ownS 40 7 Done.cs v (logR R f) :: IsRef r x R k :: Q) → K v w') : Cl prog 20 #[.pointer (some ⟨r, 0, none⟩), .int .i64 f] w K := by
  refine pacelineref09_Run_Log_calls ?_
  unfold pacelineref09_Run_Log
  obtain ⟨sv, qv, wv, dv, ds, hR, h1⟩ := ref_of hS
  rw [hR.logs f] at hk
  have hlen := hR.len
  refine bsl0 h1 Done.cs fun v0 w2 h2 => ?_
  refine lpi2 (fun q t4 t5 w => ∃ j : Nat, j ≤ ds.length ∧ t5 = .int .i64 j ∧ q = ds.length - j ∧ Sat e w (ownS 40 7 Done.cs t4 ((ds.take j).filter fun d => decide (d.m.To = f)) :: blk r 74 (x.cs ++ [sv, qv, wv, dv]) :: ownS 3 1 (intsK .i64) sv (R.feds.map FA.st) :: ownS 3 1 (intsK .i64) qv (R.feds.map FA.sent) :: ownS 38 6 Msg.cs wv R.wait :: ownS 40 7 Done.cs dv ds :: Q)) ds.length ⟨0, Nat.zero_le _, rfl, rfl, h2⟩ ?_
  rintro q t4 _ w g ⟨j, hj, rfl, rfl, h3⟩ hg
  refine ncP_p (fld_at (ld1_at h3 1 rfl (v := dv) rfl ?_))
  refine lnS_rd h3 5 rfl (fun g hg => own_rd hg) ?_
  refine lt_c (fun c => iff_t ?_) (fun c => iff_f ?_)
  · obtain ⟨y, hy⟩ := get_of_lt (l := ds) (j := j) (by omega)
    have hfl : ((ds.take j).filter fun d => decide (d.m.To = f)).length ≤ ds.length := Nat.le_trans (List.length_filter_le _ _) (by rw [List.length_take]; omega)
    have hsn : ((ds.take (j + 1)).filter fun d => decide (d.m.To = f)) = ((ds.take j).filter fun d => decide (d.m.To = f)) ++ if y.m.To = f then [y] else [] := by
      rw [take_snoc hy, List.filter_append]
      congr 1
      by_cases h : y.m.To = f <;> simp [h]
    refine J1.cut (fun t4 w => Sat e w (ownS 40 7 Done.cs t4 ((ds.take (j + 1)).filter fun d => decide (d.m.To = f)) :: blk r 74 (x.cs ++ [sv, qv, wv, dv]) :: ownS 3 1 (intsK .i64) sv (R.feds.map FA.st) :: ownS 3 1 (intsK .i64) qv (R.feds.map FA.sent) :: ownS 38 6 Msg.cs wv R.wait :: ownS 40 7 Done.cs dv ds :: Q)) (fun k2 hcut => ?_) (fun t4 w' h' => ?_)
    · rw [hsn] at hcut
      refine ncP_p (fld_at (ld1_at h3 1 rfl (v := dv) rfl ?_))
      refine ixS_rd h3 5 rfl (fun g hg => own_rd hg) (fun _ => rfl) hy fun p hp => ?_
      refine fld_of hp fun p1 hp1 => fld_of hp1 fun p2 hp2 => ld1_of h3 5 rfl hp2 (v := .int .i64 y.m.To) rfl ?_
      refine eq_c (fun c1 => ?_) (fun c1 => ?_)
      · rw [if_pos c1] at hcut
        refine iff_t ?_
        refine ncP_p (fld_at (ld1_at h3 1 rfl (v := dv) rfl ?_))
        refine ixS_rd h3 5 rfl (fun g hg => own_rd hg) (fun _ => rfl) hy fun p hp => ldN_of h3 5 rfl hp rfl ?_
        refine push1 te_48 (f := Done.cs) (fun _ => rfl) (fun _ => ints_flat _) h3 (x := y) rfl (by omega) fun v2 w6 h6 => ?_
        exact hcut _ _ h6
      · rw [if_neg c1, List.append_nil] at hcut
        exact iff_f (hcut _ _ h3)
    · refine inc_s (by omega) ?_
      exact hg _ _ _ _ (by omega) ⟨j + 1, by omega, rfl, rfl, h'⟩
  · have ej : j = ds.length := by omega
    rw [ej, List.take_length] at h3
    have h4 := ref_mk hR (h3.selR [_, _, _, _, _, _] [_, _, _, _, _, _] [1, 2, 3, 4, 5, 0] (by decide) rfl)
    exact hk _ _ h4.swap
end Go.Proofs.YtfcnjbannejchaaGreat
