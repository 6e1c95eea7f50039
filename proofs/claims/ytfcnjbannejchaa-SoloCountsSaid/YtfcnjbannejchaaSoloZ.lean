/- What waits, in order, by the library's contract of its sort; the laws' same and Same. Conditions: at most a thousand steps. -/
import Derived.Test.YtfcnjbannejchaaSoloX
import Derived.Test.YtfcnjbannejchaaEngX
import Derived.Test.YtfcnjbannejchaaSortLay
namespace Go.Proofs.Ytfcnjbannejchaa
open Go Go.E
set_option maxRecDepth 100000
variable {e w : World} {L Q R0 : List HP} {K : KV} {S S2 : HP}

instance : Inhabited Msg := ⟨Msg.zero⟩
theorem ltW {x y : Msg} : Go.Proofs.ltOf cmpM x y = true ↔ MLt x y := by
  unfold Go.Proofs.ltOf
  rw [decide_eq_true_eq]
  exact cmpM_lt
theorem ltW_no {x y : Msg} : Go.Proofs.ltOf cmpM x y = false ↔ ¬ MLt x y := by
  rw [← ltW]
  cases Go.Proofs.ltOf cmpM x y <;> simp
theorem MLt.no_trans {x y z : Msg} (h1 : ¬ MLt x y) (h2 : ¬ MLt y z) : ¬ MLt x z := by
  intro h
  rcases MLt.tri x y with k | k | k
  · exact h1 k
  · refine h2 ?_
    rcases h with h | ⟨h, h'⟩
    · exact .inl (by rw [← k.1]; exact h)
    · exact .inr ⟨by rw [← k.1]; exact h, by rw [← k.2]; exact h'⟩
  · exact h2 (k.trans h)
theorem swoW : Go.Sort.SWO (Go.Proofs.ltOf cmpM) where
  irrefl _ := ltW_no.2 (MLt.irrefl _)
  trans _ _ _ h1 h2 := ltW.2 ((ltW.1 h1).trans (ltW.1 h2))
  ntrans _ _ _ h1 h2 := ltW_no.2 (MLt.no_trans (ltW_no.1 h1) (ltW_no.1 h2))
theorem one_of_key {l : List Msg} (h : l.Pairwise MLt) {a b : Msg} (ha : a ∈ l) (hb : b ∈ l) (h1 : ¬ MLt a b) (h2 : ¬ MLt b a) : a = b := by
  obtain ⟨i, hi⟩ := List.getElem?_of_mem ha
  obtain ⟨j, hj⟩ := List.getElem?_of_mem hb
  obtain ⟨li, ei⟩ := List.getElem?_eq_some_iff.1 hi
  obtain ⟨lj, ej⟩ := List.getElem?_eq_some_iff.1 hj
  have h3 := List.pairwise_iff_getElem.1 h
  rcases Nat.lt_trichotomy i j with k | k | k
  · exact absurd (by have := h3 i j li lj k; rwa [ei, ej] at this) h1
  · subst k; rw [← ei, ← ej]
  · exact absurd (by have := h3 j i lj li k; rwa [ei, ej] at this) h2
theorem wait_unique {l l' : List Msg} (h : l.Pairwise MLt) (h' : l'.Pairwise fun a b => Go.Proofs.ltOf cmpM b a = false) (hp : l'.Perm l) : l' = l :=
  List.Perm.eq_of_pairwise (le := fun x y : Msg => ¬ MLt y x) (fun _ _ ha hb h1 h2 => one_of_key h (hp.mem_iff.1 ha) hb h2 h1) (h'.imp fun k => ltW_no.1 k) (h.imp fun k => k.asymm) hp
theorem oneCell_ints (ns : List Int) : ∀ v ∈ ints ns, v.oneCell' = true := by
  intro v hv
  simp only [ints, List.mem_map] at hv
  obtain ⟨n, _, rfl⟩ := hv
  rfl
theorem sortW_s {v : Value} {l : List Msg} (hl : l.length ≤ 1000000) (hS : Sat e w (ownS 37 6 Msg.cs v l :: R0))
    (hk : ∀ l' w', l'.Perm l → (l'.Pairwise fun a b => Go.Proofs.ltOf cmpM b a = false) → Sat e w' (ownS 37 6 Msg.cs v l' :: R0) → K (.tuple #[]) w') :
    Cl prog 38 #[v, .func (.func 39) #[] #[]] w K := by
  refine slices_SortFunc_solo_waiting_api_Msg_calls ?_
  unfold slices_SortFunc_solo_waiting_api_Msg
  refine lnS_rd hS 0 rfl (fun g hg => own_rd hg) ?_
  refine cv_s ?_
  rw [wrap_u64n (by omega)]
  refine bitsLen_s Try.sortMsg (by kernel_rfl) (by omega) ?_
  exact pdqF_s (P := prog) (size := 6) (f := Msg.cs) Try.sortMsg (fun w => Try.isAgg37 w) (fun w => Try.sizeOf37 w) (fun _ => rfl) (fun _ => oneCell_ints _) cmpM swoW (by kernel_rfl) (by kernel_rfl) (fun _ _ _ _ x y h hk => order_s h hk) (by omega) hS hk
theorem solo_Waiting_s {r k : Nat} {wd : Wd} {R : RS} (hk0 : k ≤ 1000) (hS : Sat e w (IsSolo r wd R k :: Q))
    (hk : ∀ v w', Sat e w' (ownS 37 6 Msg.cs v R.wait :: IsSolo r wd R k :: Q) → K v w') : Cl prog 21 #[.pointer (some ⟨r, 0, none⟩)] w K := by
  refine solo_Run_Waiting_calls ?_
  unfold solo_Run_Waiting
  obtain ⟨X, hX, hS1⟩ := solo_of hS
  obtain ⟨fv, fs, arr, ⟨hfs, hpa, hhp⟩, hS2⟩ := run_of hS1
  obtain ⟨wv, hpre, h3⟩ := isW_of hS2
  have hcnt := hX.run.cnt
  have hal := hpa.length_eq
  refine ncP_p (fld_at (ld1_at h3 0 rfl (pre_get hpre) ?_))
  refine clone_wait_s (l := arr) (by omega) (fun _ _ => ints_flat _) h3.swap (fun g hg => own_rd hg) fun v w4 h4 => ?_
  refine sortW_s (by omega) h4 fun l' w5 hp hs h5 => ?_
  have hl' : l' = R.wait := wait_unique hX.run.sorted hs (hp.trans hpa)
  subst hl'
  have h6 := h5.selR [_, _, _] [_, _, _] [2, 1, 0] (by decide) rfl
  have h7 := isW_mk hpre h6
  have h8 := solo_mk hX (run_mk (R := R) (fv := fv) (fs := fs) (arr := arr) ⟨hfs, hpa, hhp⟩ (h7.selR [_, _, _, _, _] [_, _, _, _, _] [0, 2, 3, 4, 1] (by decide) rfl))
  exact hk _ _ h8.swap

/-! ### same, Same: of two lists alike -/
theorem same_s {u v : Value} {l : List Msg} (i j : Nat) (hi : L[i]? = some S) (hj : L[j]? = some S2) (hS : Sat e w L) (hr : ∀ g, S g → rdS 6 Msg.cs u l g) (hr2 : ∀ g, S2 g → rdS 6 Msg.cs v l g) (hl : l.length ≤ 1000000)
    (hk : ∀ w', Sat e w' L → K (.bool true) w') : Cl prog 20 #[u, v] w K := by
  refine pacelinelaw09_same_calls ?_
  unfold pacelinelaw09_same
  refine lnS_rd hS i hi hr ?_
  refine lnS_rd hS j hj hr2 ?_
  refine ne_f rfl (iff_f ?_)
  refine lpi1 (fun q t w => ∃ n : Nat, n ≤ l.length ∧ t = .int .i64 n ∧ q = l.length - n ∧ Sat e w L) l.length ⟨0, Nat.zero_le _, rfl, rfl, hS⟩ ?_
  rintro q _ w g ⟨n, hn, rfl, rfl, h1⟩ hg
  refine lnS_rd h1 i hi hr ?_
  refine lt_c (fun c => iff_t ?_) (fun c => iff_f (hk _ h1))
  obtain ⟨y, hy⟩ := get_of_lt (l := l) (j := n) (by omega)
  refine dr_s h1 fun w2 h2 => ?_
  refine ixS_rd h2 i hi hr (fun _ => rfl) hy fun p hp => ldN_of h2 i hi hp rfl ?_
  refine ixS_rd h2 j hj hr2 (fun _ => rfl) hy fun p hp => ldN_of h2 j hj hp rfl ?_
  refine bO_ne (ns := y.ns) (ms := y.ns) eqT_37 agg_37 egt_37 (by decide) rfl ?_
  rw [beq_self_eq_true]
  refine iff_f (inc_s (by omega) ?_)
  exact hg _ _ _ (by omega) ⟨n + 1, by omega, rfl, rfl, h2⟩
theorem Same_s {u v : Value} {l : List Done} (i j : Nat) (hi : L[i]? = some S) (hj : L[j]? = some S2) (hS : Sat e w L) (hr : ∀ g, S g → rdS 7 Done.cs u l g) (hr2 : ∀ g, S2 g → rdS 7 Done.cs v l g) (hl : l.length ≤ 1000000)
    (hk : ∀ w', Sat e w' L → K (.bool true) w') : Cl prog 22 #[u, v] w K := by
  refine pacelineref09_Same_calls ?_
  unfold pacelineref09_Same
  refine lnS_rd hS i hi hr ?_
  refine lnS_rd hS j hj hr2 ?_
  refine ne_f rfl (iff_f ?_)
  refine lpi1 (fun q t w => ∃ n : Nat, n ≤ l.length ∧ t = .int .i64 n ∧ q = l.length - n ∧ Sat e w L) l.length ⟨0, Nat.zero_le _, rfl, rfl, hS⟩ ?_
  rintro q _ w g ⟨n, hn, rfl, rfl, h1⟩ hg
  refine lnS_rd h1 i hi hr ?_
  refine lt_c (fun c => iff_t ?_) (fun c => iff_f (hk _ h1))
  obtain ⟨y, hy⟩ := get_of_lt (l := l) (j := n) (by omega)
  refine dr_s h1 fun w2 h2 => ?_
  refine ixS_rd h2 i hi hr (fun _ => rfl) hy fun p hp => ldN_of h2 i hi hp rfl ?_
  refine ixS_rd h2 j hj hr2 (fun _ => rfl) hy fun p hp => ldN_of h2 j hj hp rfl ?_
  refine bO_ne (ns := y.ns) (ms := y.ns) eqT_39 agg_39 egt_39 (by decide) rfl ?_
  rw [beq_self_eq_true]
  refine iff_f (inc_s (by omega) ?_)
  exact hg _ _ _ (by omega) ⟨n + 1, by omega, rfl, rfl, h2⟩

/-! ### The document's Log and Waiting -/
end Go.Proofs.Ytfcnjbannejchaa
