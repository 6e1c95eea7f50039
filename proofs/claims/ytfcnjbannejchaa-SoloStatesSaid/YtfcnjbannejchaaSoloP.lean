/- Runs: what memory holds; push, each, New. Conditions: the federation's lists are short. -/
import Derived.Test.YtfcnjbannejchaaSoloO
namespace Go.Proofs.Ytfcnjbannejchaa
open Go Go.E
set_option maxRecDepth 100000
variable {e w : World} {L Q : List HP} {K : KV} {S S2 : HP}

structure FedS where
  st : Int
  sent : Int
  lv : Value
  log : List Done
def FedS.cs (f : FedS) : List Value := [.int .i64 f.st, .int .i64 f.sent, f.lv]
def FedS.a (f : FedS) : FA := ⟨f.st, f.sent, f.log⟩
def logOwn (f : FedS) : HP := ownS 39 7 Done.cs f.lv f.log
structure RX where
  fv : Value
  fs : List FedS
  arr : List Msg
def IsRun (r : Nat) (X : WdX) (R : RS) : HP := hex fun p : RX => sepL [pur (p.fs.map FedS.a = R.feds ∧ p.arr.Perm R.wait ∧ Heapy p.arr p.arr.length), IsW r (X.cs ++ [p.fv]) p.arr, ownS 70 3 FedS.cs p.fv p.fs, sepL (p.fs.map logOwn), WdOwn X]
theorem run_of {r : Nat} {X : WdX} {R : RS} (h : Sat e w (IsRun r X R :: Q)) : ∃ fv fs arr, (fs.map FedS.a = R.feds ∧ arr.Perm R.wait ∧ Heapy arr arr.length) ∧ Sat e w (IsW r (X.cs ++ [fv]) arr :: ownS 70 3 FedS.cs fv fs :: sepL (fs.map logOwn) :: WdOwn X :: Q) := by
  obtain ⟨p, h0⟩ := h.ex
  exact ⟨p.fv, p.fs, p.arr, Sat.pure h0.split⟩
theorem run_mk {r : Nat} {X : WdX} {R : RS} {fv : Value} {fs : List FedS} {arr : List Msg} (hp : fs.map FedS.a = R.feds ∧ arr.Perm R.wait ∧ Heapy arr arr.length) (h : Sat e w (IsW r (X.cs ++ [fv]) arr :: ownS 70 3 FedS.cs fv fs :: sepL (fs.map logOwn) :: WdOwn X :: Q)) : Sat e w (IsRun r X R :: Q) :=
  .mk_ex ⟨fv, fs, arr⟩ (.join (l' := [_, _, _, _, _]) (.mk_pure hp h))
structure SoloOk (X : WdX) (wd : Wd) (R : RS) (k : Nat) : Prop where
  eq : X.w = wd
  short : X.short
  may : WdOk wd
  run : RunOk wd R k
def IsSolo (r : Nat) (wd : Wd) (R : RS) (k : Nat) : HP := hex fun X : WdX => sepL [pur (SoloOk X wd R k), IsRun r X R]
theorem solo_of {r : Nat} {wd : Wd} {R : RS} {k : Nat} (h : Sat e w (IsSolo r wd R k :: Q)) : ∃ X, SoloOk X wd R k ∧ Sat e w (IsRun r X R :: Q) := by
  obtain ⟨X, h0⟩ := h.ex
  exact ⟨X, Sat.pure h0.split⟩
theorem solo_mk {r : Nat} {wd : Wd} {R : RS} {k : Nat} {X : WdX} (hp : SoloOk X wd R k) (h : Sat e w (IsRun r X R :: Q)) : Sat e w (IsSolo r wd R k :: Q) := .mk_ex X (.join (l' := [_, _]) (.mk_pure hp h))
theorem short_w {x X : WdX} (h : X.w = x.w) (hs : x.short) : X.short := by
  have h1 : X.Parents = x.Parents := congrArg Wd.Parents h
  have h2 : X.Feds.map FedX.f = x.Feds.map FedX.f := congrArg Wd.Feds h
  have hl : X.Feds.length = x.Feds.length := by simpa using congrArg List.length h2
  refine ⟨by rw [hl]; exact hs.feds, by rw [h1]; exact hs.par, fun f hf => ?_⟩
  have h3 : f.f ∈ x.Feds.map FedX.f := by rw [← h2]; exact List.mem_map_of_mem hf
  obtain ⟨g, hg, he⟩ := List.mem_map.1 h3
  have hsg := hs.fed g hg
  have e1 : g.Pubs = f.Pubs := congrArg Fed.Pubs he
  have e2 : g.Subs = f.Subs := congrArg Fed.Subs he
  have e3 : g.Init = f.Init := congrArg Fed.Init he
  have e4 : g.Rules.map RuleX.r = f.Rules.map RuleX.r := congrArg Fed.Rules he
  have e5 : g.Rules.length = f.Rules.length := by simpa using congrArg List.length e4
  refine ⟨by rw [← e1]; exact hsg.pubs, by rw [← e2]; exact hsg.subs, by rw [← e3]; exact hsg.init, by rw [← e5]; exact hsg.rules, fun q hq => ?_⟩
  have h5 : q.r ∈ g.Rules.map RuleX.r := by rw [e4]; exact List.mem_map_of_mem hq
  obtain ⟨q', hq', he'⟩ := List.mem_map.1 h5
  have e6 : q'.Sends = q.Sends := congrArg Rule.Sends he'
  rw [← e6]
  exact hsg.sends q' hq'

/-! ### The block's other cells -/
theorem ldW {r o : Nat} {pre : List Value} {l : List Msg} {u : Value} (hS : Sat e w L) (i : Nat) (hi : L[i]? = some (IsW r pre l)) (ho : pre[o]? = some u) (hk : K u w) : ld1 (.pointer (some ⟨r, o, none⟩)) w K := by
  obtain ⟨v, hp, h1⟩ := isW_of (hS.pick i hi)
  refine ld1_at h1 0 rfl ?_ hk
  rw [List.getElem?_append_left (List.getElem?_eq_some_iff.1 ho).1]
  exact ho
theorem ldNW {r n : Nat} {pre us : List Value} {l : List Msg} (hS : Sat e w L) (i : Nat) (hi : L[i]? = some (IsW r pre l)) (ho : pre.take n = us) (hn : us.length = n) (hk : K (.agg us.toArray) w) : ldN n (.pointer (some ⟨r, 0, none⟩)) w K := by
  obtain ⟨v, hp, h1⟩ := isW_of (hS.pick i hi)
  refine ldN_at h1 0 rfl ?_ hn hk
  have h4 : n ≤ pre.length := by
    have := congrArg List.length ho
    rw [List.length_take, hn] at this
    omega
  rw [List.drop_zero, List.take_append_of_le_length h4, ho]

/-! ### push, each -/
theorem push_s {r : Nat} {pre : List Value} {l : List Msg} {x : Msg} (hl : l.length ≤ 999999) (hS : Sat e w (IsW r pre l :: Q))
    (hk : ∀ l' w', l'.Perm (l ++ [x]) → (Heapy l l.length → Heapy l' l'.length) → Sat e w' (IsW r pre l' :: Q) → K (.tuple #[]) w') :
    Cl prog 27 #[.pointer (some ⟨r, 0, none⟩), .agg x.cs.toArray] w K := by
  refine solo_Run_push_calls ?_
  unfold solo_Run_push
  refine al_s (cs := x.cs) hS rfl fun b w1 h1 => ?_
  refine dr_s h1 fun w2 h2 => ?_
  refine ncP_p (fld_at (ldN_at h2 0 (vs := x.cs) rfl (by rfl) rfl ?_))
  refine heapPush_s (x := x) hl h2.swap fun l' w3 hp hh h3 => ?_
  exact hk l' _ hp hh (h3.selR [_, _] [_] [0] (by decide) rfl)
theorem each_s {r : Nat} {pre : List Value} {l ms : List Msg} {v : Value} (i : Nat) (hi : Q[i]? = some S) (hS : Sat e w (IsW r pre l :: Q)) (hr : ∀ g, S g → rdS 6 Msg.cs v ms g) (hl : l.length + ms.length ≤ 900000)
    (hk : ∀ l' w', l'.Perm (ms ++ l) → (Heapy l l.length → Heapy l' l'.length) → Sat e w' (IsW r pre l' :: Q) → K (.tuple #[]) w') :
    Cl prog 25 #[v, .func (.func 27) #[.pointer (some ⟨r, 0, none⟩)] #[]] w K := by
  refine solo_each_calls ?_
  unfold solo_each
  rw [zero_37]
  refine lnS_rd hS (i + 1) (by simpa using hi) hr ?_
  refine lpi1 (fun q t8 w => ∃ (j : Nat) (l' : List Msg), j ≤ ms.length ∧ t8 = .int .i64 j ∧ q = ms.length - j ∧ l'.Perm (ms.take j ++ l) ∧ (Heapy l l.length → Heapy l' l'.length) ∧ Sat e w (IsW r pre l' :: Q)) ms.length
    ⟨0, l, Nat.zero_le _, rfl, rfl, .refl _, id, hS⟩ ?_
  rintro q _ w g ⟨j, l', hj, rfl, rfl, hp, hh, h1⟩ hg
  refine lt_c (fun c => iff_t ?_) (fun c => iff_f ?_)
  · obtain ⟨x, hx⟩ := get_of_lt (l := ms) (j := j) (by omega)
    refine ixS_rd h1 (i + 1) (by simpa using hi) hr (fun _ => rfl) hx fun a ha => ?_
    refine ldN_of h1 (i + 1) (by simpa using hi) ha rfl ?_
    refine al_s (cs := Msg.zero.cs) h1 rfl fun b w2 h2 => ?_
    refine stN_at h2 0 rfl (vs := x.cs) rfl rfl (by decide) (ints_flat _) (cs' := x.cs) (by rfl) fun w3 h3 => ?_
    refine ldN_at h3 0 (vs := x.cs) rfl (by rfl) rfl ?_
    refine ⟨_, _, _, rfl, ?_⟩
    have hlen := hp.length_eq
    rw [List.length_append, List.length_take] at hlen
    refine push_s (x := x) (by omega) h3.swap fun l2 w4 hp2 hh2 h4 => ?_
    refine inc_s (by omega) ?_
    refine hg _ _ _ (by omega) ⟨j + 1, l2, by omega, rfl, rfl, ?_, fun h => hh2 (hh h), h4.selR [_, _] [_] [0] (by decide) rfl⟩
    rw [take_snoc hx, List.append_assoc]
    refine hp2.trans ((hp.append_right [x]).trans ?_)
    rw [List.append_assoc]
    exact List.Perm.append_left _ List.perm_append_comm
  · have ej : j = ms.length := by omega
    rw [ej, List.take_length] at hp
    exact hk l' _ hp hh h1

/-! ### New -/
theorem solo_New_s {x : WdX} (i : Nat) (hi : L[i]? = some S) (hS : Sat e w L) (hr : ∀ g, S g → RdWd x g) (hwf : x.wf) (hs : x.short)
    (hbad : (checkW x.w).2 ≠ 0 → ∀ w', Sat e w' L → K (.tuple #[.pointer none, .int .i64 (checkW x.w).2]) w')
    (hok : (checkW x.w).2 = 0 → ∀ r w', Sat e w' (IsSolo r x.w (initR x.w) 0 :: L) → K (.tuple #[.pointer (some ⟨r, 0, none⟩), .int .i64 0]) w') : Cl prog 10 #[.agg x.cs.toArray] w K := by
  refine solo_New_calls ?_
  unfold solo_New
  refine al_s (cs := x.cs) hS rfl fun b w1 h1 => ?_
  refine ldN_at h1 0 (vs := x.cs) rfl (by rfl) rfl ?_
  refine config_Check_s (x := x) (i + 1) (by simpa using hi) h1 hr hwf hs fun w2 h2 => ?_
  repeat (first | refine gd_tt ?_ | refine gd_ff ?_ | refine gd_tf ?_ | refine gd_ft ?_ | refine gd_u ?_ | refine pk_t ?_ | refine pk_f ?_ | refine iff_t ?_ | refine iff_f ?_ | refine not_t ?_ | refine not_f ?_ | refine beq_s ?_ | refine bne_s ?_ | refine ncP_p ?_ | refine nc_p ?_ | refine fld_at ?_ | refine xt_02 ?_ | refine xt_12 ?_ | refine xt_03 ?_ | refine xt_13 ?_ | refine xt_23 ?_ | refine eq_t (by omega) ?_ | refine eq_f (by omega) ?_ | refine ne_t (by omega) ?_ | refine ne_f (by omega) ?_ | refine lt_t (by omega) ?_ | refine lt_f (by omega) ?_ | refine gt_t (by omega) ?_ | refine gt_f (by omega) ?_ | refine ge_t (by omega) ?_ | refine ge_f (by omega) ?_ | refine le_t (by omega) ?_ | refine le_f (by omega) ?_)
  refine ne_c (fun c1 => iff_t (hbad c1 _ h2.drop)) (fun c1 => iff_f ?_)
  have hwd := checkW_ok c1
  refine ldN_at h2 0 (vs := x.cs) rfl (by rfl) rfl ?_
  refine copied_s (x := x) (i + 1) (by simpa using hi) h2 hr hs fun X w3 hX h3 => ?_
  refine bld_s (X.cs ++ [.slice none 0 0, .slice none 0 0]) (by kernel_rfl) ?_
  refine al_s (cs := X.cs ++ [.slice none 0 0, .slice none 0 0]) h3 rfl fun r w4 h4 => ?_
  refine fld_at (ld1_at h4 2 rfl (v := x.fv) rfl ?_)
  refine lnS_rd h4 (i + 3) (by simpa using hi) (fun g hg => (hr g hg).feds) ?_
  have hfl := hs.feds
  rw [zero_53]
  refine lpi1 (fun q t24 w => ∃ (j : Nat) (fv : Value), j ≤ x.Feds.length ∧ t24 = .int .i64 j ∧ q = x.Feds.length - j ∧
      Sat e w (ownS 70 3 FedS.cs fv ((x.Feds.take j).map fun f => ⟨f.Start, f.Init.length, .slice none 0 0, []⟩) :: blk r 68 (X.cs ++ [fv, .slice none 0 0]) :: WdOwn X :: blk b 25 x.cs :: L)) x.Feds.length
    ⟨0, .slice none 0 0, Nat.zero_le _, rfl, rfl, h4.own_nil 70 3 FedS.cs⟩ ?_
  rintro q _ w g ⟨j, fv, hj, rfl, rfl, h5⟩ hg
  refine lt_c (fun c0 => iff_t ?_) (fun c0 => iff_f ?_)
  · obtain ⟨fd, hf⟩ := get_of_lt (l := x.Feds) (j := j) (by omega)
    have hfm := List.mem_of_getElem? hf
    refine ixS_rd h5 (i + 4) (by simpa using hi) (fun g hg => (hr g hg).feds) (fun _ => rfl) hf fun a ha => ?_
    refine ldN_of h5 (i + 4) (by simpa using hi) ha rfl ?_
    refine al_s (cs := [.int .i64 0, .int .i64 0, .int .i64 0, .slice none 0 0, .slice none 0 0, .slice none 0 0, .slice none 0 0]) h5 rfl fun t w6 h6 => ?_
    refine stN_at h6 0 rfl (vs := fd.cs) rfl rfl (by simp) (fed_cells i hi hS fun g hg => (hr g hg).fed fd hfm) (cs' := fd.cs) (by rfl) fun w7 h7 => ?_
    refine dr_s h7 fun w8 h8 => ?_
    refine ncP_p (fld_at (ld1_at h8 2 rfl (v := fv) rfl ?_))
    refine fld_at (ld1_at h8 0 rfl (v := .int .i64 fd.Start) rfl ?_)
    refine fld_at (ld1_at h8 0 rfl (v := fd.iv) rfl ?_)
    refine lnS_rd h8 (i + 5) (by simpa using hi) (fun g hg => ((hr g hg).fed fd hfm).init) ?_
    refine bld_s (⟨fd.Start, fd.Init.length, .slice none 0 0, []⟩ : FedS).cs (by kernel_rfl) ?_
    refine ⟨ld1_at h8 2 rfl (v := fv) rfl ⟨rfl, rfl⟩, ?_⟩
    refine bsl1 (vs := (⟨fd.Start, fd.Init.length, .slice none 0 0, []⟩ : FedS).cs) rfl rfl h8 fun bb w9 h9 => ?_
    refine ⟨ld1_at h9 3 rfl (v := fv) rfl ⟨rfl, rfl⟩, ?_⟩
    refine apS_ownM te_65 te_65.und (f := FedS.cs) (m := [⟨fd.Start, fd.Init.length, .slice none 0 0, []⟩]) (fun _ => rfl) (fun y hy c hc => ?_) (h9.selR [_, _, _, _] [_, _, _, _] [2, 0, 1, 3] (by decide) rfl) (blk_rd1 (f := FedS.cs) (x := ⟨fd.Start, fd.Init.length, .slice none 0 0, []⟩) (Nat.le_refl _)) (by simp; omega) fun fv' w10 h10 => ?_
    · rw [List.mem_singleton.1 hy] at hc
      simp only [FedS.cs, List.mem_cons, List.not_mem_nil, or_false] at hc
      rcases hc with rfl | rfl | rfl <;> rfl
    have q1 := h10.own_cells 0 rfl
    refine ncP_p (fld_at (stN_at h10 3 rfl (vs := [fv']) q1.1 rfl (Nat.le_of_ble_eq_true rfl) (fun c hc => by rw [List.mem_singleton.1 hc]; exact q1.2) (cs' := X.cs ++ [fv', .slice none 0 0]) (by rfl) fun w11 h11 => ?_))
    refine inc_s (by omega) ?_
    refine hg _ _ _ (by omega) ⟨j + 1, fv', by omega, rfl, rfl, ?_⟩
    rw [take_snoc hf, List.map_append]
    exact h11.selR [_, _, _, _] [_, _] [0, 3] (by decide) rfl
  · have ej : j = x.Feds.length := by omega
    rw [ej, List.take_length] at h5
    refine ldN_at h5 3 (vs := x.cs) rfl (by rfl) rfl ?_
    have hfl2 : x.w.Feds.length = x.Feds.length := by simp [WdX.w]
    refine starts_s (x := x) (i + 4) (by simpa using hi) h5 hr hs hwd.tree (by rw [← hfl2]; exact hwd.n.2) (fun f hf => ?_) fun mv w6 h6 hml => ?_
    · have := hwd.init f.f (List.mem_map_of_mem hf)
      exact ⟨this.1, fun o ho => (this.2 o ho).1⟩
    have h7 : Sat e w6 (IsW r (X.cs ++ [fv]) [] :: ownS 37 6 Msg.cs mv (startsL x.w.Parents x.w.Feds x.w.Feds) :: ownS 70 3 FedS.cs fv (x.Feds.map fun f => ⟨f.Start, f.Init.length, .slice none 0 0, []⟩) :: WdOwn X :: blk b 25 x.cs :: L) :=
      isW_mk (v := .slice none 0 0) rfl (by
        have h8 := h6.own_nil 37 6 Msg.cs
        exact h8.selR [_, _, _, _] [_, _, _, _] [3, 0, 1, 2] (by decide) rfl)
    refine each_s (ms := startsL x.w.Parents x.w.Feds x.w.Feds) 0 rfl h7 (fun g hg => own_rd hg) (by simp; omega) fun l' w8 hp hh h8 => ?_
    rw [List.append_nil] at hp
    have hheap : Heapy l' l'.length := hh fun i x y hi hn => by simp at hn
    refine hok c1 r _ (solo_mk (X := X) ⟨hX, short_w hX hs, hwd, runOk_init hwd⟩ (run_mk (fv := fv) (fs := x.Feds.map fun f => ⟨f.Start, f.Init.length, .slice none 0 0, []⟩) (arr := l') ⟨?_, ?_, hheap⟩ ?_))
    · simp only [initR, WdX.w, List.map_map]
      rfl
    · have h9 := putL_perm (startsL x.w.Parents x.w.Feds x.w.Feds) []
      rw [List.append_nil] at h9
      exact hp.trans h9.symm
    · have hlogs : ∀ (m : List FedX) (Q : List HP), Sat e w8 Q → Sat e w8 ((m.map fun f => logOwn ⟨f.Start, f.Init.length, .slice none 0 0, []⟩) ++ Q) := by
        intro m Q hQ
        induction m with
        | nil => exact hQ
        | cons f m ih => exact ih.own_nil 39 7 Done.cs
      have h10 := Sat.join (hlogs x.Feds _ h8)
      rw [List.map_map]
      exact h10.selR [_, _, _, _, _, _] [_, _, _, _] [1, 3, 0, 4] (by decide) rfl
end Go.Proofs.Ytfcnjbannejchaa
